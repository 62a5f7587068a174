/- The walk of LotsAround: it answers true at every word of 64 bits, every number of steps and every octet. -/
import Derived.Test.YtekbgfpfafjobaaJump
namespace Go.Proofs.Ytekbgfpfafjobaa.Lots
open Go.RowKit

set_option maxHeartbeats 400000 in
theorem around_any (x n f : Int) (x0 : 0 ≤ x) (x1 : x ≤ 18446744073709551615) (n0 : 0 ≤ n) (n1 : n ≤ 18446744073709551615) (f0 : 0 ≤ f) (f1 : f ≤ 255) (w : World) :
    Calls Try.prog 5 #[.int .u64 x, .int .u64 n, .int .u8 f] w fun e w' => e = .returned (.bool true) ∧ Below w.heap.size w w' := by
  go_enter Try.func5, Try.ntmps5
  go_wp2_with (first | (go_at_call 18; refine (live_any _).mono ?_; rintro e w' ⟨rfl, rfl⟩))
  go_loop [8, 14] (fun o i => ∃ k : Nat, k ≤ f ∧ i = .int .u8 k ∧ o = .int .u64 (jmp x (IntKind.u64.wrap (-(k : Int))))) (fun _ i => (f - intOf i).toNat)
  case atStart => exact ⟨0, by omega, rfl, by rw [show IntKind.u64.wrap (-((0 : Nat) : Int)) = 0 from by rw [IntKind.wrap_u64]; rfl]; rfl⟩
  case round =>
    obtain ⟨k, hk, rfl, rfl⟩ := hrel
    by_cases hlt : (k : Int) < f
    · go_wp2_with (first | (go_at_call 19; refine (last_any _ _).mono ?_; rintro e w' ⟨rfl, rfl⟩))
      go_round
      case rel => exact ⟨k + 1, by omega, by go_num, by rw [jmp_last x k x0 x1 (by omega)]; go_num⟩
      case measure => simp [intOf]; omega
    · obtain rfl : f = k := by omega
      have hr := jmp_round x n x0 x1 n0 n1
      have Hr := Lib.hid hr
      clear hr
      have hh := jmp_home x k x0 x1 (by omega)
      have Hh := Lib.hid hh
      clear hh
      have hxx : (x == x) = true := beq_iff_eq.2 rfl
      have hbb : (jmp x (IntKind.u64.wrap (-(k : Int))) == jmp x (IntKind.u64.wrap (-(k : Int)))) = true := beq_iff_eq.2 rfl
      go_wp2_with fail
      refine (jump_calls _ _ _ (by omega) (by omega)).mono ?_
      rintro e w1 ⟨rfl, b1⟩
      go_wp2_with fail
      refine (jump_calls _ _ _ (wrap_u64_range _).1 (wrap_u64_range _).2).mono ?_
      rintro e w2 ⟨rfl, b2⟩
      rw [Hr.out]
      go_wp2_with fail
      refine (jump_calls _ _ _ (by omega) (by omega)).mono ?_
      rintro e w3 ⟨rfl, b3⟩
      rw [Hh.out]
      go_wp2_with fail
      refine (jump_calls _ _ _ (wrap_u64_range _).1 (wrap_u64_range _).2).mono ?_
      rintro e w4 ⟨rfl, b4⟩
      go_wp2_with fail
      go_ret
      exact ⟨rfl, by_two (by_three b1 b2 b3) b4⟩
end Go.Proofs.Ytekbgfpfafjobaa.Lots
