/- The walk of MoveFewer: it answers true at every cursor and every three numbers. -/
import Derived.Test.YtekbgfpfafjobaaMovePlain2
namespace Go.Proofs.Ytekbgfpfafjobaa.Move
open Go.RowKit
set_option linter.unusedVariables false

set_option maxHeartbeats 800000 in
theorem fewer_both (c k s b e : Int) (w : World) (h : ¬ StepOk c k s b e) (hs : ¬ (MoveOk c k s ∧ numOk b)) :
    Calls Try.prog 13 #[.agg #[.int .i64 c, .int .i64 k], .int .i64 s, .int .i64 b, .int .i64 e] w fun r w' => r = .returned (.bool true) ∧ Below w.heap.size w w' := by
  go_enter Try.func13, Try.ntmps13
  go_wp2_with fail
  have k0 := Cel2.new w c k
  refine (live_any _).mono ?_
  rintro r w1 ⟨rfl, b1⟩
  have k1 := k0.below b1
  have p1 := ((Below.refl w.heap.size w).alloc (Nat.le_refl _) (.cells #[.int .i64 c, .int .i64 k] 53)).trans (b1.mono (by simp <;> omega))
  have K1 := Lib.hid k1
  clear k0 b1
  obtain ⟨⟨c1, d1⟩, l1⟩ := k1
  go_wp2_with fail
  refine (steps_bad _ _ _ _ _ hs).mono ?_
  rintro r w2 ⟨rfl, b2⟩
  have k2 := K1.out.below b2
  have p2 := p1.trans (b2.mono p1.size)
  have K2 := Lib.hid k2
  clear b2 p1 c1 d1 l1 K1
  obtain ⟨⟨c2, d2⟩, l2⟩ := k2
  go_wp2_with fail
  refine (jour_bad _ _ _ _ _ _ h).mono ?_
  rintro r w3 ⟨rfl, b3⟩
  have k3 := K2.out.below b3
  have p3 := p2.trans (b3.mono p2.size)
  have K3 := Lib.hid k3
  clear b3 p2 c2 d2 l2 K2
  obtain ⟨⟨c3, d3⟩, l3⟩ := k3
  go_wp2_with fail
  go_ret
  exact ⟨rfl, p3⟩

set_option maxHeartbeats 800000 in
theorem fewer_jour (c k s b e : Int) (w : World) (h : ¬ StepOk c k s b e) (hs : MoveOk c k s ∧ numOk b) :
    Calls Try.prog 13 #[.agg #[.int .i64 c, .int .i64 k], .int .i64 s, .int .i64 b, .int .i64 e] w fun r w' => r = .returned (.bool true) ∧ Below w.heap.size w w' := by
  go_enter Try.func13, Try.ntmps13
  go_wp2_with fail
  have k0 := Cel2.new w c k
  refine (live_any _).mono ?_
  rintro r w1 ⟨rfl, b1⟩
  have k1 := k0.below b1
  have p1 := ((Below.refl w.heap.size w).alloc (Nat.le_refl _) (.cells #[.int .i64 c, .int .i64 k] 53)).trans (b1.mono (by simp <;> omega))
  have K1 := Lib.hid k1
  clear k0 b1
  obtain ⟨⟨c1, d1⟩, l1⟩ := k1
  go_wp2_with fail
  refine (steps_ok _ _ _ _ _ hs).mono ?_
  rintro r w2 ⟨rfl, b2⟩
  have k2 := K1.out.below b2
  have p2 := p1.trans (b2.mono p1.size)
  have K2 := Lib.hid k2
  clear b2 p1 c1 d1 l1 K1
  obtain ⟨⟨c2, d2⟩, l2⟩ := k2
  go_wp2_with fail
  refine (jour_bad _ _ _ _ _ _ h).mono ?_
  rintro r w3 ⟨rfl, b3⟩
  have k3 := K2.out.below b3
  have p3 := p2.trans (b3.mono p2.size)
  have K3 := Lib.hid k3
  clear b3 p2 c2 d2 l2 K2
  obtain ⟨⟨c3, d3⟩, l3⟩ := k3
  go_wp2_with fail
  go_ret
  exact ⟨rfl, p3⟩

theorem fewer_facts {c k s b e : Int} (h : StepOk c k s b e) : ∃ N M : Int, Hid (upT (s - c) b = N) ∧ Hid (J s b e c k = M) ∧ Hid (J s b 1 c k = N) ∧ 0 ≤ M ∧ M ≤ N ∧ N ≤ 256 ∧ Hid (c < s → 1 ≤ N ∧ 1 ≤ M) ∧ Hid (¬ c < s → N = 0 ∧ M = 0) ∧ upT (s - c) (b + 1) ≤ N ∧ J s b (e + 1) c k ≤ M := by
  obtain ⟨⟨h1, h2, h3, h4, h5⟩, ⟨h6, h7⟩, ⟨h8, h9⟩⟩ := h
  have hS := S_bounds h6 _ c rfl h5
  have hJ1 := J_each h6 _ c k rfl h4 h5
  have hJm := J_mono (s := s) (e := 1) h6 (by omega) h8 h4
  rw [hJ1] at hJm
  have hJ0 := (J_bounds e h6 _ c k rfl h5).1
  exact ⟨S s b c, J s b e c k, rfl, rfl, hJ1, hJ0, hJm, by omega, fun hz => ⟨S_pos h6 hz, J_pos h6 h8 h4 hz⟩, fun hz => ⟨S_done h6 hz h5, J_done hz⟩, S_mono h6 h5, J_mono h6 h8 (by omega) h4⟩

set_option maxHeartbeats 1600000 in
theorem fewer_b_e_z (c k s b e : Int) (w : World) (h : StepOk c k s b e) (hb : b < 1024) (he : e < 1024) (hz : ¬ c < s) :
    Calls Try.prog 13 #[.agg #[.int .i64 c, .int .i64 k], .int .i64 s, .int .i64 b, .int .i64 e] w fun r w' => r = .returned (.bool true) ∧ Below w.heap.size w w' := by
  obtain ⟨N, M, HN, HM, HJ, m0, m1, n1, HP, HZ, hb2, he2⟩ := fewer_facts h
  obtain ⟨⟨h1, h2, h3, h4, h5⟩, ⟨h6, h7⟩, ⟨h8, h9⟩⟩ := h
  obtain ⟨rfl, rfl⟩ := HZ.out hz
  clear HP HZ hz
  go_enter Try.func13, Try.ntmps13
  go_wp2_with fail
  have k0 := Cel2.new w c k
  refine (live_any _).mono ?_
  rintro r w1 ⟨rfl, b1⟩
  have k1 := k0.below b1
  have p1 := ((Below.refl w.heap.size w).alloc (Nat.le_refl _) (.cells #[.int .i64 c, .int .i64 k] 53)).trans (b1.mono (by simp <;> omega))
  have K1 := Lib.hid k1
  clear k0 b1
  obtain ⟨⟨c1, d1⟩, l1⟩ := k1
  go_wp2_with fail
  refine (steps_ok _ _ _ _ _ ⟨⟨h1, h2, h3, h4, h5⟩, ⟨h6, h7⟩⟩).mono ?_
  rw [HN.out]
  rintro r w2 ⟨rfl, b2⟩
  have k2 := K1.out.below b2
  have p2 := p1.trans (b2.mono p1.size)
  have K2 := Lib.hid k2
  clear b2 p1 c1 d1 l1 K1
  obtain ⟨⟨c2, d2⟩, l2⟩ := k2
  go_wp2_with fail
  refine (jour_ok _ _ _ _ _ _ ⟨⟨h1, h2, h3, h4, h5⟩, ⟨h6, h7⟩, ⟨h8, h9⟩⟩).mono ?_
  rw [HM.out]
  rintro r w3 ⟨rfl, b3⟩
  have k3 := K2.out.below b3
  have p3 := p2.trans (b3.mono p2.size)
  have K3 := Lib.hid k3
  clear b3 p2 c2 d2 l2 K2
  obtain ⟨⟨c3, d3⟩, l3⟩ := k3
  go_wp2_with fail
  refine (jour_ok _ _ _ _ _ _ ⟨⟨h1, h2, h3, h4, h5⟩, ⟨h6, h7⟩, ⟨by omega, by omega⟩⟩).mono ?_
  rw [HJ.out]
  rintro r w4 ⟨rfl, b4⟩
  have k4 := K3.out.below b4
  have p4 := p3.trans (b4.mono p3.size)
  have K4 := Lib.hid k4
  clear b4 p3 c3 d3 l3 K3
  obtain ⟨⟨c4, d4⟩, l4⟩ := k4
  go_wp2_with fail
  refine (steps_ok _ _ _ _ _ ⟨⟨h1, h2, h3, h4, h5⟩, ⟨by omega, by omega⟩⟩).mono ?_
  rintro r w5 ⟨rfl, b5⟩
  have k5 := K4.out.below b5
  have p5 := p4.trans (b5.mono p4.size)
  have K5 := Lib.hid k5
  clear b5 p4 c4 d4 l4 K4
  obtain ⟨⟨c5, d5⟩, l5⟩ := k5
  go_wp2_with fail
  refine (jour_ok _ _ _ _ _ _ ⟨⟨h1, h2, h3, h4, h5⟩, ⟨h6, h7⟩, ⟨by omega, by omega⟩⟩).mono ?_
  rintro r w6 ⟨rfl, b6⟩
  have k6 := K5.out.below b6
  have p6 := p5.trans (b6.mono p5.size)
  have K6 := Lib.hid k6
  clear b6 p5 c5 d5 l5 K5
  obtain ⟨⟨c6, d6⟩, l6⟩ := k6
  go_wp2_with fail
  go_ret
  exact ⟨rfl, p6⟩

set_option maxHeartbeats 1600000 in
theorem fewer_b_e_nz (c k s b e : Int) (w : World) (h : StepOk c k s b e) (hb : b < 1024) (he : e < 1024) (hz : c < s) :
    Calls Try.prog 13 #[.agg #[.int .i64 c, .int .i64 k], .int .i64 s, .int .i64 b, .int .i64 e] w fun r w' => r = .returned (.bool true) ∧ Below w.heap.size w w' := by
  obtain ⟨N, M, HN, HM, HJ, m0, m1, n1, HP, HZ, hb2, he2⟩ := fewer_facts h
  obtain ⟨⟨h1, h2, h3, h4, h5⟩, ⟨h6, h7⟩, ⟨h8, h9⟩⟩ := h
  have hp := HP.out hz
  have hN0 : (N == 0) = false := beq_eq_false_iff_ne.2 (by omega)
  have hM0 : (M == 0) = false := beq_eq_false_iff_ne.2 (by omega)
  have hNN : (N == N) = true := beq_iff_eq.2 rfl
  clear HP HZ hz
  go_enter Try.func13, Try.ntmps13
  go_wp2_with fail
  have k0 := Cel2.new w c k
  refine (live_any _).mono ?_
  rintro r w1 ⟨rfl, b1⟩
  have k1 := k0.below b1
  have p1 := ((Below.refl w.heap.size w).alloc (Nat.le_refl _) (.cells #[.int .i64 c, .int .i64 k] 53)).trans (b1.mono (by simp <;> omega))
  have K1 := Lib.hid k1
  clear k0 b1
  obtain ⟨⟨c1, d1⟩, l1⟩ := k1
  go_wp2_with fail
  refine (steps_ok _ _ _ _ _ ⟨⟨h1, h2, h3, h4, h5⟩, ⟨h6, h7⟩⟩).mono ?_
  rw [HN.out]
  rintro r w2 ⟨rfl, b2⟩
  have k2 := K1.out.below b2
  have p2 := p1.trans (b2.mono p1.size)
  have K2 := Lib.hid k2
  clear b2 p1 c1 d1 l1 K1
  obtain ⟨⟨c2, d2⟩, l2⟩ := k2
  go_wp2_with fail
  refine (jour_ok _ _ _ _ _ _ ⟨⟨h1, h2, h3, h4, h5⟩, ⟨h6, h7⟩, ⟨h8, h9⟩⟩).mono ?_
  rw [HM.out]
  rintro r w3 ⟨rfl, b3⟩
  have k3 := K2.out.below b3
  have p3 := p2.trans (b3.mono p2.size)
  have K3 := Lib.hid k3
  clear b3 p2 c2 d2 l2 K2
  obtain ⟨⟨c3, d3⟩, l3⟩ := k3
  go_wp2_with fail
  refine (jour_ok _ _ _ _ _ _ ⟨⟨h1, h2, h3, h4, h5⟩, ⟨h6, h7⟩, ⟨by omega, by omega⟩⟩).mono ?_
  rw [HJ.out]
  rintro r w4 ⟨rfl, b4⟩
  have k4 := K3.out.below b4
  have p4 := p3.trans (b4.mono p3.size)
  have K4 := Lib.hid k4
  clear b4 p3 c3 d3 l3 K3
  obtain ⟨⟨c4, d4⟩, l4⟩ := k4
  go_wp2_with fail
  refine (steps_ok _ _ _ _ _ ⟨⟨h1, h2, h3, h4, h5⟩, ⟨by omega, by omega⟩⟩).mono ?_
  rintro r w5 ⟨rfl, b5⟩
  have k5 := K4.out.below b5
  have p5 := p4.trans (b5.mono p4.size)
  have K5 := Lib.hid k5
  clear b5 p4 c4 d4 l4 K4
  obtain ⟨⟨c5, d5⟩, l5⟩ := k5
  go_wp2_with fail
  refine (jour_ok _ _ _ _ _ _ ⟨⟨h1, h2, h3, h4, h5⟩, ⟨h6, h7⟩, ⟨by omega, by omega⟩⟩).mono ?_
  rintro r w6 ⟨rfl, b6⟩
  have k6 := K5.out.below b6
  have p6 := p5.trans (b6.mono p5.size)
  have K6 := Lib.hid k6
  clear b6 p5 c5 d5 l5 K5
  obtain ⟨⟨c6, d6⟩, l6⟩ := k6
  go_wp2_with fail
  go_ret
  exact ⟨rfl, p6⟩

set_option maxHeartbeats 1600000 in
theorem fewer_b_noe_z (c k s b e : Int) (w : World) (h : StepOk c k s b e) (hb : b < 1024) (he : ¬ e < 1024) (hz : ¬ c < s) :
    Calls Try.prog 13 #[.agg #[.int .i64 c, .int .i64 k], .int .i64 s, .int .i64 b, .int .i64 e] w fun r w' => r = .returned (.bool true) ∧ Below w.heap.size w w' := by
  obtain ⟨N, M, HN, HM, HJ, m0, m1, n1, HP, HZ, hb2, he2⟩ := fewer_facts h
  obtain ⟨⟨h1, h2, h3, h4, h5⟩, ⟨h6, h7⟩, ⟨h8, h9⟩⟩ := h
  obtain ⟨rfl, rfl⟩ := HZ.out hz
  clear HP HZ hz he2
  go_enter Try.func13, Try.ntmps13
  go_wp2_with fail
  have k0 := Cel2.new w c k
  refine (live_any _).mono ?_
  rintro r w1 ⟨rfl, b1⟩
  have k1 := k0.below b1
  have p1 := ((Below.refl w.heap.size w).alloc (Nat.le_refl _) (.cells #[.int .i64 c, .int .i64 k] 53)).trans (b1.mono (by simp <;> omega))
  have K1 := Lib.hid k1
  clear k0 b1
  obtain ⟨⟨c1, d1⟩, l1⟩ := k1
  go_wp2_with fail
  refine (steps_ok _ _ _ _ _ ⟨⟨h1, h2, h3, h4, h5⟩, ⟨h6, h7⟩⟩).mono ?_
  rw [HN.out]
  rintro r w2 ⟨rfl, b2⟩
  have k2 := K1.out.below b2
  have p2 := p1.trans (b2.mono p1.size)
  have K2 := Lib.hid k2
  clear b2 p1 c1 d1 l1 K1
  obtain ⟨⟨c2, d2⟩, l2⟩ := k2
  go_wp2_with fail
  refine (jour_ok _ _ _ _ _ _ ⟨⟨h1, h2, h3, h4, h5⟩, ⟨h6, h7⟩, ⟨h8, h9⟩⟩).mono ?_
  rw [HM.out]
  rintro r w3 ⟨rfl, b3⟩
  have k3 := K2.out.below b3
  have p3 := p2.trans (b3.mono p2.size)
  have K3 := Lib.hid k3
  clear b3 p2 c2 d2 l2 K2
  obtain ⟨⟨c3, d3⟩, l3⟩ := k3
  go_wp2_with fail
  refine (jour_ok _ _ _ _ _ _ ⟨⟨h1, h2, h3, h4, h5⟩, ⟨h6, h7⟩, ⟨by omega, by omega⟩⟩).mono ?_
  rw [HJ.out]
  rintro r w4 ⟨rfl, b4⟩
  have k4 := K3.out.below b4
  have p4 := p3.trans (b4.mono p3.size)
  have K4 := Lib.hid k4
  clear b4 p3 c3 d3 l3 K3
  obtain ⟨⟨c4, d4⟩, l4⟩ := k4
  go_wp2_with fail
  refine (steps_ok _ _ _ _ _ ⟨⟨h1, h2, h3, h4, h5⟩, ⟨by omega, by omega⟩⟩).mono ?_
  rintro r w5 ⟨rfl, b5⟩
  have k5 := K4.out.below b5
  have p5 := p4.trans (b5.mono p4.size)
  have K5 := Lib.hid k5
  clear b5 p4 c4 d4 l4 K4
  obtain ⟨⟨c5, d5⟩, l5⟩ := k5
  go_wp2_with fail
  go_ret
  exact ⟨rfl, p5⟩

set_option maxHeartbeats 1600000 in
theorem fewer_b_noe_nz (c k s b e : Int) (w : World) (h : StepOk c k s b e) (hb : b < 1024) (he : ¬ e < 1024) (hz : c < s) :
    Calls Try.prog 13 #[.agg #[.int .i64 c, .int .i64 k], .int .i64 s, .int .i64 b, .int .i64 e] w fun r w' => r = .returned (.bool true) ∧ Below w.heap.size w w' := by
  obtain ⟨N, M, HN, HM, HJ, m0, m1, n1, HP, HZ, hb2, he2⟩ := fewer_facts h
  obtain ⟨⟨h1, h2, h3, h4, h5⟩, ⟨h6, h7⟩, ⟨h8, h9⟩⟩ := h
  have hp := HP.out hz
  have hN0 : (N == 0) = false := beq_eq_false_iff_ne.2 (by omega)
  have hM0 : (M == 0) = false := beq_eq_false_iff_ne.2 (by omega)
  have hNN : (N == N) = true := beq_iff_eq.2 rfl
  clear HP HZ hz he2
  go_enter Try.func13, Try.ntmps13
  go_wp2_with fail
  have k0 := Cel2.new w c k
  refine (live_any _).mono ?_
  rintro r w1 ⟨rfl, b1⟩
  have k1 := k0.below b1
  have p1 := ((Below.refl w.heap.size w).alloc (Nat.le_refl _) (.cells #[.int .i64 c, .int .i64 k] 53)).trans (b1.mono (by simp <;> omega))
  have K1 := Lib.hid k1
  clear k0 b1
  obtain ⟨⟨c1, d1⟩, l1⟩ := k1
  go_wp2_with fail
  refine (steps_ok _ _ _ _ _ ⟨⟨h1, h2, h3, h4, h5⟩, ⟨h6, h7⟩⟩).mono ?_
  rw [HN.out]
  rintro r w2 ⟨rfl, b2⟩
  have k2 := K1.out.below b2
  have p2 := p1.trans (b2.mono p1.size)
  have K2 := Lib.hid k2
  clear b2 p1 c1 d1 l1 K1
  obtain ⟨⟨c2, d2⟩, l2⟩ := k2
  go_wp2_with fail
  refine (jour_ok _ _ _ _ _ _ ⟨⟨h1, h2, h3, h4, h5⟩, ⟨h6, h7⟩, ⟨h8, h9⟩⟩).mono ?_
  rw [HM.out]
  rintro r w3 ⟨rfl, b3⟩
  have k3 := K2.out.below b3
  have p3 := p2.trans (b3.mono p2.size)
  have K3 := Lib.hid k3
  clear b3 p2 c2 d2 l2 K2
  obtain ⟨⟨c3, d3⟩, l3⟩ := k3
  go_wp2_with fail
  refine (jour_ok _ _ _ _ _ _ ⟨⟨h1, h2, h3, h4, h5⟩, ⟨h6, h7⟩, ⟨by omega, by omega⟩⟩).mono ?_
  rw [HJ.out]
  rintro r w4 ⟨rfl, b4⟩
  have k4 := K3.out.below b4
  have p4 := p3.trans (b4.mono p3.size)
  have K4 := Lib.hid k4
  clear b4 p3 c3 d3 l3 K3
  obtain ⟨⟨c4, d4⟩, l4⟩ := k4
  go_wp2_with fail
  refine (steps_ok _ _ _ _ _ ⟨⟨h1, h2, h3, h4, h5⟩, ⟨by omega, by omega⟩⟩).mono ?_
  rintro r w5 ⟨rfl, b5⟩
  have k5 := K4.out.below b5
  have p5 := p4.trans (b5.mono p4.size)
  have K5 := Lib.hid k5
  clear b5 p4 c4 d4 l4 K4
  obtain ⟨⟨c5, d5⟩, l5⟩ := k5
  go_wp2_with fail
  go_ret
  exact ⟨rfl, p5⟩

set_option maxHeartbeats 1600000 in
theorem fewer_nob_e_z (c k s b e : Int) (w : World) (h : StepOk c k s b e) (hb : ¬ b < 1024) (he : e < 1024) (hz : ¬ c < s) :
    Calls Try.prog 13 #[.agg #[.int .i64 c, .int .i64 k], .int .i64 s, .int .i64 b, .int .i64 e] w fun r w' => r = .returned (.bool true) ∧ Below w.heap.size w w' := by
  obtain ⟨N, M, HN, HM, HJ, m0, m1, n1, HP, HZ, hb2, he2⟩ := fewer_facts h
  obtain ⟨⟨h1, h2, h3, h4, h5⟩, ⟨h6, h7⟩, ⟨h8, h9⟩⟩ := h
  obtain ⟨rfl, rfl⟩ := HZ.out hz
  clear HP HZ hz hb2
  go_enter Try.func13, Try.ntmps13
  go_wp2_with fail
  have k0 := Cel2.new w c k
  refine (live_any _).mono ?_
  rintro r w1 ⟨rfl, b1⟩
  have k1 := k0.below b1
  have p1 := ((Below.refl w.heap.size w).alloc (Nat.le_refl _) (.cells #[.int .i64 c, .int .i64 k] 53)).trans (b1.mono (by simp <;> omega))
  have K1 := Lib.hid k1
  clear k0 b1
  obtain ⟨⟨c1, d1⟩, l1⟩ := k1
  go_wp2_with fail
  refine (steps_ok _ _ _ _ _ ⟨⟨h1, h2, h3, h4, h5⟩, ⟨h6, h7⟩⟩).mono ?_
  rw [HN.out]
  rintro r w2 ⟨rfl, b2⟩
  have k2 := K1.out.below b2
  have p2 := p1.trans (b2.mono p1.size)
  have K2 := Lib.hid k2
  clear b2 p1 c1 d1 l1 K1
  obtain ⟨⟨c2, d2⟩, l2⟩ := k2
  go_wp2_with fail
  refine (jour_ok _ _ _ _ _ _ ⟨⟨h1, h2, h3, h4, h5⟩, ⟨h6, h7⟩, ⟨h8, h9⟩⟩).mono ?_
  rw [HM.out]
  rintro r w3 ⟨rfl, b3⟩
  have k3 := K2.out.below b3
  have p3 := p2.trans (b3.mono p2.size)
  have K3 := Lib.hid k3
  clear b3 p2 c2 d2 l2 K2
  obtain ⟨⟨c3, d3⟩, l3⟩ := k3
  go_wp2_with fail
  refine (jour_ok _ _ _ _ _ _ ⟨⟨h1, h2, h3, h4, h5⟩, ⟨h6, h7⟩, ⟨by omega, by omega⟩⟩).mono ?_
  rw [HJ.out]
  rintro r w4 ⟨rfl, b4⟩
  have k4 := K3.out.below b4
  have p4 := p3.trans (b4.mono p3.size)
  have K4 := Lib.hid k4
  clear b4 p3 c3 d3 l3 K3
  obtain ⟨⟨c4, d4⟩, l4⟩ := k4
  go_wp2_with fail
  refine (jour_ok _ _ _ _ _ _ ⟨⟨h1, h2, h3, h4, h5⟩, ⟨h6, h7⟩, ⟨by omega, by omega⟩⟩).mono ?_
  rintro r w5 ⟨rfl, b5⟩
  have k5 := K4.out.below b5
  have p5 := p4.trans (b5.mono p4.size)
  have K5 := Lib.hid k5
  clear b5 p4 c4 d4 l4 K4
  obtain ⟨⟨c5, d5⟩, l5⟩ := k5
  go_wp2_with fail
  go_ret
  exact ⟨rfl, p5⟩

set_option maxHeartbeats 1600000 in
theorem fewer_nob_e_nz (c k s b e : Int) (w : World) (h : StepOk c k s b e) (hb : ¬ b < 1024) (he : e < 1024) (hz : c < s) :
    Calls Try.prog 13 #[.agg #[.int .i64 c, .int .i64 k], .int .i64 s, .int .i64 b, .int .i64 e] w fun r w' => r = .returned (.bool true) ∧ Below w.heap.size w w' := by
  obtain ⟨N, M, HN, HM, HJ, m0, m1, n1, HP, HZ, hb2, he2⟩ := fewer_facts h
  obtain ⟨⟨h1, h2, h3, h4, h5⟩, ⟨h6, h7⟩, ⟨h8, h9⟩⟩ := h
  have hp := HP.out hz
  have hN0 : (N == 0) = false := beq_eq_false_iff_ne.2 (by omega)
  have hM0 : (M == 0) = false := beq_eq_false_iff_ne.2 (by omega)
  have hNN : (N == N) = true := beq_iff_eq.2 rfl
  clear HP HZ hz hb2
  go_enter Try.func13, Try.ntmps13
  go_wp2_with fail
  have k0 := Cel2.new w c k
  refine (live_any _).mono ?_
  rintro r w1 ⟨rfl, b1⟩
  have k1 := k0.below b1
  have p1 := ((Below.refl w.heap.size w).alloc (Nat.le_refl _) (.cells #[.int .i64 c, .int .i64 k] 53)).trans (b1.mono (by simp <;> omega))
  have K1 := Lib.hid k1
  clear k0 b1
  obtain ⟨⟨c1, d1⟩, l1⟩ := k1
  go_wp2_with fail
  refine (steps_ok _ _ _ _ _ ⟨⟨h1, h2, h3, h4, h5⟩, ⟨h6, h7⟩⟩).mono ?_
  rw [HN.out]
  rintro r w2 ⟨rfl, b2⟩
  have k2 := K1.out.below b2
  have p2 := p1.trans (b2.mono p1.size)
  have K2 := Lib.hid k2
  clear b2 p1 c1 d1 l1 K1
  obtain ⟨⟨c2, d2⟩, l2⟩ := k2
  go_wp2_with fail
  refine (jour_ok _ _ _ _ _ _ ⟨⟨h1, h2, h3, h4, h5⟩, ⟨h6, h7⟩, ⟨h8, h9⟩⟩).mono ?_
  rw [HM.out]
  rintro r w3 ⟨rfl, b3⟩
  have k3 := K2.out.below b3
  have p3 := p2.trans (b3.mono p2.size)
  have K3 := Lib.hid k3
  clear b3 p2 c2 d2 l2 K2
  obtain ⟨⟨c3, d3⟩, l3⟩ := k3
  go_wp2_with fail
  refine (jour_ok _ _ _ _ _ _ ⟨⟨h1, h2, h3, h4, h5⟩, ⟨h6, h7⟩, ⟨by omega, by omega⟩⟩).mono ?_
  rw [HJ.out]
  rintro r w4 ⟨rfl, b4⟩
  have k4 := K3.out.below b4
  have p4 := p3.trans (b4.mono p3.size)
  have K4 := Lib.hid k4
  clear b4 p3 c3 d3 l3 K3
  obtain ⟨⟨c4, d4⟩, l4⟩ := k4
  go_wp2_with fail
  refine (jour_ok _ _ _ _ _ _ ⟨⟨h1, h2, h3, h4, h5⟩, ⟨h6, h7⟩, ⟨by omega, by omega⟩⟩).mono ?_
  rintro r w5 ⟨rfl, b5⟩
  have k5 := K4.out.below b5
  have p5 := p4.trans (b5.mono p4.size)
  have K5 := Lib.hid k5
  clear b5 p4 c4 d4 l4 K4
  obtain ⟨⟨c5, d5⟩, l5⟩ := k5
  go_wp2_with fail
  go_ret
  exact ⟨rfl, p5⟩

set_option maxHeartbeats 1600000 in
theorem fewer_nob_noe_z (c k s b e : Int) (w : World) (h : StepOk c k s b e) (hb : ¬ b < 1024) (he : ¬ e < 1024) (hz : ¬ c < s) :
    Calls Try.prog 13 #[.agg #[.int .i64 c, .int .i64 k], .int .i64 s, .int .i64 b, .int .i64 e] w fun r w' => r = .returned (.bool true) ∧ Below w.heap.size w w' := by
  obtain ⟨N, M, HN, HM, HJ, m0, m1, n1, HP, HZ, hb2, he2⟩ := fewer_facts h
  obtain ⟨⟨h1, h2, h3, h4, h5⟩, ⟨h6, h7⟩, ⟨h8, h9⟩⟩ := h
  obtain ⟨rfl, rfl⟩ := HZ.out hz
  clear HP HZ hz hb2 he2
  go_enter Try.func13, Try.ntmps13
  go_wp2_with fail
  have k0 := Cel2.new w c k
  refine (live_any _).mono ?_
  rintro r w1 ⟨rfl, b1⟩
  have k1 := k0.below b1
  have p1 := ((Below.refl w.heap.size w).alloc (Nat.le_refl _) (.cells #[.int .i64 c, .int .i64 k] 53)).trans (b1.mono (by simp <;> omega))
  have K1 := Lib.hid k1
  clear k0 b1
  obtain ⟨⟨c1, d1⟩, l1⟩ := k1
  go_wp2_with fail
  refine (steps_ok _ _ _ _ _ ⟨⟨h1, h2, h3, h4, h5⟩, ⟨h6, h7⟩⟩).mono ?_
  rw [HN.out]
  rintro r w2 ⟨rfl, b2⟩
  have k2 := K1.out.below b2
  have p2 := p1.trans (b2.mono p1.size)
  have K2 := Lib.hid k2
  clear b2 p1 c1 d1 l1 K1
  obtain ⟨⟨c2, d2⟩, l2⟩ := k2
  go_wp2_with fail
  refine (jour_ok _ _ _ _ _ _ ⟨⟨h1, h2, h3, h4, h5⟩, ⟨h6, h7⟩, ⟨h8, h9⟩⟩).mono ?_
  rw [HM.out]
  rintro r w3 ⟨rfl, b3⟩
  have k3 := K2.out.below b3
  have p3 := p2.trans (b3.mono p2.size)
  have K3 := Lib.hid k3
  clear b3 p2 c2 d2 l2 K2
  obtain ⟨⟨c3, d3⟩, l3⟩ := k3
  go_wp2_with fail
  refine (jour_ok _ _ _ _ _ _ ⟨⟨h1, h2, h3, h4, h5⟩, ⟨h6, h7⟩, ⟨by omega, by omega⟩⟩).mono ?_
  rw [HJ.out]
  rintro r w4 ⟨rfl, b4⟩
  have k4 := K3.out.below b4
  have p4 := p3.trans (b4.mono p3.size)
  have K4 := Lib.hid k4
  clear b4 p3 c3 d3 l3 K3
  obtain ⟨⟨c4, d4⟩, l4⟩ := k4
  go_wp2_with fail
  go_ret
  exact ⟨rfl, p4⟩

set_option maxHeartbeats 1600000 in
theorem fewer_nob_noe_nz (c k s b e : Int) (w : World) (h : StepOk c k s b e) (hb : ¬ b < 1024) (he : ¬ e < 1024) (hz : c < s) :
    Calls Try.prog 13 #[.agg #[.int .i64 c, .int .i64 k], .int .i64 s, .int .i64 b, .int .i64 e] w fun r w' => r = .returned (.bool true) ∧ Below w.heap.size w w' := by
  obtain ⟨N, M, HN, HM, HJ, m0, m1, n1, HP, HZ, hb2, he2⟩ := fewer_facts h
  obtain ⟨⟨h1, h2, h3, h4, h5⟩, ⟨h6, h7⟩, ⟨h8, h9⟩⟩ := h
  have hp := HP.out hz
  have hN0 : (N == 0) = false := beq_eq_false_iff_ne.2 (by omega)
  have hM0 : (M == 0) = false := beq_eq_false_iff_ne.2 (by omega)
  have hNN : (N == N) = true := beq_iff_eq.2 rfl
  clear HP HZ hz hb2 he2
  go_enter Try.func13, Try.ntmps13
  go_wp2_with fail
  have k0 := Cel2.new w c k
  refine (live_any _).mono ?_
  rintro r w1 ⟨rfl, b1⟩
  have k1 := k0.below b1
  have p1 := ((Below.refl w.heap.size w).alloc (Nat.le_refl _) (.cells #[.int .i64 c, .int .i64 k] 53)).trans (b1.mono (by simp <;> omega))
  have K1 := Lib.hid k1
  clear k0 b1
  obtain ⟨⟨c1, d1⟩, l1⟩ := k1
  go_wp2_with fail
  refine (steps_ok _ _ _ _ _ ⟨⟨h1, h2, h3, h4, h5⟩, ⟨h6, h7⟩⟩).mono ?_
  rw [HN.out]
  rintro r w2 ⟨rfl, b2⟩
  have k2 := K1.out.below b2
  have p2 := p1.trans (b2.mono p1.size)
  have K2 := Lib.hid k2
  clear b2 p1 c1 d1 l1 K1
  obtain ⟨⟨c2, d2⟩, l2⟩ := k2
  go_wp2_with fail
  refine (jour_ok _ _ _ _ _ _ ⟨⟨h1, h2, h3, h4, h5⟩, ⟨h6, h7⟩, ⟨h8, h9⟩⟩).mono ?_
  rw [HM.out]
  rintro r w3 ⟨rfl, b3⟩
  have k3 := K2.out.below b3
  have p3 := p2.trans (b3.mono p2.size)
  have K3 := Lib.hid k3
  clear b3 p2 c2 d2 l2 K2
  obtain ⟨⟨c3, d3⟩, l3⟩ := k3
  go_wp2_with fail
  refine (jour_ok _ _ _ _ _ _ ⟨⟨h1, h2, h3, h4, h5⟩, ⟨h6, h7⟩, ⟨by omega, by omega⟩⟩).mono ?_
  rw [HJ.out]
  rintro r w4 ⟨rfl, b4⟩
  have k4 := K3.out.below b4
  have p4 := p3.trans (b4.mono p3.size)
  have K4 := Lib.hid k4
  clear b4 p3 c3 d3 l3 K3
  obtain ⟨⟨c4, d4⟩, l4⟩ := k4
  go_wp2_with fail
  go_ret
  exact ⟨rfl, p4⟩

theorem fewer_any (c k s b e : Int) (w : World) :
    Calls Try.prog 13 #[.agg #[.int .i64 c, .int .i64 k], .int .i64 s, .int .i64 b, .int .i64 e] w fun r w' => r = .returned (.bool true) ∧ Below w.heap.size w w' := by
  by_cases h : StepOk c k s b e
  · by_cases hb : b < 1024
    · by_cases he : e < 1024
      · by_cases hz : c < s
        · exact fewer_b_e_nz c k s b e w h hb he hz
        · exact fewer_b_e_z c k s b e w h hb he hz
      · by_cases hz : c < s
        · exact fewer_b_noe_nz c k s b e w h hb he hz
        · exact fewer_b_noe_z c k s b e w h hb he hz
    · by_cases he : e < 1024
      · by_cases hz : c < s
        · exact fewer_nob_e_nz c k s b e w h hb he hz
        · exact fewer_nob_e_z c k s b e w h hb he hz
      · by_cases hz : c < s
        · exact fewer_nob_noe_nz c k s b e w h hb he hz
        · exact fewer_nob_noe_z c k s b e w h hb he hz
  · by_cases hs : MoveOk c k s ∧ numOk b
    · exact fewer_jour c k s b e w h hs
    · exact fewer_both c k s b e w h hs
end Go.Proofs.Ytekbgfpfafjobaa.Move
