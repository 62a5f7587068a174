/- The walk of MoveParts: it answers true at every cursor and every four numbers. -/
import Derived.Test.YtekbgfpfafjobaaMovePlain2
namespace Go.Proofs.Ytekbgfpfafjobaa.Move
open Go.RowKit
set_option linter.unusedVariables false

/-- What Step answers, in a tuple. -/
def Stepped (C K N : Int) (j e : Bool) (r : Ending) : Prop := r = .returned (.tuple #[.agg #[.int .i64 C, .int .i64 K], .int .i64 N, .bool j, .bool e, .int .i64 0])

/-- Two steps and the one by both budgets: three calls, their answers under names. -/
theorem parts_facts {c k s a b e : Int} (h : StepOk c k s (a + b) e) (ha : 1 ≤ a) (hb : 1 ≤ b) (ha2 : a ≤ 500) (hb2 : b ≤ 500) :
    ∃ (C K C2 K2 K3 N2 N3 : Int) (j j2 j3 E E2 : Bool), 
      Hid (∀ w, Calls Try.prog 40 #[.agg #[.int .i64 c, .int .i64 k], .int .i64 s, .int .i64 (a + b), .int .i64 e] w fun r w' => Stepped C K (N2 + N3) j E r ∧ Below w.heap.size w w') ∧
      Hid (∀ w, Calls Try.prog 40 #[.agg #[.int .i64 c, .int .i64 k], .int .i64 s, .int .i64 a, .int .i64 e] w fun r w' => Stepped C2 K2 N2 j2 E2 r ∧ Below w.heap.size w w') ∧
      Hid (∀ w, Calls Try.prog 40 #[.agg #[.int .i64 C2, .int .i64 K2], .int .i64 s, .int .i64 b, .int .i64 e] w fun r w' => Stepped C K3 N3 j3 E r ∧ Below w.heap.size w w') ∧
      (0 ≤ N2 ∧ N2 ≤ 500 ∧ 0 ≤ N3 ∧ N3 ≤ 500) ∧ Hid (j = true → K = C) ∧ Hid (j = false → K = k) := by
  obtain ⟨⟨h1, h2, h3, h4, h5⟩, ⟨h6, h7⟩, ⟨h8, h9⟩⟩ := h
  have o2 : StepOk c k s a e := ⟨⟨h1, h2, h3, h4, h5⟩, ⟨by omega, by omega⟩, ⟨h8, h9⟩⟩
  have o1 : StepOk c k s (a + b) e := ⟨⟨h1, h2, h3, h4, h5⟩, ⟨by omega, by omega⟩, ⟨h8, h9⟩⟩
  obtain ⟨o3, u1, u2⟩ := step_leaves o2
  have o4 : StepOk (stC c s a) (stK c k s a e) s b e := ⟨o3, ⟨by omega, by omega⟩, ⟨h8, h9⟩⟩
  obtain ⟨t1, t2⟩ := stC_two h5 ha hb
  have t3 : stE (stC c s a) s b = stE c s (a + b) := by unfold stE; rw [t1]
  have q1 := step_ok c k s (a + b) e
  rw [t2] at q1
  have q3 := step_ok (stC c s a) (stK c k s a e) s b e
  rw [t1, t3] at q3
  refine ⟨_, _, _, _, _, _, _, _, _, _, _, _, fun w => q1 w o1, fun w => step_ok c k s a e w o2, fun w => q3 w o4, ?_, fun hj => if_pos hj, fun hj => if_neg (by rw [hj]; decide)⟩
  have l1 : stC c s a ≤ s := o3.2.2.2.2
  unfold stN
  constructor <;> (try constructor) <;> (try constructor) <;> (split <;> omega)

set_option maxHeartbeats 400000 in
theorem parts_out (c k s a b e : Int) (w : World) (h : ¬ (1 ≤ a ∧ 1 ≤ b ∧ a ≤ 500 ∧ b ≤ 500)) :
    Calls Try.prog 15 #[.agg #[.int .i64 c, .int .i64 k], .int .i64 s, .int .i64 a, .int .i64 b, .int .i64 e] w fun r w' => r = .returned (.bool true) ∧ Below w.heap.size w w' := by
  have H := Lib.hid h
  clear h
  by_cases h1 : a < 1
  · go_enter Try.func15, Try.ntmps15
    go_wp2_with fail
    refine (live_any _).mono ?_
    rintro r w1 ⟨rfl, b1⟩
    go_wp2_with fail
    go_ret
    exact ⟨rfl, ((Below.refl w.heap.size w).alloc (Nat.le_refl _) _).trans (b1.mono (by simp <;> omega))⟩
  by_cases h2 : b < 1
  · go_enter Try.func15, Try.ntmps15
    go_wp2_with fail
    refine (live_any _).mono ?_
    rintro r w1 ⟨rfl, b1⟩
    go_wp2_with fail
    go_ret
    exact ⟨rfl, ((Below.refl w.heap.size w).alloc (Nat.le_refl _) _).trans (b1.mono (by simp <;> omega))⟩
  by_cases h3 : a > 500
  · go_enter Try.func15, Try.ntmps15
    go_wp2_with fail
    refine (live_any _).mono ?_
    rintro r w1 ⟨rfl, b1⟩
    go_wp2_with fail
    go_ret
    exact ⟨rfl, ((Below.refl w.heap.size w).alloc (Nat.le_refl _) _).trans (b1.mono (by simp <;> omega))⟩
  by_cases h4 : b > 500
  · go_enter Try.func15, Try.ntmps15
    go_wp2_with fail
    refine (live_any _).mono ?_
    rintro r w1 ⟨rfl, b1⟩
    go_wp2_with fail
    go_ret
    exact ⟨rfl, ((Below.refl w.heap.size w).alloc (Nat.le_refl _) _).trans (b1.mono (by simp <;> omega))⟩
  · exact absurd ⟨by omega, by omega, by omega, by omega⟩ H.out

set_option maxHeartbeats 800000 in
theorem parts_bad (c k s a b e : Int) (w : World) (ha : 1 ≤ a) (hb : 1 ≤ b) (ha2 : a ≤ 500) (hb2 : b ≤ 500) (h : ¬ StepOk c k s (a + b) e) :
    Calls Try.prog 15 #[.agg #[.int .i64 c, .int .i64 k], .int .i64 s, .int .i64 a, .int .i64 b, .int .i64 e] w fun r w' => r = .returned (.bool true) ∧ Below w.heap.size w w' := by
  go_enter Try.func15, Try.ntmps15
  go_wp2_with fail
  have k0 := Cel2.new w c k
  refine (live_any _).mono ?_
  rintro r w1 ⟨rfl, b1⟩
  obtain ⟨⟨c1, d1⟩, l1⟩ := k0.below b1
  have p1 := ((Below.refl w.heap.size w).alloc (Nat.le_refl _) (.cells #[.int .i64 c, .int .i64 k] 53)).trans (b1.mono (by simp <;> omega))
  clear k0 b1
  go_wp2_with fail
  refine (step_bad _ _ _ _ _ _ h).mono ?_
  rintro r w2 ⟨rfl, b2⟩
  have p2 := p1.trans (b2.mono p1.size)
  go_wp2_with fail
  go_ret
  exact ⟨rfl, p2.alloc p2.size _⟩

set_option maxHeartbeats 1600000 in
theorem parts_ok (c k s a b e : Int) (w : World) (ha : 1 ≤ a) (hb : 1 ≤ b) (ha2 : a ≤ 500) (hb2 : b ≤ 500) (h : StepOk c k s (a + b) e) :
    Calls Try.prog 15 #[.agg #[.int .i64 c, .int .i64 k], .int .i64 s, .int .i64 a, .int .i64 b, .int .i64 e] w fun r w' => r = .returned (.bool true) ∧ Below w.heap.size w w' := by
  obtain ⟨C, K, C2, K2, K3, N2, N3, j, j2, j3, E, E2, Q1, Q2, Q3, ⟨n1, n2, n3, n4⟩, J1, J0⟩ := parts_facts h ha hb ha2 hb2
  clear h
  have hE : (E != E) = false := by cases E <;> rfl
  have hC : (C != C) = false := bne_self_eq_false _
  have hN : (N2 + N3 != N2 + N3) = false := bne_self_eq_false _
  have hCC : (C == C) = true := beq_iff_eq.2 rfl
  have hkk : (k == k) = true := beq_iff_eq.2 rfl
  cases j with
  | true =>
    obtain rfl := J1.out rfl
    clear J0 J1
    go_enter Try.func15, Try.ntmps15
    go_wp2_with fail
    have k0 := Cel2.new w c k
    refine (live_any _).mono ?_
    rintro r w1 ⟨rfl, b1⟩
    have k1 := k0.below b1
    have p1 := ((Below.refl w.heap.size w).alloc (Nat.le_refl _) (.cells #[.int .i64 c, .int .i64 k] 53)).trans (b1.mono (by simp <;> omega))
    have K1 := Lib.hid k1
    clear k0 b1
    obtain ⟨⟨c1, d1⟩, l1⟩ := k1
    go_wp2_with fail
    refine (Q1.out _).mono ?_
    rintro r w2 ⟨rfl, b2⟩
    have k2 := (K1.out.below b2).alloc (.cells #[.int .i64 K, .int .i64 K] 53)
    have q2 := Cel2.new w2 K K
    have p2 := (p1.trans (b2.mono p1.size)).alloc (Nat.le_trans p1.size b2.size) (.cells #[.int .i64 K, .int .i64 K] 53)
    have K2' := Lib.hid k2
    have Q2' := Lib.hid q2
    clear c1 d1 l1
    obtain ⟨⟨c2, d2⟩, l2⟩ := K1.out.below b2
    clear k2 q2 b2 K1 p1
    go_wp2_with fail
    refine (Q2.out _).mono ?_
    rintro r w3 ⟨rfl, b3⟩
    have k3 := (K2'.out.below b3).alloc (.cells #[.int .i64 C2, .int .i64 K2] 53)
    have q3 := (Q2'.out.below b3).alloc (.cells #[.int .i64 C2, .int .i64 K2] 53)
    have p3 := (p2.trans (b3.mono p2.size)).alloc (Nat.le_trans p2.size b3.size) (.cells #[.int .i64 C2, .int .i64 K2] 53)
    have K3' := Lib.hid k3
    have Q3' := Lib.hid q3
    clear k3 q3 b3 K2' Q2' p2 c2 d2 l2
    go_wp2_with fail
    refine (Q3.out _).mono ?_
    rintro r w4 ⟨rfl, b4⟩
    have p4 := (p3.trans (b4.mono p3.size)).alloc (Nat.le_trans p3.size b4.size) (.cells #[.int .i64 K, .int .i64 K3] 53)
    obtain ⟨⟨c4, d4⟩, l4⟩ := K3'.out.below b4
    obtain ⟨⟨e4, f4⟩, l5⟩ := Q3'.out.below b4
    clear b4 K3' Q3' p3 Q1 Q2 Q3
    go_wp2_with fail
    go_ret
    exact ⟨rfl, p4⟩
  | false =>
    obtain rfl := J0.out rfl
    clear J0 J1
    go_enter Try.func15, Try.ntmps15
    go_wp2_with fail
    have k0 := Cel2.new w c K
    refine (live_any _).mono ?_
    rintro r w1 ⟨rfl, b1⟩
    have k1 := k0.below b1
    have p1 := ((Below.refl w.heap.size w).alloc (Nat.le_refl _) (.cells #[.int .i64 c, .int .i64 K] 53)).trans (b1.mono (by simp <;> omega))
    have K1 := Lib.hid k1
    clear k0 b1
    obtain ⟨⟨c1, d1⟩, l1⟩ := k1
    go_wp2_with fail
    refine (Q1.out _).mono ?_
    rintro r w2 ⟨rfl, b2⟩
    have k2 := (K1.out.below b2).alloc (.cells #[.int .i64 C, .int .i64 K] 53)
    have q2 := Cel2.new w2 C K
    have p2 := (p1.trans (b2.mono p1.size)).alloc (Nat.le_trans p1.size b2.size) (.cells #[.int .i64 C, .int .i64 K] 53)
    have K2' := Lib.hid k2
    have Q2' := Lib.hid q2
    clear c1 d1 l1
    obtain ⟨⟨c2, d2⟩, l2⟩ := K1.out.below b2
    clear k2 q2 b2 K1 p1
    go_wp2_with fail
    refine (Q2.out _).mono ?_
    rintro r w3 ⟨rfl, b3⟩
    have k3 := (K2'.out.below b3).alloc (.cells #[.int .i64 C2, .int .i64 K2] 53)
    have q3 := (Q2'.out.below b3).alloc (.cells #[.int .i64 C2, .int .i64 K2] 53)
    have p3 := (p2.trans (b3.mono p2.size)).alloc (Nat.le_trans p2.size b3.size) (.cells #[.int .i64 C2, .int .i64 K2] 53)
    have K3' := Lib.hid k3
    have Q3' := Lib.hid q3
    clear k3 q3 b3 K2' Q2' p2 c2 d2 l2
    go_wp2_with fail
    refine (Q3.out _).mono ?_
    rintro r w4 ⟨rfl, b4⟩
    have p4 := (p3.trans (b4.mono p3.size)).alloc (Nat.le_trans p3.size b4.size) (.cells #[.int .i64 C, .int .i64 K3] 53)
    obtain ⟨⟨c4, d4⟩, l4⟩ := K3'.out.below b4
    obtain ⟨⟨e4, f4⟩, l5⟩ := Q3'.out.below b4
    clear b4 K3' Q3' p3 Q1 Q2 Q3
    go_wp2_with fail
    go_ret
    exact ⟨rfl, p4⟩

theorem parts_any (c k s a b e : Int) (w : World) :
    Calls Try.prog 15 #[.agg #[.int .i64 c, .int .i64 k], .int .i64 s, .int .i64 a, .int .i64 b, .int .i64 e] w fun r w' => r = .returned (.bool true) ∧ Below w.heap.size w w' := by
  by_cases h : 1 ≤ a ∧ 1 ≤ b ∧ a ≤ 500 ∧ b ≤ 500
  · by_cases ho : StepOk c k s (a + b) e
    · exact parts_ok c k s a b e w h.1 h.2.1 h.2.2.1 h.2.2.2 ho
    · exact parts_bad c k s a b e w h.1 h.2.1 h.2.2.1 h.2.2.2 ho
  · exact parts_out c k s a b e w h
end Go.Proofs.Ytekbgfpfafjobaa.Move
