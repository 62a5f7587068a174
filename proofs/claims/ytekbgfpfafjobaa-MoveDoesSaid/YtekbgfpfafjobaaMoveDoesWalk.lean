/- The walk of MoveDoes: it answers true at every cursor and every three numbers. -/
import Derived.Test.YtekbgfpfafjobaaMoveRef2
import Derived.Deep.RegionHeld3
namespace Go.Proofs.Ytekbgfpfafjobaa.Move
open Go.RowKit
set_option linter.unusedVariables false

theorem both_step (c k s b e : Int) : ∃ (C K N : Int) (j E : Bool) (x : Int),
    Hid (∀ w, Calls Try.prog 40 #[.agg #[.int .i64 c, .int .i64 k], .int .i64 s, .int .i64 b, .int .i64 e] w fun r w' => r = .returned (.tuple #[.agg #[.int .i64 C, .int .i64 K], .int .i64 N, .bool j, .bool E, .int .i64 x]) ∧ Below w.heap.size w w') ∧
    Hid (∀ w, Calls Try.prog 41 #[.agg #[.int .i64 c, .int .i64 k], .int .i64 s, .int .i64 b, .int .i64 e] w fun r w' => r = .returned (.tuple #[.agg #[.int .i64 C, .int .i64 K], .int .i64 N, .bool j, .bool E, .int .i64 x]) ∧ Below w.heap.size w w') := by
  by_cases h : StepOk c k s b e
  · exact ⟨_, _, _, _, _, _, fun w => step_ok c k s b e w h, fun w => refStep_ok c k s b e w h⟩
  · exact ⟨_, _, _, _, _, _, fun w => step_bad c k s b e w h, fun w => refStep_bad c k s b e w h⟩
theorem both_back (c k s : Int) : ∃ (C K x : Int),
    Hid (∀ w, Calls Try.prog 42 #[.agg #[.int .i64 c, .int .i64 k], .int .i64 s] w fun r w' => r = .returned (.tuple #[.agg #[.int .i64 C, .int .i64 K], .int .i64 x]) ∧ Below w.heap.size w w') ∧
    Hid (∀ w, Calls Try.prog 43 #[.agg #[.int .i64 c, .int .i64 k], .int .i64 s] w fun r w' => r = .returned (.tuple #[.agg #[.int .i64 C, .int .i64 K], .int .i64 x]) ∧ Below w.heap.size w w') := by
  rcases moveE_01 c k s with h | h
  · exact ⟨_, _, _, fun w => back_ok c k s w h, fun w => refBack_ok c k s w h⟩
  · exact ⟨_, _, _, fun w => back_bad c k s w h, fun w => refBack_bad c k s w h⟩
theorem both_steps (c k s b : Int) : ∃ (N x : Int),
    Hid (∀ w, Calls Try.prog 38 #[.agg #[.int .i64 c, .int .i64 k], .int .i64 s, .int .i64 b] w fun r w' => r = .returned (.tuple #[.int .i64 N, .int .i64 x]) ∧ Below w.heap.size w w') ∧
    Hid (∀ w, Calls Try.prog 44 #[.agg #[.int .i64 c, .int .i64 k], .int .i64 s, .int .i64 b] w fun r w' => r = .returned (.tuple #[.int .i64 N, .int .i64 x]) ∧ Below w.heap.size w w') := by
  by_cases h : MoveOk c k s ∧ numOk b
  · exact ⟨_, _, fun w => steps_ok c k s b w h, fun w => refSteps_ok c k s b w h⟩
  · exact ⟨_, _, fun w => steps_bad c k s b w h, fun w => refSteps_bad c k s b w h⟩
theorem both_jour (c k s b e : Int) : ∃ (N x : Int),
    Hid (∀ w, Calls Try.prog 39 #[.agg #[.int .i64 c, .int .i64 k], .int .i64 s, .int .i64 b, .int .i64 e] w fun r w' => r = .returned (.tuple #[.int .i64 N, .int .i64 x]) ∧ Below w.heap.size w w') ∧
    Hid (∀ w, Calls Try.prog 45 #[.agg #[.int .i64 c, .int .i64 k], .int .i64 s, .int .i64 b, .int .i64 e] w fun r w' => r = .returned (.tuple #[.int .i64 N, .int .i64 x]) ∧ Below w.heap.size w w') := by
  by_cases h : StepOk c k s b e
  · exact ⟨_, _, fun w => jour_ok c k s b e w h, fun w => refJour_ok c k s b e w h⟩
  · exact ⟨_, _, fun w => jour_bad c k s b e w h, fun w => refJour_bad c k s b e w h⟩

/-- What the last statement reads, in the world in which it stands. -/
abbrev Five (B b0 b2 b3 b4 b5 : Nat) (w : World) (c k C K X Y : Int) (W : World) : Prop :=
  (W.cell? ⟨b0, 0, none⟩ = some (.int .i64 c) ∧ W.cell? ⟨b0, 1, none⟩ = some (.int .i64 k) ∧ W.cell? ⟨b2, 0, none⟩ = some (.int .i64 C) ∧ W.cell? ⟨b2, 1, none⟩ = some (.int .i64 K) ∧ W.cell? ⟨b3, 0, none⟩ = some (.int .i64 C) ∧ W.cell? ⟨b3, 1, none⟩ = some (.int .i64 K) ∧ W.cell? ⟨b4, 0, none⟩ = some (.int .i64 X) ∧ W.cell? ⟨b4, 1, none⟩ = some (.int .i64 Y) ∧ W.cell? ⟨b5, 0, none⟩ = some (.int .i64 X) ∧ W.cell? ⟨b5, 1, none⟩ = some (.int .i64 Y)) ∧ B < W.heap.size ∧ Below w.heap.size w W
theorem cell_on {W W' : World} {b B i : Nat} {v : Value} (h : W.cell? ⟨b, i, none⟩ = some v) (n : b ≤ B) (hl : B < W.heap.size) (hb : Below W.heap.size W W') : W'.cell? ⟨b, i, none⟩ = some v :=
  (hb.cell (p := ⟨b, i, none⟩) (Nat.lt_of_le_of_lt n hl)).trans h
theorem five_below {B b0 b2 b3 b4 b5 : Nat} {w : World} {c k C K X Y : Int} {W W' : World} (n0 : b0 ≤ B) (n2 : b2 ≤ B) (n3 : b3 ≤ B) (n4 : b4 ≤ B) (n5 : b5 ≤ B) (h : Five B b0 b2 b3 b4 b5 w c k C K X Y W) (hb : Below W.heap.size W W') : Five B b0 b2 b3 b4 b5 w c k C K X Y W' := by
  obtain ⟨⟨q0, q1, q2, q3, q4, q5, q6, q7, q8, q9⟩, hl, hw⟩ := h
  exact ⟨⟨cell_on q0 n0 hl hb, cell_on q1 n0 hl hb, cell_on q2 n2 hl hb, cell_on q3 n2 hl hb, cell_on q4 n3 hl hb, cell_on q5 n3 hl hb, cell_on q6 n4 hl hb, cell_on q7 n4 hl hb, cell_on q8 n5 hl hb, cell_on q9 n5 hl hb⟩, Nat.lt_of_lt_of_le hl hb.size, hw.trans (hb.mono hw.size)⟩
theorem check_five {B b0 b2 b3 b4 b5 : Nat} {w : World} {c k C K X Y : Int} (x y s : Int) (W : World) (n0 : b0 ≤ B) (n2 : b2 ≤ B) (n3 : b3 ≤ B) (n4 : b4 ≤ B) (n5 : b5 ≤ B) (h : Five B b0 b2 b3 b4 b5 w c k C K X Y W) :
    Calls Try.prog 46 #[.agg #[.int .i64 x, .int .i64 y], .int .i64 s] W fun e W' => e = .returned (.int .i64 (moveE x y s)) ∧ Five B b0 b2 b3 b4 b5 w c k C K X Y W' :=
  (check_any x y s W).mono fun _ _ ⟨he, hb⟩ => ⟨he, five_below n0 n2 n3 n4 n5 h hb⟩
theorem refCheck_five {B b0 b2 b3 b4 b5 : Nat} {w : World} {c k C K X Y : Int} (x y s : Int) (W : World) (n0 : b0 ≤ B) (n2 : b2 ≤ B) (n3 : b3 ≤ B) (n4 : b4 ≤ B) (n5 : b5 ≤ B) (h : Five B b0 b2 b3 b4 b5 w c k C K X Y W) :
    Calls Try.prog 47 #[.agg #[.int .i64 x, .int .i64 y], .int .i64 s] W fun e W' => e = .returned (.int .i64 (moveE x y s)) ∧ Five B b0 b2 b3 b4 b5 w c k C K X Y W' :=
  (refCheck_any x y s W).mono fun _ _ ⟨he, hb⟩ => ⟨he, five_below n0 n2 n3 n4 n5 h hb⟩

set_option maxRecDepth 100000 in
set_option maxHeartbeats 6400000 in
theorem does_any (c k s b e : Int) (w : World) :
    Calls Try.prog 16 #[.agg #[.int .i64 c, .int .i64 k], .int .i64 s, .int .i64 b, .int .i64 e] w fun r w' => r = .returned (.bool true) ∧ Below w.heap.size w w' := by
  obtain ⟨C, K, N, j, E, x, Q1, Q2⟩ := both_step c k s b e
  obtain ⟨X, Y, y, Q3, Q4⟩ := both_back c k s
  obtain ⟨M, z, Q5, Q6⟩ := both_steps c k s b
  obtain ⟨L, u, Q7, Q8⟩ := both_jour c k s b e
  obtain ⟨q, hq⟩ : ∃ q, moveE c k s = q := ⟨_, rfl⟩
  have Hq := Lib.hid hq
  clear hq
  have e1 : (C == C) = true := beq_iff_eq.2 rfl
  have e2 : (K == K) = true := beq_iff_eq.2 rfl
  have e3 : (N == N) = true := beq_iff_eq.2 rfl
  have e4 : (j == j) = true := beq_iff_eq.2 rfl
  have e5 : (E == E) = true := beq_iff_eq.2 rfl
  have e6 : (x == x) = true := beq_iff_eq.2 rfl
  have e7 : (X == X) = true := beq_iff_eq.2 rfl
  have e8 : (Y == Y) = true := beq_iff_eq.2 rfl
  have e9 : (y == y) = true := beq_iff_eq.2 rfl
  have ea : (M == M) = true := beq_iff_eq.2 rfl
  have eb : (z == z) = true := beq_iff_eq.2 rfl
  have ec : (L == L) = true := beq_iff_eq.2 rfl
  have ed : (u == u) = true := beq_iff_eq.2 rfl
  have ee : (q == q) = true := beq_iff_eq.2 rfl
  go_enter Try.func16, Try.ntmps16
  go_wp2_with fail
  have k0 := Cel2.new w c k
  refine (live_any _).mono ?_
  rintro r w1 ⟨rfl, b1⟩
  have K01 := Lib.hid (k0.below b1)
  have p1 := ((Below.refl w.heap.size w).alloc (Nat.le_refl _) (.cells #[.int .i64 c, .int .i64 k] 53)).trans (b1.mono (by simp <;> omega))
  clear k0 b1
  obtain ⟨⟨c1, d1⟩, l1⟩ := K01.out
  go_wp2_with fail
  refine (Q1.out _).mono ?_
  rintro r w2 ⟨rfl, b2⟩
  have K02 := Lib.hid ((K01.out.below b2).alloc (.cells #[.int .i64 C, .int .i64 K] 53))
  have R2_2 := Lib.hid (Cel2.new w2 C K)
  have p2 := (p1.trans (b2.mono p1.size)).alloc (Nat.le_trans p1.size b2.size) (.cells #[.int .i64 C, .int .i64 K] 53)
  clear c1 d1 l1
  obtain ⟨⟨c2, d2⟩, l2⟩ := K01.out.below b2
  clear b2 p1 K01
  go_wp2_with fail
  refine (Q2.out _).mono ?_
  rintro r w3 ⟨rfl, b3⟩
  have K03 := Lib.hid ((K02.out.below b3).alloc (.cells #[.int .i64 C, .int .i64 K] 53))
  have R2_3 := Lib.hid ((R2_2.out.below b3).alloc (.cells #[.int .i64 C, .int .i64 K] 53))
  have R3_3 := Lib.hid (Cel2.new w3 C K)
  have p3 := (p2.trans (b3.mono p2.size)).alloc (Nat.le_trans p2.size b3.size) (.cells #[.int .i64 C, .int .i64 K] 53)
  clear c2 d2 l2
  obtain ⟨⟨c3, d3⟩, l3⟩ := K02.out.below b3
  clear b3 p2 K02 R2_2
  go_wp2_with fail
  refine (Q3.out _).mono ?_
  rintro r w4 ⟨rfl, b4⟩
  have K04 := Lib.hid ((K03.out.below b4).alloc (.cells #[.int .i64 X, .int .i64 Y] 53))
  have R2_4 := Lib.hid ((R2_3.out.below b4).alloc (.cells #[.int .i64 X, .int .i64 Y] 53))
  have R3_4 := Lib.hid ((R3_3.out.below b4).alloc (.cells #[.int .i64 X, .int .i64 Y] 53))
  have R4_4 := Lib.hid (Cel2.new w4 X Y)
  have p4 := (p3.trans (b4.mono p3.size)).alloc (Nat.le_trans p3.size b4.size) (.cells #[.int .i64 X, .int .i64 Y] 53)
  clear c3 d3 l3
  obtain ⟨⟨c4, d4⟩, l4⟩ := K03.out.below b4
  clear b4 p3 K03 R2_3 R3_3
  go_wp2_with fail
  refine (Q4.out _).mono ?_
  rintro r w5 ⟨rfl, b5⟩
  have K05 := Lib.hid ((K04.out.below b5).alloc (.cells #[.int .i64 X, .int .i64 Y] 53))
  have R2_5 := Lib.hid ((R2_4.out.below b5).alloc (.cells #[.int .i64 X, .int .i64 Y] 53))
  have R3_5 := Lib.hid ((R3_4.out.below b5).alloc (.cells #[.int .i64 X, .int .i64 Y] 53))
  have R4_5 := Lib.hid ((R4_4.out.below b5).alloc (.cells #[.int .i64 X, .int .i64 Y] 53))
  have R5_5 := Lib.hid (Cel2.new w5 X Y)
  have p5 := (p4.trans (b5.mono p4.size)).alloc (Nat.le_trans p4.size b5.size) (.cells #[.int .i64 X, .int .i64 Y] 53)
  clear c4 d4 l4
  obtain ⟨⟨c5, d5⟩, l5⟩ := K04.out.below b5
  clear b5 p4 K04 R2_4 R3_4 R4_4
  go_wp2_with fail
  refine (Q5.out _).mono ?_
  rintro r w6 ⟨rfl, b6⟩
  have K06 := Lib.hid (K05.out.below b6)
  have R2_6 := Lib.hid (R2_5.out.below b6)
  have R3_6 := Lib.hid (R3_5.out.below b6)
  have R4_6 := Lib.hid (R4_5.out.below b6)
  have R5_6 := Lib.hid (R5_5.out.below b6)
  have p6 := p5.trans (b6.mono p5.size)
  clear c5 d5 l5
  obtain ⟨⟨c6, d6⟩, l6⟩ := K06.out
  clear b6 p5 K05 R2_5 R3_5 R4_5 R5_5
  go_wp2_with fail
  refine (Q6.out _).mono ?_
  rintro r w7 ⟨rfl, b7⟩
  have K07 := Lib.hid (K06.out.below b7)
  have R2_7 := Lib.hid (R2_6.out.below b7)
  have R3_7 := Lib.hid (R3_6.out.below b7)
  have R4_7 := Lib.hid (R4_6.out.below b7)
  have R5_7 := Lib.hid (R5_6.out.below b7)
  have p7 := p6.trans (b7.mono p6.size)
  clear c6 d6 l6
  obtain ⟨⟨c7, d7⟩, l7⟩ := K07.out
  clear b7 p6 K06 R2_6 R3_6 R4_6 R5_6
  go_wp2_with fail
  refine (Q7.out _).mono ?_
  rintro r w8 ⟨rfl, b8⟩
  have K08 := Lib.hid (K07.out.below b8)
  have R2_8 := Lib.hid (R2_7.out.below b8)
  have R3_8 := Lib.hid (R3_7.out.below b8)
  have R4_8 := Lib.hid (R4_7.out.below b8)
  have R5_8 := Lib.hid (R5_7.out.below b8)
  have p8 := p7.trans (b8.mono p7.size)
  clear c7 d7 l7
  obtain ⟨⟨c8, d8⟩, l8⟩ := K08.out
  clear b8 p7 K07 R2_7 R3_7 R4_7 R5_7
  go_wp2_with fail
  refine (Q8.out _).mono ?_
  rintro r w9 ⟨rfl, b9⟩
  have K09 := K08.out.below b9
  have R2_9 := R2_8.out.below b9
  have R3_9 := R3_8.out.below b9
  have R4_9 := R4_8.out.below b9
  have R5_9 := R5_8.out.below b9
  have p9 := p8.trans (b9.mono p8.size)
  clear b9 p8 c8 d8 l8 K08 R2_8 R3_8 R4_8 R5_8 Q1 Q2 Q3 Q4 Q5 Q6 Q7 Q8
  have hB : ∃ B, (w.heap.size ≤ B ∧ w2.heap.size ≤ B ∧ w3.heap.size ≤ B ∧ w4.heap.size ≤ B ∧ w5.heap.size ≤ B) ∧ B < w9.heap.size := by
    refine ⟨w9.heap.size - 1, ?_, ?_⟩
    · have h0 := K09.2
      have h2 := R2_9.2
      have h3 := R3_9.2
      have h4 := R4_9.2
      have h5 := R5_9.2
      omega
    · have h0 := K09.2
      omega
  obtain ⟨B, ⟨n0, n2, n3, n4, n5⟩, hl⟩ := hB
  have F : Five B w.heap.size w2.heap.size w3.heap.size w4.heap.size w5.heap.size w c k C K X Y w9 := ⟨⟨K09.1.1, K09.1.2, R2_9.1.1, R2_9.1.2, R3_9.1.1, R3_9.1.2, R4_9.1.1, R4_9.1.2, R5_9.1.1, R5_9.1.2⟩, hl, p9⟩
  clear K09 R2_9 R3_9 R4_9 R5_9 p9 hl
  revert F
  generalize w5.heap.size = B5 at *
  generalize w4.heap.size = B4 at *
  generalize w3.heap.size = B3 at *
  generalize w2.heap.size = B2 at *
  intro F
  go_wp2_with fail
  obtain ⟨⟨q0, q1, q2, q3, q4, q5, q6, q7, q8, q9⟩, hl, hbw⟩ := F
  simp only [List.append_eq, List.cons_append, List.nil_append]
  go_region_held3 (fun W' => (W'.cell? ⟨w.heap.size, 0, none⟩ = some (.int .i64 c) ∧ W'.cell? ⟨w.heap.size, 1, none⟩ = some (.int .i64 k) ∧ W'.cell? ⟨B2, 0, none⟩ = some (.int .i64 C) ∧ W'.cell? ⟨B2, 1, none⟩ = some (.int .i64 K) ∧ W'.cell? ⟨B3, 0, none⟩ = some (.int .i64 C) ∧ W'.cell? ⟨B3, 1, none⟩ = some (.int .i64 K) ∧ W'.cell? ⟨B4, 0, none⟩ = some (.int .i64 X) ∧ W'.cell? ⟨B4, 1, none⟩ = some (.int .i64 Y) ∧ W'.cell? ⟨B5, 0, none⟩ = some (.int .i64 X) ∧ W'.cell? ⟨B5, 1, none⟩ = some (.int .i64 Y)) ∧ B < W'.heap.size ∧ Below w.heap.size w W')
    (first | exact F | exact ⟨⟨q0, q1, q2, q3, q4, q5, q6, q7, q8, q9⟩, hl, hbw.drew⟩)
    (first | (go_at_call 46; refine (check_five (B := B) (b0 := w.heap.size) (b2 := B2) (b3 := B3) (b4 := B4) (b5 := B5) (w := w) (c := c) (k := k) (C := C) (K := K) (X := X) (Y := Y) _ _ _ _ n0 n2 n3 n4 n5 ?_).mono ?_; assumption; rw [Hq.out]; rintro e W' ⟨rfl, F⟩) | (go_at_call 47; refine (refCheck_five (B := B) (b0 := w.heap.size) (b2 := B2) (b3 := B3) (b4 := B4) (b5 := B5) (w := w) (c := c) (k := k) (C := C) (K := K) (X := X) (Y := Y) _ _ _ _ n0 n2 n3 n4 n5 ?_).mono ?_; assumption; rw [Hq.out]; rintro e W' ⟨rfl, F⟩))
  have hb := F.2.2
  clear q0 q1 q2 q3 q4 q5 q6 q7 q8 q9 hl hbw
  go_wp2_with fail
  go_ret
  exact ⟨rfl, hb⟩
end Go.Proofs.Ytekbgfpfafjobaa.Move
