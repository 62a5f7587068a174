/- The walk of AdmitDoes: it answers true at every gate, every config and every sample. -/
import Derived.Test.YtekbgfpfafjobaaAdmitRef
import Derived.Deep.RegionHeld3
namespace Go.Proofs.Ytekbgfpfafjobaa.Admit
open Go.RowKit

/-- How many steps there are between, and why none are told. -/
theorem waits (s b e l : Int) : ∃ n j : Int, (∀ w, Calls Try.prog 32 #[.int .i64 s, .int .i64 b, .int .i64 e, .int .i64 l] w fun r w' => r = .returned (.tuple #[.int .i64 n, .int .i64 j]) ∧ w = w') ∧ (∀ w, Calls Try.prog 35 #[.int .i64 s, .int .i64 b, .int .i64 e, .int .i64 l] w fun r w' => r = .returned (.tuple #[.int .i64 n, .int .i64 j]) ∧ w = w') := by
  by_cases h : WaitOk s b e l
  · exact ⟨_, _, fun w => wait_ok s b e l w h, fun w => refWait_ok s b e l w h⟩
  · exact ⟨_, _, fun w => wait_bad s b e l w h, fun w => refWait_bad s b e l w h⟩

/-- What the last statement reads, in the world in which it stands. -/
abbrev Five (B b0 b2 b3 b4 b5 : Nat) (w : World) (g y : Int) (W : World) : Prop :=
  (W.cell? ⟨b0, 0, none⟩ = some (.int .i64 g) ∧ W.cell? ⟨b2, 0, none⟩ = some (.int .i64 y) ∧ W.cell? ⟨b3, 0, none⟩ = some (.int .i64 y) ∧ W.cell? ⟨b4, 0, none⟩ = some (.int .i64 0) ∧ W.cell? ⟨b5, 0, none⟩ = some (.int .i64 0)) ∧ B < W.heap.size ∧ Below w.heap.size w W
theorem five_below {B b0 b2 b3 b4 b5 : Nat} {w : World} {g y : Int} {W W' : World} (n0 : b0 ≤ B) (n2 : b2 ≤ B) (n3 : b3 ≤ B) (n4 : b4 ≤ B) (n5 : b5 ≤ B) (h : Five B b0 b2 b3 b4 b5 w g y W) (hb : Below W.heap.size W W') : Five B b0 b2 b3 b4 b5 w g y W' := by
  obtain ⟨⟨h0, h2, h3, h4, h5⟩, hl, hw⟩ := h
  exact ⟨⟨(hb.cell (p := ⟨b0, 0, none⟩) (Nat.lt_of_le_of_lt n0 hl)).trans h0, (hb.cell (p := ⟨b2, 0, none⟩) (Nat.lt_of_le_of_lt n2 hl)).trans h2, (hb.cell (p := ⟨b3, 0, none⟩) (Nat.lt_of_le_of_lt n3 hl)).trans h3, (hb.cell (p := ⟨b4, 0, none⟩) (Nat.lt_of_le_of_lt n4 hl)).trans h4, (hb.cell (p := ⟨b5, 0, none⟩) (Nat.lt_of_le_of_lt n5 hl)).trans h5⟩, Nat.lt_of_lt_of_le hl hb.size, hw.trans (hb.mono hw.size)⟩
theorem check_five {B b0 b2 b3 b4 b5 : Nat} {w : World} {g y : Int} (s a : Int) (W : World) (n0 : b0 ≤ B) (n2 : b2 ≤ B) (n3 : b3 ≤ B) (n4 : b4 ≤ B) (n5 : b5 ≤ B) (h : Five B b0 b2 b3 b4 b5 w g y W) :
    Calls Try.prog 31 #[.agg #[.int .i64 s], .int .i64 a] W fun e W' => e = .returned (.int .i64 (gateE s a)) ∧ Five B b0 b2 b3 b4 b5 w g y W' :=
  (check_any s a W).mono fun _ _ ⟨he, hb⟩ => ⟨he, five_below n0 n2 n3 n4 n5 h hb⟩
theorem refCheck_five {B b0 b2 b3 b4 b5 : Nat} {w : World} {g y : Int} (s a : Int) (W : World) (n0 : b0 ≤ B) (n2 : b2 ≤ B) (n3 : b3 ≤ B) (n4 : b4 ≤ B) (n5 : b5 ≤ B) (h : Five B b0 b2 b3 b4 b5 w g y W) :
    Calls Try.prog 36 #[.agg #[.int .i64 s], .int .i64 a] W fun e W' => e = .returned (.int .i64 (gateE s a)) ∧ Five B b0 b2 b3 b4 b5 w g y W' :=
  (refCheck_any s a W).mono fun _ _ ⟨he, hb⟩ => ⟨he, five_below n0 n2 n3 n4 n5 h hb⟩

set_option maxHeartbeats 1600000 in
theorem does_any (g a s b e l : Int) (m : Bool) (w : World) :
    Calls Try.prog 11 #[.agg #[.int .i64 g], .bool m, .int .i64 a, .int .i64 s, .int .i64 b, .int .i64 e, .int .i64 l] w fun r w' => r = .returned (.bool true) ∧ Below w.heap.size w w' := by
  obtain ⟨n, j, hw, hv⟩ := waits s b e l
  have HW := Lib.hid hw
  have HV := Lib.hid hv
  clear hw hv
  generalize hx : askB g m a = x
  generalize hy : askS g m a = y
  generalize hz : gateE g a = z
  have Hx := Lib.hid hx
  have Hy := Lib.hid hy
  have Hz := Lib.hid hz
  clear hx hy hz
  have hxx : (x == x) = true := beq_iff_eq.2 rfl
  have hyy : (y == y) = true := beq_iff_eq.2 rfl
  have hzz : (z == z) = true := beq_iff_eq.2 rfl
  have hnn : (n == n) = true := beq_iff_eq.2 rfl
  have hjj : (j == j) = true := beq_iff_eq.2 rfl
  go_enter Try.func11, Try.ntmps11
  go_wp2_with fail
  have k0 := Cel.new w g
  refine (live_any _).mono ?_
  rintro r w1 ⟨rfl, b1⟩
  have k1 := k0.below b1
  have p1 := ((Below.refl w.heap.size w).alloc (Nat.le_refl _) (.cells #[.int .i64 g] 39)).trans (b1.mono (by simp <;> omega))
  have K1 := Lib.hid k1
  clear k0 b1
  obtain ⟨c1, k1⟩ := k1
  go_wp2_with fail
  refine (ask_any _ _ _ _).mono ?_
  rw [Hx.out, Hy.out, Hz.out]
  rintro r w2 ⟨rfl, b2⟩
  have k2 := (K1.out.below b2).alloc (.cells #[.int .i64 y] 39)
  have q2 := Cel.new w2 y
  have p2 := (p1.trans (b2.mono p1.size)).alloc (Nat.le_trans p1.size b2.size) (.cells #[.int .i64 y] 39)
  have K2 := Lib.hid k2
  have Q2 := Lib.hid q2
  obtain ⟨c2, l2⟩ := K1.out.below b2
  clear k2 q2 b2 c1 k1 K1 p1
  go_wp2_with fail
  refine (refAsk_any _ _ _ _).mono ?_
  rw [Hx.out, Hy.out, Hz.out]
  rintro r w3 ⟨rfl, b3⟩
  have k3 := (K2.out.below b3).alloc (.cells #[.int .i64 y] 39)
  have q3 := (Q2.out.below b3).alloc (.cells #[.int .i64 y] 39)
  have r3 := Cel.new w3 y
  have p3 := (p2.trans (b3.mono p2.size)).alloc (Nat.le_trans p2.size b3.size) (.cells #[.int .i64 y] 39)
  have K3 := Lib.hid k3
  have Q3 := Lib.hid q3
  have R3 := Lib.hid r3
  obtain ⟨c3, l3⟩ := K2.out.below b3
  clear k3 q3 r3 b3 c2 l2 K2 Q2 p2
  go_wp2_with fail
  refine (kept_any _ _ _).mono ?_
  rw [Hz.out]
  rintro r w4 ⟨rfl, b4⟩
  have k4 := (K3.out.below b4).alloc (.cells #[.int .i64 0] 39)
  have q4 := (Q3.out.below b4).alloc (.cells #[.int .i64 0] 39)
  have r4 := (R3.out.below b4).alloc (.cells #[.int .i64 0] 39)
  have t4 := Cel.new w4 0
  have p4 := (p3.trans (b4.mono p3.size)).alloc (Nat.le_trans p3.size b4.size) (.cells #[.int .i64 0] 39)
  have K4 := Lib.hid k4
  have Q4 := Lib.hid q4
  have R4 := Lib.hid r4
  have T4 := Lib.hid t4
  obtain ⟨c4, l4⟩ := K3.out.below b4
  clear k4 q4 r4 t4 b4 c3 l3 K3 Q3 R3 p3
  go_wp2_with fail
  refine (refKept_any _ _ _).mono ?_
  rw [Hz.out]
  rintro r w5 ⟨rfl, b5⟩
  have k5 := (K4.out.below b5).alloc (.cells #[.int .i64 0] 39)
  have q5 := (Q4.out.below b5).alloc (.cells #[.int .i64 0] 39)
  have r5 := (R4.out.below b5).alloc (.cells #[.int .i64 0] 39)
  have t5 := (T4.out.below b5).alloc (.cells #[.int .i64 0] 39)
  have u5 := Cel.new w5 0
  have p5 := (p4.trans (b5.mono p4.size)).alloc (Nat.le_trans p4.size b5.size) (.cells #[.int .i64 0] 39)
  obtain ⟨c5, l5⟩ := K4.out.below b5
  clear b5 c4 l4 K4 Q4 R4 T4 p4
  go_wp2_with fail
  refine (HW.out _).mono ?_
  rintro r w6 ⟨rfl, rfl⟩
  go_wp2_with fail
  refine (HV.out _).mono ?_
  rintro r w6 ⟨rfl, rfl⟩
  have n0 : w.heap.size ≤ w5.heap.size := Nat.le_of_lt l5
  have n2 : w2.heap.size ≤ w5.heap.size := Nat.le_of_lt_succ (by have := q5.2; simp at this; omega)
  have n3 : w3.heap.size ≤ w5.heap.size := Nat.le_of_lt_succ (by have := r5.2; simp at this; omega)
  have n4 : w4.heap.size ≤ w5.heap.size := Nat.le_of_lt_succ (by have := t5.2; simp at this; omega)
  have n5 : w5.heap.size ≤ w5.heap.size := Nat.le_refl _
  have F : Five w5.heap.size w.heap.size w2.heap.size w3.heap.size w4.heap.size w5.heap.size w g y (w5.alloc (.cells #[.int .i64 0] 39)) := ⟨⟨k5.1, q5.1, r5.1, t5.1, u5.1⟩, by simp, p5⟩
  clear k5 q5 r5 t5 u5 p5 c5 l5 HW HV
  revert F
  generalize w5.alloc (.cells #[.int .i64 0] 39) = W
  generalize w5.heap.size = B5 at *
  generalize w4.heap.size = B4 at *
  generalize w3.heap.size = B3 at *
  generalize w2.heap.size = B2 at *
  intro F
  go_wp2_with fail
  obtain ⟨⟨k5, q5, r5, t5, u5⟩, hl, hbw⟩ := F
  go_region_held3 (fun W' => (W'.cell? ⟨w.heap.size, 0, none⟩ = some (.int .i64 g) ∧ W'.cell? ⟨B2, 0, none⟩ = some (.int .i64 y) ∧ W'.cell? ⟨B3, 0, none⟩ = some (.int .i64 y) ∧ W'.cell? ⟨B4, 0, none⟩ = some (.int .i64 0) ∧ W'.cell? ⟨B5, 0, none⟩ = some (.int .i64 0)) ∧ B5 < W'.heap.size ∧ Below w.heap.size w W')
    (first | exact F | exact ⟨⟨k5, q5, r5, t5, u5⟩, hl, hbw.drew⟩)
    (first | (go_at_call 31; refine (check_five (B := B5) (b0 := w.heap.size) (b2 := B2) (b3 := B3) (b4 := B4) (b5 := B5) (w := w) (g := g) (y := y) _ _ _ n0 n2 n3 n4 n5 ?_).mono ?_; assumption; rw [Hz.out]; rintro e W' ⟨rfl, F⟩) | (go_at_call 36; refine (refCheck_five (B := B5) (b0 := w.heap.size) (b2 := B2) (b3 := B3) (b4 := B4) (b5 := B5) (w := w) (g := g) (y := y) _ _ _ n0 n2 n3 n4 n5 ?_).mono ?_; assumption; rw [Hz.out]; rintro e W' ⟨rfl, F⟩))
  have hb := F.2.2
  clear k5 q5 r5 t5 u5 hl hbw
  go_wp2_with fail
  go_ret
  exact ⟨rfl, hb⟩
end Go.Proofs.Ytekbgfpfafjobaa.Admit
