/- What Steps, Step and Back of package move answer; no condition. -/
import Derived.Test.YtekbgfpfafjobaaMove
import Derived.OneCell
namespace Go.Proofs.Ytekbgfpfafjobaa.Move
open Go.RowKit

set_option maxHeartbeats 400000 in
theorem steps_bad (c k s b : Int) (w : World) (h : ¬ (MoveOk c k s ∧ numOk b)) :
    Calls Try.prog 38 #[.agg #[.int .i64 c, .int .i64 k], .int .i64 s, .int .i64 b] w fun e w' => e = .returned (.tuple #[.int .i64 0, .int .i64 1]) ∧ Below w.heap.size w w' := by
  have hm := may_one_bad h
  have Hm := Lib.hid hm
  clear hm h
  go_enter Try.func38, Try.ntmps38
  go_wp2_with fail
  refine (may_one _ _ _ _ b _ (by simp) (by simp [go_sem])).mono ?_
  rw [Hm.out]
  rintro r w1 ⟨rfl, b1⟩
  go_wp2_with fail
  go_ret2
  exact ⟨rfl, (((Below.refl _ _).alloc (Nat.le_refl _) _).alloc (by simp) _).trans (b1.mono (by simp <;> omega))⟩

set_option maxHeartbeats 400000 in
theorem steps_ok (c k s b : Int) (w : World) (h : MoveOk c k s ∧ numOk b) :
    Calls Try.prog 38 #[.agg #[.int .i64 c, .int .i64 k], .int .i64 s, .int .i64 b] w fun e w' => e = .returned (.tuple #[.int .i64 (upT (s - c) b), .int .i64 0]) ∧ Below w.heap.size w w' := by
  have hm := may_one_ok h
  have Hm := Lib.hid hm
  clear hm
  obtain ⟨⟨h1, h2, h3, h4, h5⟩, h6, h7⟩ := h
  go_enter Try.func38, Try.ntmps38
  go_wp2_with fail
  refine (may_one _ _ _ _ b _ (by simp) (by simp [go_sem])).mono ?_
  rw [Hm.out]
  rintro r w1 ⟨rfl, b1⟩
  obtain ⟨hc, hf⟩ := bcell b1
  go_wp2_with fail
  refine (up_any _ _ _ (by omega) (by omega) (by omega) (by omega)).mono ?_
  rintro r w2 ⟨rfl, rfl⟩
  go_wp2_with fail
  go_ret2
  exact ⟨rfl, (((Below.refl _ _).alloc (Nat.le_refl _) _).alloc (by simp) _).trans (b1.mono (by simp <;> omega))⟩

/-- A block of two numbers. -/
theorem two_cells {w : World} {b : Nat} {u v : Value} {t : TypeId} (h : w.heap[b]? = some (.cells #[u, v] t (0, 0))) : w.cell? ⟨b, 0, none⟩ = some u ∧ w.cell? ⟨b, 1, none⟩ = some v ∧ w.frozen? ⟨b, 0, none⟩ = false ∧ w.frozen? ⟨b, 1, none⟩ = false :=
  ⟨by simp [World.cell?, h], by simp [World.cell?, h], by simp [World.frozen?, h], by simp [World.frozen?, h]⟩
theorem two_set0 {w : World} {b : Nat} {u v : Value} {t : TypeId} (h : w.heap[b]? = some (.cells #[u, v] t (0, 0))) (x : Value) : (w.setCell ⟨b, 0, none⟩ x).heap[b]? = some (.cells #[x, v] t (0, 0)) := by
  simp [World.setCell, Array.getElem?_modify, h]
theorem two_set1 {w : World} {b : Nat} {u v : Value} {t : TypeId} (h : w.heap[b]? = some (.cells #[u, v] t (0, 0))) (x : Value) : (w.setCell ⟨b, 1, none⟩ x).heap[b]? = some (.cells #[u, x] t (0, 0)) := by
  simp [World.setCell, Array.getElem?_modify, h]
theorem two_far {w : World} {b : Nat} {o : Obj} (h : w.heap[b]? = some o) {c i : Nat} (hp : b ≠ c) (u : Value) : (w.setCell ⟨c, i, none⟩ u).heap[b]? = some o := (Below.heap_setCell w ⟨c, i, none⟩ u b hp).trans h

/-- The cursor's block and the answer's, behind the call of may. -/
theorem step_blocks {w w1 : World} {c k b e : Int} (hb : Below (((w.alloc (.cells #[.int .i64 c, .int .i64 k] 53)).alloc (.cells #[.int .i64 0, .int .i64 0] 53)).alloc (.cells #[.int .i64 b, .int .i64 e] 3)).heap.size (((w.alloc (.cells #[.int .i64 c, .int .i64 k] 53)).alloc (.cells #[.int .i64 0, .int .i64 0] 53)).alloc (.cells #[.int .i64 b, .int .i64 e] 3)) w1) :
    w1.heap[w.heap.size]? = some (.cells #[.int .i64 c, .int .i64 k] 53 (0, 0)) ∧ w1.heap[w.heap.size + 1]? = some (.cells #[.int .i64 0, .int .i64 0] 53 (0, 0)) ∧ Below w.heap.size w w1 := by
  have m0 := heap_alloc_new w (.cells #[.int .i64 c, .int .i64 k] 53)
  have m1 := heap_alloc_new (w.alloc (.cells #[.int .i64 c, .int .i64 k] 53)) (.cells #[.int .i64 0, .int .i64 0] 53)
  simp only [World.size_alloc] at m1
  refine ⟨?_, ?_, ((((Below.refl _ _).alloc (Nat.le_refl _) _).alloc (by simp <;> omega) _).alloc (by simp <;> omega) _).trans (hb.mono (by simp <;> omega))⟩
  · rw [hb.block _ (by simp <;> omega), Below.heap_alloc _ _ _ (by simp <;> omega), Below.heap_alloc _ _ _ (by simp <;> omega)]; exact m0
  · rw [hb.block _ (by simp <;> omega), Below.heap_alloc _ _ _ (by simp <;> omega)]; exact m1

set_option maxHeartbeats 400000 in
theorem step_bad (c k s b e : Int) (w : World) (h : ¬ StepOk c k s b e) :
    Calls Try.prog 40 #[.agg #[.int .i64 c, .int .i64 k], .int .i64 s, .int .i64 b, .int .i64 e] w fun r w' => r = .returned (.tuple #[.agg #[.int .i64 0, .int .i64 0], .int .i64 0, .bool false, .bool false, .int .i64 1]) ∧ Below w.heap.size w w' := by
  have hm := may_two_bad h
  have Hm := Lib.hid hm
  clear hm h
  go_enter Try.func40, Try.ntmps40
  go_wp2_with fail
  refine (may_two _ _ _ _ b e _ (by simp) (by simp [go_sem]) (by simp [go_sem])).mono ?_
  rw [Hm.out]
  rintro r w1 ⟨rfl, b1⟩
  obtain ⟨m0, m1, be⟩ := step_blocks b1
  clear b1
  obtain ⟨c0, c1, f0, f1⟩ := two_cells m0
  obtain ⟨d0, d1, g0, g1⟩ := two_cells m1
  have M1 := Lib.hid m1
  clear m0 m1
  go_wp2_with fail
  have n1 := two_set1 (two_set0 M1.out (.int .i64 0)) (.int .i64 0)
  obtain ⟨x0, x1, _, _⟩ := two_cells n1
  exact bodyPost_ret (v := .tuple #[.agg #[.int .i64 0, .int .i64 0], .int .i64 0, .bool false, .bool false, .int .i64 1]) (by simp [results, Try.results40, go_sem, x0, x1]) rfl ⟨rfl, (be.setCell (by simp) _).setCell (by simp) _⟩

set_option maxHeartbeats 800000 in
theorem step_last (c k s b e : Int) (w : World) (h : StepOk c k s b e) (hs : s - c < b) :
    Calls Try.prog 40 #[.agg #[.int .i64 c, .int .i64 k], .int .i64 s, .int .i64 b, .int .i64 e] w fun r w' => r = .returned (.tuple #[.agg #[.int .i64 (c + (s - c)), .int .i64 (c + (s - c))], .int .i64 (s - c), .bool true, .bool true, .int .i64 0]) ∧ Below w.heap.size w w' := by
  have hm := may_two_ok h
  have Hm := Lib.hid hm
  clear hm
  obtain ⟨⟨h1, h2, h3, h4, h5⟩, ⟨h6, h7⟩, ⟨h8, h9⟩⟩ := h
  have hcc : (c + (s - c) == s) = true := beq_iff_eq.2 (by omega)
  go_enter Try.func40, Try.ntmps40
  go_wp2_with fail
  refine (may_two _ _ _ _ b e _ (by simp) (by simp [go_sem]) (by simp [go_sem])).mono ?_
  rw [Hm.out]
  rintro r w1 ⟨rfl, b1⟩
  obtain ⟨m0, m1, be⟩ := step_blocks b1
  clear b1
  obtain ⟨c0, c1, f0, f1⟩ := two_cells m0
  obtain ⟨d0, d1, g0, g1⟩ := two_cells m1
  have M1 := Lib.hid m1
  clear m0 m1
  go_wp2_with fail
  have n1 := two_set1 (two_set0 (two_far (i := 1) (two_far (i := 0) M1.out (show w.heap.size + 1 ≠ w.heap.size by omega) (.int .i64 (c + (s - c)))) (show w.heap.size + 1 ≠ w.heap.size by omega) (.int .i64 (c + (s - c)))) (.int .i64 (c + (s - c)))) (.int .i64 (c + (s - c)))
  obtain ⟨x0, x1, _, _⟩ := two_cells n1
  exact bodyPost_ret (v := .tuple #[.agg #[.int .i64 (c + (s - c)), .int .i64 (c + (s - c))], .int .i64 (s - c), .bool true, .bool true, .int .i64 0]) (by simp [results, Try.results40, go_sem, x0, x1]) rfl ⟨rfl, (((be.setCell (Nat.le_refl _) _).setCell (Nat.le_refl _) _).setCell (by simp) _).setCell (by simp) _⟩

set_option maxHeartbeats 800000 in
theorem step_just (c k s b e : Int) (w : World) (h : StepOk c k s b e) (hs : ¬ s - c < b) (hx : c + b = s) :
    Calls Try.prog 40 #[.agg #[.int .i64 c, .int .i64 k], .int .i64 s, .int .i64 b, .int .i64 e] w fun r w' => r = .returned (.tuple #[.agg #[.int .i64 (c + b), .int .i64 (c + b)], .int .i64 (b), .bool true, .bool true, .int .i64 0]) ∧ Below w.heap.size w w' := by
  have hm := may_two_ok h
  have Hm := Lib.hid hm
  clear hm
  obtain ⟨⟨h1, h2, h3, h4, h5⟩, ⟨h6, h7⟩, ⟨h8, h9⟩⟩ := h
  have hcc : (c + b == s) = true := beq_iff_eq.2 hx
  clear hx
  go_enter Try.func40, Try.ntmps40
  go_wp2_with fail
  refine (may_two _ _ _ _ b e _ (by simp) (by simp [go_sem]) (by simp [go_sem])).mono ?_
  rw [Hm.out]
  rintro r w1 ⟨rfl, b1⟩
  obtain ⟨m0, m1, be⟩ := step_blocks b1
  clear b1
  obtain ⟨c0, c1, f0, f1⟩ := two_cells m0
  obtain ⟨d0, d1, g0, g1⟩ := two_cells m1
  have M1 := Lib.hid m1
  clear m0 m1
  go_wp2_with fail
  have n1 := two_set1 (two_set0 (two_far (i := 1) (two_far (i := 0) M1.out (show w.heap.size + 1 ≠ w.heap.size by omega) (.int .i64 (c + b))) (show w.heap.size + 1 ≠ w.heap.size by omega) (.int .i64 (c + b))) (.int .i64 (c + b))) (.int .i64 (c + b))
  obtain ⟨x0, x1, _, _⟩ := two_cells n1
  exact bodyPost_ret (v := .tuple #[.agg #[.int .i64 (c + b), .int .i64 (c + b)], .int .i64 (b), .bool true, .bool true, .int .i64 0]) (by simp [results, Try.results40, go_sem, x0, x1]) rfl ⟨rfl, (((be.setCell (Nat.le_refl _) _).setCell (Nat.le_refl _) _).setCell (by simp) _).setCell (by simp) _⟩

set_option maxHeartbeats 800000 in
theorem step_kept (c k s b e : Int) (w : World) (h : StepOk c k s b e) (hs : ¬ s - c < b) (hx : ¬ c + b = s) (hk : e ≤ c + b - k) :
    Calls Try.prog 40 #[.agg #[.int .i64 c, .int .i64 k], .int .i64 s, .int .i64 b, .int .i64 e] w fun r w' => r = .returned (.tuple #[.agg #[.int .i64 (c + b), .int .i64 (c + b)], .int .i64 (b), .bool true, .bool false, .int .i64 0]) ∧ Below w.heap.size w w' := by
  have hm := may_two_ok h
  have Hm := Lib.hid hm
  clear hm
  obtain ⟨⟨h1, h2, h3, h4, h5⟩, ⟨h6, h7⟩, ⟨h8, h9⟩⟩ := h
  have hcc : (c + b == s) = false := beq_eq_false_iff_ne.2 hx
  go_enter Try.func40, Try.ntmps40
  go_wp2_with fail
  refine (may_two _ _ _ _ b e _ (by simp) (by simp [go_sem]) (by simp [go_sem])).mono ?_
  rw [Hm.out]
  rintro r w1 ⟨rfl, b1⟩
  obtain ⟨m0, m1, be⟩ := step_blocks b1
  clear b1
  obtain ⟨c0, c1, f0, f1⟩ := two_cells m0
  obtain ⟨d0, d1, g0, g1⟩ := two_cells m1
  have M1 := Lib.hid m1
  clear m0 m1
  go_wp2_with fail
  have n1 := two_set1 (two_set0 (two_far (i := 1) (two_far (i := 0) M1.out (show w.heap.size + 1 ≠ w.heap.size by omega) (.int .i64 (c + b))) (show w.heap.size + 1 ≠ w.heap.size by omega) (.int .i64 (c + b))) (.int .i64 (c + b))) (.int .i64 (c + b))
  obtain ⟨x0, x1, _, _⟩ := two_cells n1
  exact bodyPost_ret (v := .tuple #[.agg #[.int .i64 (c + b), .int .i64 (c + b)], .int .i64 (b), .bool true, .bool false, .int .i64 0]) (by simp [results, Try.results40, go_sem, x0, x1]) rfl ⟨rfl, (((be.setCell (Nat.le_refl _) _).setCell (Nat.le_refl _) _).setCell (by simp) _).setCell (by simp) _⟩

set_option maxHeartbeats 800000 in
theorem step_on (c k s b e : Int) (w : World) (h : StepOk c k s b e) (hs : ¬ s - c < b) (hx : ¬ c + b = s) (hk : ¬ e ≤ c + b - k) :
    Calls Try.prog 40 #[.agg #[.int .i64 c, .int .i64 k], .int .i64 s, .int .i64 b, .int .i64 e] w fun r w' => r = .returned (.tuple #[.agg #[.int .i64 (c + b), .int .i64 (k)], .int .i64 (b), .bool false, .bool false, .int .i64 0]) ∧ Below w.heap.size w w' := by
  have hm := may_two_ok h
  have Hm := Lib.hid hm
  clear hm
  obtain ⟨⟨h1, h2, h3, h4, h5⟩, ⟨h6, h7⟩, ⟨h8, h9⟩⟩ := h
  have hcc : (c + b == s) = false := beq_eq_false_iff_ne.2 hx
  go_enter Try.func40, Try.ntmps40
  go_wp2_with fail
  refine (may_two _ _ _ _ b e _ (by simp) (by simp [go_sem]) (by simp [go_sem])).mono ?_
  rw [Hm.out]
  rintro r w1 ⟨rfl, b1⟩
  obtain ⟨m0, m1, be⟩ := step_blocks b1
  clear b1
  obtain ⟨c0, c1, f0, f1⟩ := two_cells m0
  obtain ⟨d0, d1, g0, g1⟩ := two_cells m1
  have M1 := Lib.hid m1
  clear m0 m1
  go_wp2_with fail
  have n1 := two_set1 (two_set0 (two_far (i := 0) M1.out (show w.heap.size + 1 ≠ w.heap.size by omega) (.int .i64 (c + b))) (.int .i64 (c + b))) (.int .i64 k)
  obtain ⟨x0, x1, _, _⟩ := two_cells n1
  exact bodyPost_ret (v := .tuple #[.agg #[.int .i64 (c + b), .int .i64 (k)], .int .i64 (b), .bool false, .bool false, .int .i64 0]) (by simp [results, Try.results40, go_sem, x0, x1] <;> omega) rfl ⟨rfl, ((be.setCell (Nat.le_refl _) _).setCell (by simp) _).setCell (by simp) _⟩

/-- A step, in numbers: how many more, where the cursor is then, is it at the end, is it journalled, what is kept then. -/
def stN (c s b : Int) : Int := if s - c < b then s - c else b
def stC (c s b : Int) : Int := c + stN c s b
def stE (c s b : Int) : Bool := stC c s b == s
def stJ (c k s b e : Int) : Bool := stE c s b || decide (e ≤ stC c s b - k)
def stK (c k s b e : Int) : Int := if stJ c k s b e = true then stC c s b else k

theorem step_ok (c k s b e : Int) (w : World) (h : StepOk c k s b e) :
    Calls Try.prog 40 #[.agg #[.int .i64 c, .int .i64 k], .int .i64 s, .int .i64 b, .int .i64 e] w fun r w' => r = .returned (.tuple #[.agg #[.int .i64 (stC c s b), .int .i64 (stK c k s b e)], .int .i64 (stN c s b), .bool (stJ c k s b e), .bool (stE c s b), .int .i64 0]) ∧ Below w.heap.size w w' := by
  by_cases hs : s - c < b
  · have h1 : stN c s b = s - c := if_pos hs
    have h2 : stC c s b = c + (s - c) := by unfold stC; rw [h1]
    have h3 : stE c s b = true := by unfold stE; rw [h2]; exact beq_iff_eq.2 (by omega)
    have h4 : stJ c k s b e = true := by unfold stJ; rw [h3]; rfl
    have h5 : stK c k s b e = c + (s - c) := by unfold stK; rw [if_pos h4, h2]
    rw [h1, h2, h3, h4, h5]
    exact step_last c k s b e w h hs
  · have h1 : stN c s b = b := if_neg hs
    have h2 : stC c s b = c + b := by unfold stC; rw [h1]
    by_cases hx : c + b = s
    · have h3 : stE c s b = true := by unfold stE; rw [h2]; exact beq_iff_eq.2 hx
      have h4 : stJ c k s b e = true := by unfold stJ; rw [h3]; rfl
      have h5 : stK c k s b e = c + b := by unfold stK; rw [if_pos h4, h2]
      rw [h1, h2, h3, h4, h5]
      exact step_just c k s b e w h hs hx
    · have h3 : stE c s b = false := by unfold stE; rw [h2]; exact beq_eq_false_iff_ne.2 hx
      by_cases hk : e ≤ c + b - k
      · have h4 : stJ c k s b e = true := by unfold stJ; rw [h3, h2, decide_eq_true hk]; rfl
        have h5 : stK c k s b e = c + b := by unfold stK; rw [if_pos h4, h2]
        rw [h1, h2, h3, h4, h5]
        exact step_kept c k s b e w h hs hx hk
      · have h4 : stJ c k s b e = false := by unfold stJ; rw [h3, h2, decide_eq_false hk]; rfl
        have h5 : stK c k s b e = k := by unfold stK; rw [h4]; exact if_neg (by decide)
        rw [h1, h2, h3, h4, h5]
        exact step_on c k s b e w h hs hx hk

set_option maxHeartbeats 400000 in
theorem back_bad (c k s : Int) (w : World) (h : moveE c k s = 1) :
    Calls Try.prog 42 #[.agg #[.int .i64 c, .int .i64 k], .int .i64 s] w fun r w' => r = .returned (.tuple #[.agg #[.int .i64 0, .int .i64 0], .int .i64 1]) ∧ Below w.heap.size w w' := by
  go_enter Try.func42, Try.ntmps42
  go_wp2_with fail
  refine (check_any _ _ _ _).mono ?_
  rw [h]
  rintro r w1 ⟨rfl, b1⟩
  obtain ⟨hc, hf⟩ := bcell b1
  clear h
  go_wp2_with fail
  exact bodyPost_ret (v := .tuple #[.agg #[.int .i64 0, .int .i64 0], .int .i64 1]) (by simp [results, Try.results42, go_sem, hc]) rfl ⟨rfl, (((((Below.refl _ _).alloc (Nat.le_refl _) _).alloc (by simp) _).trans (b1.mono (by simp <;> omega))).setCell (by simp) _).setCell (by simp) _⟩
set_option maxHeartbeats 400000 in
theorem back_ok (c k s : Int) (w : World) (h : moveE c k s = 0) :
    Calls Try.prog 42 #[.agg #[.int .i64 c, .int .i64 k], .int .i64 s] w fun r w' => r = .returned (.tuple #[.agg #[.int .i64 k, .int .i64 k], .int .i64 0]) ∧ Below w.heap.size w w' := by
  go_enter Try.func42, Try.ntmps42
  go_wp2_with fail
  refine (check_any _ _ _ _).mono ?_
  rw [h]
  rintro r w1 ⟨rfl, b1⟩
  obtain ⟨hc, hf⟩ := bcell b1
  clear h
  go_wp2_with fail
  exact bodyPost_ret (v := .tuple #[.agg #[.int .i64 k, .int .i64 k], .int .i64 0]) (by simp [results, Try.results42, go_sem, hc]) rfl ⟨rfl, (((((Below.refl _ _).alloc (Nat.le_refl _) _).alloc (by simp) _).trans (b1.mono (by simp <;> omega))).setCell (by simp) _).setCell (by simp) _⟩
end Go.Proofs.Ytekbgfpfafjobaa.Move
