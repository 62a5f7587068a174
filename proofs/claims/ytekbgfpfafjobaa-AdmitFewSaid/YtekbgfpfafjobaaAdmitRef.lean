/- What the reference of package admit answers, and the chapter's example; no condition. -/
import Derived.Test.YtekbgfpfafjobaaAsk
import Derived.Test.YtekbgfpfafjobaaWait
namespace Go.Proofs.Ytekbgfpfafjobaa.Admit
open Go.RowKit

set_option maxHeartbeats 400000 in
theorem refKept_any (s a : Int) (w : World) :
    Calls Try.prog 34 #[.agg #[.int .i64 s], .int .i64 a] w fun e w' => e = .returned (.tuple #[.agg #[.int .i64 0], .int .i64 (gateE s a)]) ∧ Below w.heap.size w w' := by
  rcases gateE_01 s a with h | h
  all_goals
    go_enter Try.func34, Try.ntmps34
    go_wp2_with fail
    refine (refCheck_any _ _ _).mono ?_
    rintro e w1 ⟨rfl, hb⟩
    obtain ⟨hc, hf⟩ := bcell hb
    rw [h]
    go_wp2_with fail
    exact bodyPost_ret (v := .tuple #[.agg #[.int .i64 0], .int .i64 (gateE s a)]) (by simp [results, Try.results34, go_sem, hc, h]) rfl ⟨by rw [h], ((((Below.refl _ _).alloc (Nat.le_refl _) _).alloc (by simp) _).trans (hb.mono (by simp <;> omega))).setCell (by simp) _⟩

set_option maxHeartbeats 400000 in
theorem refAsk_bad (s a : Int) (m : Bool) (w : World) (h : gateE s a = 1) :
    Calls Try.prog 33 #[.agg #[.int .i64 s], .bool m, .int .i64 a] w (Answers w false 0 1) := by
  go_enter Try.func33, Try.ntmps33
  go_wp2_with fail
  refine (refCheck_any _ _ _).mono ?_
  rintro e w1 ⟨rfl, hb⟩
  obtain ⟨hc, hf⟩ := bcell hb
  rw [h]
  clear h
  go_wp2_with fail
  exact bodyPost_ret (v := .tuple #[.bool false, .agg #[.int .i64 0], .int .i64 1]) (by simp [results, Try.results33, go_sem, hc]) rfl ⟨rfl, ((((Below.refl _ _).alloc (Nat.le_refl _) _).alloc (by simp) _).trans (hb.mono (by simp <;> omega))).setCell (by simp) _⟩

set_option maxHeartbeats 400000 in
theorem refAsk_free (s a : Int) (w : World) (h : gateE s a = 0) :
    Calls Try.prog 33 #[.agg #[.int .i64 s], .bool false, .int .i64 a] w (Answers w true 0 0) := by
  go_enter Try.func33, Try.ntmps33
  go_wp2_with fail
  refine (refCheck_any _ _ _).mono ?_
  rintro e w1 ⟨rfl, hb⟩
  obtain ⟨hc, hf⟩ := bcell hb
  rw [h]
  clear h
  go_wp2_with fail
  exact bodyPost_ret (v := .tuple #[.bool true, .agg #[.int .i64 0], .int .i64 0]) (by simp [results, Try.results33, go_sem, hc]) rfl ⟨rfl, ((((Below.refl _ _).alloc (Nat.le_refl _) _).alloc (by simp) _).trans (hb.mono (by simp <;> omega))).setCell (by simp) _⟩

set_option maxHeartbeats 400000 in
theorem refAsk_in (s a : Int) (w : World) (h : gateE s a = 0) (hlt : s < a) (_h0 : 0 ≤ s) (_h1 : s ≤ 1048576) :
    Calls Try.prog 33 #[.agg #[.int .i64 s], .bool true, .int .i64 a] w (Answers w true (s + 1) 0) := by
  go_enter Try.func33, Try.ntmps33
  go_wp2_with fail
  refine (refCheck_any _ _ _).mono ?_
  rintro e w1 ⟨rfl, hb⟩
  obtain ⟨hc, hf⟩ := bcell hb
  rw [h]
  clear h
  go_wp2_with fail
  have c0 : w1.cell? ⟨w.heap.size, 0, none⟩ = some (.int .i64 s) := by rw [hc _ _ (by simp <;> omega)]; simp [go_sem]
  have c1 : w1.cell? ⟨w.heap.size + 1, 0, none⟩ = some (.int .i64 0) := by rw [hc _ _ (by simp <;> omega)]; simp [go_sem]
  have f1 : w1.frozen? ⟨w.heap.size + 1, 0, none⟩ = false := by rw [hf _ _ (by simp <;> omega)]; simp [go_sem]
  clear hc hf
  go_region
  all_goals go_wp2_with fail
  exact bodyPost_ret (v := .tuple #[.bool true, .agg #[.int .i64 (s + 1)], .int .i64 0]) (by simp [results, Try.results33, go_sem, c1]) rfl ⟨rfl, (((((Below.refl _ _).alloc (Nat.le_refl _) _).alloc (by simp) _).trans (hb.mono (by simp <;> omega))).setCell (by simp) _).drew⟩

set_option maxHeartbeats 400000 in
theorem refAsk_full (s a : Int) (w : World) (h : gateE s a = 0) (hlt : ¬ s < a) :
    Calls Try.prog 33 #[.agg #[.int .i64 s], .bool true, .int .i64 a] w (Answers w false s 0) := by
  go_enter Try.func33, Try.ntmps33
  go_wp2_with fail
  refine (refCheck_any _ _ _).mono ?_
  rintro e w1 ⟨rfl, hb⟩
  obtain ⟨hc, hf⟩ := bcell hb
  rw [h]
  clear h
  go_wp2_with fail
  have c0 : w1.cell? ⟨w.heap.size, 0, none⟩ = some (.int .i64 s) := by rw [hc _ _ (by simp <;> omega)]; simp [go_sem]
  have c1 : w1.cell? ⟨w.heap.size + 1, 0, none⟩ = some (.int .i64 0) := by rw [hc _ _ (by simp <;> omega)]; simp [go_sem]
  have f1 : w1.frozen? ⟨w.heap.size + 1, 0, none⟩ = false := by rw [hf _ _ (by simp <;> omega)]; simp [go_sem]
  clear hc hf
  go_region
  all_goals go_wp2_with fail
  exact bodyPost_ret (v := .tuple #[.bool false, .agg #[.int .i64 s], .int .i64 0]) (by simp [results, Try.results33, go_sem, c1]) rfl ⟨rfl, (((((Below.refl _ _).alloc (Nat.le_refl _) _).alloc (by simp) _).trans (hb.mono (by simp <;> omega))).setCell (by simp) _).drew⟩

theorem refAsk_any (s a : Int) (m : Bool) (w : World) :
    Calls Try.prog 33 #[.agg #[.int .i64 s], .bool m, .int .i64 a] w fun e w' => e = .returned (.tuple #[.bool (askB s m a), .agg #[.int .i64 (askS s m a)], .int .i64 (gateE s a)]) ∧ Below w.heap.size w w' := by
  unfold askB askS
  rcases gateE_01 s a with h | h
  · have hk := gateE_ok h
    have hn : ¬ gateE s a = 1 := by omega
    rw [if_neg hn, if_neg hn, h]
    cases m with
    | false => rw [if_pos rfl, if_pos rfl]; exact refAsk_free s a w h
    | true =>
      rw [if_neg (show ¬ (true = false) by decide), if_neg (show ¬ (true = false) by decide)]
      by_cases hlt : s < a
      · rw [if_pos hlt, decide_eq_true hlt]; exact refAsk_in s a w h hlt (by omega) (by omega)
      · rw [if_neg hlt, decide_eq_false hlt]; exact refAsk_full s a w h hlt
  · rw [if_pos h, if_pos h, h]
    exact refAsk_bad s a m w h

set_option maxHeartbeats 400000 in
theorem live_any (w : World) :
    Calls Try.prog 28 #[] w fun e w' => e = .returned (.bool true) ∧ Below w.heap.size w w' := by
  go_enter Try.func28, Try.ntmps28
  go_wp2_with fail
  refine (ask_any _ _ _ _).mono ?_
  rw [show askB 0 true 2 = true from rfl, show askS 0 true 2 = 1 from rfl, show gateE 0 2 = 0 from rfl]
  rintro e w1 ⟨rfl, b1⟩
  go_wp2_with fail
  refine (ask_any _ _ _ _).mono ?_
  rw [show askB 1 true 2 = true from rfl, show askS 1 true 2 = 2 from rfl, show gateE 1 2 = 0 from rfl]
  rintro e w2 ⟨rfl, b2⟩
  obtain ⟨hc, hf⟩ := bcell b2
  go_wp2_with fail
  refine (ask_any _ _ _ _).mono ?_
  rw [show askB 2 true 2 = false from rfl, show askS 2 true 2 = 2 from rfl, show gateE 2 2 = 0 from rfl]
  rintro e w3 ⟨rfl, b3⟩
  go_wp2_with fail
  go_ret
  have p1 := b1.alloc b1.size (.cells #[.int .i64 1] 39)
  have p2 := p1.trans (b2.mono p1.size)
  have p3 := p2.setCell (p := ⟨w1.heap.size, 0, none⟩) b1.size (.int .i64 2)
  have p4 := p3.trans (b3.mono p3.size)
  exact ⟨rfl, p4.alloc p4.size _⟩

/-- A block of one number, and that it is there. -/
def Cel (w : World) (b : Nat) (x : Int) : Prop := w.cell? ⟨b, 0, none⟩ = some (.int .i64 x) ∧ b < w.heap.size
theorem Cel.new (w : World) (x : Int) : Cel (w.alloc (.cells #[.int .i64 x] 39)) w.heap.size x := ⟨cell_of_one (heap_alloc_new w _), by simp⟩
theorem Cel.alloc {w : World} {b : Nat} {x : Int} (h : Cel w b x) (o : Obj) : Cel (w.alloc o) b x :=
  ⟨(World.cell?_of_block (w := w) (a := ⟨b, 0, none⟩) (Below.heap_alloc w o b h.2)).trans h.1, by have := h.2; simp; omega⟩
theorem Cel.below {w w1 : World} {b : Nat} {x : Int} (h : Cel w b x) (hb : Below w.heap.size w w1) : Cel w1 b x := ⟨(hb.cell (p := ⟨b, 0, none⟩) h.2).trans h.1, Nat.lt_of_lt_of_le h.2 hb.size⟩
end Go.Proofs.Ytekbgfpfafjobaa.Admit
