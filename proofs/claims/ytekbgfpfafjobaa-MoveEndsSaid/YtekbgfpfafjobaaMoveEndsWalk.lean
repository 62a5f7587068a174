/- The walk of MoveEnds: it answers true at every cursor and every three numbers. -/
import Derived.Test.YtekbgfpfafjobaaMovePlain2
namespace Go.Proofs.Ytekbgfpfafjobaa.Move
open Go.RowKit
set_option linter.unusedVariables false

/-- One step of a cursor that is not at the end: its answer under names, and what the law asks of it. -/
theorem ends_step {C K s b e : Int} (h : StepOk C K s b e) (hC : C < s) : ∃ (n K' : Int) (j E : Bool),
    Hid (∀ w, Calls Try.prog 40 #[.agg #[.int .i64 C, .int .i64 K], .int .i64 s, .int .i64 b, .int .i64 e] w fun r w' => r = .returned (.tuple #[.agg #[.int .i64 (C + n), .int .i64 K'], .int .i64 n, .bool j, .bool E, .int .i64 0]) ∧ Below w.heap.size w w') ∧
    (1 ≤ n ∧ n ≤ b ∧ C + n ≤ s ∧ K ≤ K' ∧ K' ≤ C + n) ∧ Hid (S s b C = 1 + S s b (C + n)) ∧ Hid (J s b e C K = (if j = true then 1 else 0) + J s b e (C + n) K') ∧ Hid (E = true ↔ C + n = s) ∧ Hid (E = true → j = true) ∧ Hid (j = true → K' = C + n) := by
  obtain ⟨⟨h1, h2, h3, h4, h5⟩, ⟨h6, h7⟩, ⟨h8, h9⟩⟩ := h
  have hu := stC_up hC h6
  have hk := stK_in (e := e) hC h6 h4
  refine ⟨stN C s b, stK C K s b e, stJ C K s b e, stE C s b, fun w => step_ok C K s b e w ⟨⟨h1, h2, h3, h4, h5⟩, ⟨h6, h7⟩, ⟨h8, h9⟩⟩, ⟨?_, ?_, hu.2, hk⟩, S_step hC h6, J_step e K hC h6, ?_, ?_, fun hj => if_pos hj⟩
  · unfold stN; split <;> omega
  · unfold stN; split <;> omega
  · unfold stE; exact ⟨fun h => beq_iff_eq.1 h, fun h => beq_iff_eq.2 h⟩
  · intro h; unfold stJ; rw [h]; rfl

/-- Where the law's loop stands: so many steps done, so many of them journalled. -/
def EndsAt (w : World) (s b e N M : Int) (o i : Value) (wr : World) : Prop :=
  ∃ (q C K : Int) (t : Nat), o = .int .i64 q ∧ i = .int .i64 t ∧ wr.heap[w.heap.size]? = some (.cells #[.int .i64 C, .int .i64 K] 53 (0, 0)) ∧ Below w.heap.size w wr ∧ MoveOk C K s ∧ Hid (S s b C = N - t) ∧ Hid (q + J s b e C K = M) ∧ (t : Int) ≤ N ∧ 0 ≤ q ∧ q ≤ t ∧ Hid (t = 0 ∨ C < s ∨ K = s)

theorem ends_block {w w1 : World} {c k : Int} (hb : Below (w.alloc (.cells #[.int .i64 c, .int .i64 k] 53)).heap.size (w.alloc (.cells #[.int .i64 c, .int .i64 k] 53)) w1) :
    w1.heap[w.heap.size]? = some (.cells #[.int .i64 c, .int .i64 k] 53 (0, 0)) ∧ Below w.heap.size w w1 :=
  ⟨by rw [hb.block _ (by simp)]; exact heap_alloc_new w _, ((Below.refl _ _).alloc (Nat.le_refl _) _).trans (hb.mono (by simp))⟩
theorem blk_on {w w1 : World} {g : Nat} {o : Obj} (h : w.heap[g]? = some o) (hb : Below w.heap.size w w1) : w1.heap[g]? = some o := (hb.block g (Array.getElem?_eq_some_iff.1 h).1).trans h

set_option maxRecDepth 100000 in
set_option maxHeartbeats 3200000 in
theorem ends_ok (c k s b e : Int) (w : World) (h : StepOk c k s b e) :
    Calls Try.prog 14 #[.agg #[.int .i64 c, .int .i64 k], .int .i64 s, .int .i64 b, .int .i64 e] w fun r w' => r = .returned (.bool true) ∧ Below w.heap.size w w' := by
  have H := Lib.hid h
  obtain ⟨⟨h1, h2, h3, h4, h5⟩, ⟨h6, h7⟩, ⟨h8, h9⟩⟩ := h
  have hSb := S_bounds h6 _ c rfl h5
  have hJb := J_bounds e h6 _ c k rfl h5
  obtain ⟨N, hN⟩ : ∃ N, S s b c = N := ⟨_, rfl⟩
  obtain ⟨M, hM⟩ : ∃ M, J s b e c k = M := ⟨_, rfl⟩
  have hq : (N != (s - c + b - 1) / b) = false := by rw [← hN, S_is h6 h5]; exact bne_self_eq_false _
  rw [hN] at hSb
  rw [hM] at hJb
  have HN := Lib.hid hN
  have HM := Lib.hid hM
  have HN2 : Hid (upT (s - c) b = N) := hN
  clear hN hM
  go_enter Try.func14, Try.ntmps14
  go_wp2_with fail
  refine (live_any _).mono ?_
  rintro r w1 ⟨rfl, b1⟩
  obtain ⟨m1, p1⟩ := ends_block b1
  clear b1
  obtain ⟨c1, d1, f1, g1⟩ := two_cells m1
  have M1 := Lib.hid m1
  clear m1
  go_wp2_with fail
  refine (steps_ok _ _ _ _ _ ⟨H.out.1, H.out.2.1⟩).mono ?_
  rw [HN2.out]
  rintro r w2 ⟨rfl, b2⟩
  have m2 := blk_on M1.out b2
  have p2 := p1.trans (b2.mono p1.size)
  clear c1 d1 f1 g1 M1 b2 p1
  obtain ⟨c2, d2, f2, g2⟩ := two_cells m2
  have M2 := Lib.hid m2
  clear m2
  go_wp2_with fail
  refine (jour_ok _ _ _ _ _ _ H.out).mono ?_
  rw [HM.out]
  rintro r w3 ⟨rfl, b3⟩
  have m3 := blk_on M2.out b3
  have p3 := p2.trans (b3.mono p2.size)
  clear c2 d2 f2 g2 M2 b3 p2
  obtain ⟨c3, d3, f3, g3⟩ := two_cells m3
  have M3 := Lib.hid m3
  clear m3
  go_wp2_with fail
  go_loopw [14, 58] (fun o i wr => EndsAt w s b e N M o i wr) (fun _ i _ => (N - intOf i).toNat)
  case atStart => exact ⟨0, c, k, 0, rfl, rfl, M3.out, p3, H.out.1, Lib.hid (by rw [HN.out]; omega), Lib.hid (by rw [HM.out]; omega), by omega, by omega, by omega, .inl rfl⟩
  case round =>
    obtain ⟨q, C, K, t, rfl, rfl, m0, be, ho, HS, HJ, tN, q0, q1, HK⟩ := hrel
    clear c3 d3 f3 g3 M3 p3 hq
    obtain ⟨c0, d0, f0, g0⟩ := two_cells m0
    have M0 := Lib.hid m0
    clear m0
    by_cases hlt : (t : Int) < N
    · have hC : C < s := by
        have h0 := HS.out
        by_cases hx : C < s
        · exact hx
        · rw [S_done h6 hx ho.2.2.2.2] at h0; omega
      obtain ⟨n, K', j, E, Q, ⟨n1, n2, n3, n4, n5⟩, hS, hJ, hE, hEj, hj⟩ := ends_step ⟨ho, ⟨h6, h7⟩, ⟨h8, h9⟩⟩ hC
      have HS2 : Hid (S s b (C + n) = N - ((t + 1 : Nat) : Int)) := by
        have := HS.out
        rw [hS.out] at this
        show _ = _
        omega
      have hi : Hid (E = true ↔ (t : Int) = N - 1) := by
        have h0 := HS2.out
        constructor
        · intro he
          have hx := hE.out.1 he
          rw [hx, S_done h6 (by omega) (by omega)] at h0
          omega
        · intro he
          exact hE.out.2 (S_zero h6 n3 (by omega))
      obtain ⟨ho1, ho2, ho3, ho4, ho5⟩ := ho
      have HK2 : Hid (t + 1 = 0 ∨ C + n < s ∨ K' = s) := by
        by_cases hx : C + n < s
        · exact .inr (.inl hx)
        · have hy : C + n = s := by omega
          exact .inr (.inr ((hj.out (hEj.out (hE.out.2 hy))).trans hy))
      have HJ1 := HJ.out
      rw [hJ.out] at HJ1
      clear HJ hJ hS HS hE HK
      cases j with
      | true =>
        rw [if_pos rfl] at HJ1
        have HJ2 : Hid (q + 1 + J s b e (C + n) K' = M) := by show _ = _; omega
        clear HJ1 hEj hj
        cases E with
        | true =>
          have hx : ((t : Int) == N - 1) = true := beq_iff_eq.2 (hi.out.1 rfl)
          clear hi
          go_wp2_with fail
          refine (Q.out _).mono ?_
          rintro r w4 ⟨rfl, b4⟩
          have m4 := blk_on M0.out b4
          have l4 : w.heap.size < w4.heap.size := (Array.getElem?_eq_some_iff.1 m4).1
          have p4 := be.trans (b4.mono be.size)
          have m5 := two_set1 (two_set0 m4 (.int .i64 (C + n))) (.int .i64 K')
          have p5 := (p4.setCell (p := ⟨w.heap.size, 0, none⟩) (Nat.le_refl _) (.int .i64 (C + n))).setCell (p := ⟨w.heap.size, 1, none⟩) (Nat.le_refl _) (.int .i64 K')
          have m6 := (Below.heap_alloc _ (.cells #[.int .i64 (C + n), .int .i64 K'] 53) _ (Array.getElem?_eq_some_iff.1 m5).1).trans m5
          have p6 := p5.alloc p5.size (.cells #[.int .i64 (C + n), .int .i64 K'] 53)
          clear c0 d0 f0 g0 M0 b4 be
          obtain ⟨c4, d4, f4, g4⟩ := two_cells m4
          have M6 := Lib.hid m6
          have P6 := Lib.hid p6
          clear m4 m5 m6 p4 p5 p6 Q
          go_wp2_with fail
          go_roundw
          case rel => exact ⟨q + 1, C + n, K', t + 1, rfl, by go_num, M6.out, P6.out, ⟨h1, h2, by omega, by omega, by omega⟩, HS2, HJ2, by omega, by omega, by omega, HK2⟩
          case measure => simp [intOf]; omega
        | false =>
          have hx : ((t : Int) == N - 1) = false := beq_eq_false_iff_ne.2 fun h => absurd (hi.out.2 h) (by decide)
          clear hi
          go_wp2_with fail
          refine (Q.out _).mono ?_
          rintro r w4 ⟨rfl, b4⟩
          have m4 := blk_on M0.out b4
          have l4 : w.heap.size < w4.heap.size := (Array.getElem?_eq_some_iff.1 m4).1
          have p4 := be.trans (b4.mono be.size)
          have m5 := two_set1 (two_set0 m4 (.int .i64 (C + n))) (.int .i64 K')
          have p5 := (p4.setCell (p := ⟨w.heap.size, 0, none⟩) (Nat.le_refl _) (.int .i64 (C + n))).setCell (p := ⟨w.heap.size, 1, none⟩) (Nat.le_refl _) (.int .i64 K')
          have m6 := (Below.heap_alloc _ (.cells #[.int .i64 (C + n), .int .i64 K'] 53) _ (Array.getElem?_eq_some_iff.1 m5).1).trans m5
          have p6 := p5.alloc p5.size (.cells #[.int .i64 (C + n), .int .i64 K'] 53)
          clear c0 d0 f0 g0 M0 b4 be
          obtain ⟨c4, d4, f4, g4⟩ := two_cells m4
          have M6 := Lib.hid m6
          have P6 := Lib.hid p6
          clear m4 m5 m6 p4 p5 p6 Q
          go_wp2_with fail
          go_roundw
          case rel => exact ⟨q + 1, C + n, K', t + 1, rfl, by go_num, M6.out, P6.out, ⟨h1, h2, by omega, by omega, by omega⟩, HS2, HJ2, by omega, by omega, by omega, HK2⟩
          case measure => simp [intOf]; omega
      | false =>
        rw [if_neg (by decide)] at HJ1
        have HJ2 : Hid (q + J s b e (C + n) K' = M) := by show _ = _; omega
        clear HJ1 hj
        cases E with
        | true => exact absurd (hEj.out rfl) (by decide)
        | false =>
          have hx : ((t : Int) == N - 1) = false := beq_eq_false_iff_ne.2 fun h => absurd (hi.out.2 h) (by decide)
          clear hi hEj
          go_wp2_with fail
          refine (Q.out _).mono ?_
          rintro r w4 ⟨rfl, b4⟩
          have m4 := blk_on M0.out b4
          have l4 : w.heap.size < w4.heap.size := (Array.getElem?_eq_some_iff.1 m4).1
          have p4 := be.trans (b4.mono be.size)
          have m5 := two_set1 (two_set0 m4 (.int .i64 (C + n))) (.int .i64 K')
          have p5 := (p4.setCell (p := ⟨w.heap.size, 0, none⟩) (Nat.le_refl _) (.int .i64 (C + n))).setCell (p := ⟨w.heap.size, 1, none⟩) (Nat.le_refl _) (.int .i64 K')
          have m6 := (Below.heap_alloc _ (.cells #[.int .i64 (C + n), .int .i64 K'] 53) _ (Array.getElem?_eq_some_iff.1 m5).1).trans m5
          have p6 := p5.alloc p5.size (.cells #[.int .i64 (C + n), .int .i64 K'] 53)
          clear c0 d0 f0 g0 M0 b4 be
          obtain ⟨c4, d4, f4, g4⟩ := two_cells m4
          have M6 := Lib.hid m6
          have P6 := Lib.hid p6
          clear m4 m5 m6 p4 p5 p6 Q
          go_wp2_with fail
          go_roundw
          case rel => exact ⟨q, C + n, K', t + 1, rfl, by go_num, M6.out, P6.out, ⟨h1, h2, by omega, by omega, by omega⟩, HS2, HJ2, by omega, by omega, by omega, HK2⟩
          case measure => simp [intOf]; omega
    · have htN : (t : Int) = N := by omega
      have hC : C = s := S_zero h6 ho.2.2.2.2 (by rw [HS.out]; omega)
      have hM2 : q = M := by have := HJ.out; rw [J_done (by omega)] at this; omega
      obtain ⟨ho1, ho2, ho3, ho4, ho5⟩ := ho
      have hss : (s == s) = true := beq_iff_eq.2 rfl
      have hMM : (M == M) = true := beq_iff_eq.2 rfl
      by_cases hN0 : N = 0
      · have hN1 : (N == 0) = true := beq_iff_eq.2 hN0
        clear hN0 HS HJ HK HN HM HN2 hSb hJb
        subst hC hM2
        have HT := Lib.hid htN
        clear htN
        go_wp2_with fail
        go_ret
        exact ⟨rfl, be⟩
      · have hN1 : (N == 0) = false := beq_eq_false_iff_ne.2 hN0
        have hK : K = s := by
          rcases HK.out with h | h | h
          · omega
          · omega
          · exact h
        clear hN0 HS HJ HK HN HM HN2 hSb hJb
        subst hC hM2 hK
        have HT := Lib.hid htN
        clear htN
        go_wp2_with fail
        go_ret
        exact ⟨rfl, be⟩
set_option maxRecDepth 100000 in
set_option maxHeartbeats 800000 in
theorem ends_both (c k s b e : Int) (w : World) (h : ¬ StepOk c k s b e) (hs : ¬ (MoveOk c k s ∧ numOk b)) :
    Calls Try.prog 14 #[.agg #[.int .i64 c, .int .i64 k], .int .i64 s, .int .i64 b, .int .i64 e] w fun r w' => r = .returned (.bool true) ∧ Below w.heap.size w w' := by
  go_enter Try.func14, Try.ntmps14
  go_wp2_with fail
  refine (live_any _).mono ?_
  rintro r w1 ⟨rfl, b1⟩
  obtain ⟨m1, p1⟩ := ends_block b1
  clear b1
  obtain ⟨c1, d1, f1, g1⟩ := two_cells m1
  have M1 := Lib.hid m1
  clear m1
  go_wp2_with fail
  refine (steps_bad _ _ _ _ _ hs).mono ?_
  rintro r w2 ⟨rfl, b2⟩
  have m2 := blk_on M1.out b2
  have p2 := p1.trans (b2.mono p1.size)
  clear c1 d1 f1 g1 M1 b2 p1
  obtain ⟨c2, d2, f2, g2⟩ := two_cells m2
  clear m2
  go_wp2_with fail
  refine (jour_bad _ _ _ _ _ _ h).mono ?_
  rintro r w3 ⟨rfl, b3⟩
  have p3 := p2.trans (b3.mono p2.size)
  go_wp2_with fail
  go_ret
  exact ⟨rfl, p3⟩

set_option maxRecDepth 100000 in
set_option maxHeartbeats 800000 in
theorem ends_jour (c k s b e : Int) (w : World) (h : ¬ StepOk c k s b e) (hs : MoveOk c k s ∧ numOk b) :
    Calls Try.prog 14 #[.agg #[.int .i64 c, .int .i64 k], .int .i64 s, .int .i64 b, .int .i64 e] w fun r w' => r = .returned (.bool true) ∧ Below w.heap.size w w' := by
  go_enter Try.func14, Try.ntmps14
  go_wp2_with fail
  refine (live_any _).mono ?_
  rintro r w1 ⟨rfl, b1⟩
  obtain ⟨m1, p1⟩ := ends_block b1
  clear b1
  obtain ⟨c1, d1, f1, g1⟩ := two_cells m1
  have M1 := Lib.hid m1
  clear m1
  go_wp2_with fail
  refine (steps_ok _ _ _ _ _ hs).mono ?_
  rintro r w2 ⟨rfl, b2⟩
  have m2 := blk_on M1.out b2
  have p2 := p1.trans (b2.mono p1.size)
  clear c1 d1 f1 g1 M1 b2 p1
  obtain ⟨c2, d2, f2, g2⟩ := two_cells m2
  clear m2
  go_wp2_with fail
  refine (jour_bad _ _ _ _ _ _ h).mono ?_
  rintro r w3 ⟨rfl, b3⟩
  have p3 := p2.trans (b3.mono p2.size)
  go_wp2_with fail
  go_ret
  exact ⟨rfl, p3⟩

theorem ends_any (c k s b e : Int) (w : World) :
    Calls Try.prog 14 #[.agg #[.int .i64 c, .int .i64 k], .int .i64 s, .int .i64 b, .int .i64 e] w fun r w' => r = .returned (.bool true) ∧ Below w.heap.size w w' := by
  by_cases h : StepOk c k s b e
  · exact ends_ok c k s b e w h
  · by_cases hs : MoveOk c k s ∧ numOk b
    · exact ends_jour c k s b e w h hs
    · exact ends_both c k s b e w h hs
end Go.Proofs.Ytekbgfpfafjobaa.Move
