/- The walk of AdmitWait: it answers true at every cursor and every four numbers. -/
import Derived.Test.YtekbgfpfafjobaaMovePlain2
import Derived.Test.YtekbgfpfafjobaaAdmitRef
namespace Go.Proofs.Ytekbgfpfafjobaa.AdmitW
open Go.RowKit
open Go.Proofs.Ytekbgfpfafjobaa.Move (Cel2 MoveOk StepOk two_cells two_set0 two_set1 stC stN stK stJ stE moveE)
set_option linter.unusedVariables false

theorem one_block {w w1 : World} {c k : Int} (hb : Below (w.alloc (.cells #[.int .i64 c, .int .i64 k] 53)).heap.size (w.alloc (.cells #[.int .i64 c, .int .i64 k] 53)) w1) :
    w1.heap[w.heap.size]? = some (.cells #[.int .i64 c, .int .i64 k] 53 (0, 0)) ∧ Below w.heap.size w w1 :=
  ⟨by rw [hb.block _ (by simp)]; exact heap_alloc_new w _, ((Below.refl _ _).alloc (Nat.le_refl _) _).trans (hb.mono (by simp))⟩
theorem kept_on {w w1 : World} {g : Nat} {o : Obj} (h : w.heap[g]? = some o) (hb : Below w.heap.size w w1) : w1.heap[g]? = some o := (hb.block g (Array.getElem?_eq_some_iff.1 h).1).trans h

/-- A step that is journalled, or one that is not: then it goes by the whole budget. -/
theorem wait_step {C K s b e : Int} (h : StepOk C K s b e) : ∃ (C' K' n : Int) (j E : Bool),
    Hid (∀ w, Calls Try.prog 40 #[.agg #[.int .i64 C, .int .i64 K], .int .i64 s, .int .i64 b, .int .i64 e] w fun r w' => r = .returned (.tuple #[.agg #[.int .i64 C', .int .i64 K'], .int .i64 n, .bool j, .bool E, .int .i64 0]) ∧ Below w.heap.size w w') ∧
    Hid (MoveOk C' K' s) ∧ Hid (j = false → C' = C + b ∧ K' = K ∧ C' - K < e) := by
  have hl := Move.step_leaves h
  refine ⟨stC C s b, stK C K s b e, stN C s b, stJ C K s b e, stE C s b, fun w => Move.step_ok C K s b e w h, hl.1, fun hj => ?_⟩
  unfold stJ at hj
  rw [Bool.or_eq_false_iff] at hj
  obtain ⟨hE, hd⟩ := hj
  have hd2 : ¬ e ≤ stC C s b - K := of_decide_eq_false hd
  have hE2 : ¬ stC C s b = s := by unfold stE at hE; exact beq_eq_false_iff_ne.1 hE
  have hK : stK C K s b e = K := by
    unfold stK stJ
    rw [hE, decide_eq_false hd2]
    exact if_neg (by decide)
  refine ⟨?_, hK, by omega⟩
  revert hE2
  unfold stC stN
  split <;> intro hE2 <;> omega

/-- Where the law's loop stands: so many steps done, none of them journalled. -/
def WaitAt (w : World) (c k s b e n : Int) (i : Value) (wr : World) : Prop :=
  ∃ (C : Int) (t : Nat), i = .int .i64 t ∧ wr.heap[w.heap.size]? = some (.cells #[.int .i64 C, .int .i64 k] 53 (0, 0)) ∧ Below w.heap.size w wr ∧ Hid (MoveOk C k s) ∧ Hid (C = c + t * b) ∧ (t : Int) ≤ n ∧ Hid (t = 0 ∨ C - k < e)

set_option maxRecDepth 100000 in
set_option maxHeartbeats 1600000 in
theorem wait_law_ok (c k s b e l : Int) (w : World) (h : Admit.WaitOk s b e l) (hm : moveE c k s = 0) :
    Calls Try.prog 17 #[.agg #[.int .i64 c, .int .i64 k], .int .i64 s, .int .i64 b, .int .i64 e, .int .i64 l] w fun r w' => r = .returned (.bool true) ∧ Below w.heap.size w w' := by
  have H := Lib.hid h
  have hp := Admit.waitN_pos h
  obtain ⟨q1, q2⟩ := Admit.waitN_most h
  have hbd := Admit.waitN_bound h hp.1 hp.2
  obtain ⟨s1, s2, b1', b2', e1, e2, l1, l2⟩ := h
  have Hmo := Lib.hid (Move.moveOk_of hm)
  have Hm := Lib.hid hm
  clear hm
  obtain ⟨n, hn⟩ : ∃ n, Admit.waitN b e l = n := ⟨_, rfl⟩
  rw [hn] at hp q1 q2 hbd
  have Hn := Lib.hid hn
  clear hn
  go_enter Try.func17, Try.ntmps17
  go_wp2_with fail
  refine (Admit.live_any _).mono ?_
  rintro r w1 ⟨rfl, b1⟩
  obtain ⟨m1, p1⟩ := one_block b1
  clear b1
  obtain ⟨c1, d1, f1, g1⟩ := two_cells m1
  have M1 := Lib.hid m1
  clear m1
  go_wp2_with fail
  refine (Admit.wait_ok _ _ _ _ _ H.out).mono ?_
  rw [Hn.out]
  rintro r w2 ⟨rfl, rfl⟩
  go_wp2_with fail
  refine (Move.check_any _ _ _ _).mono ?_
  rw [Hm.out]
  rintro r w2 ⟨rfl, b2⟩
  have m2 := kept_on M1.out b2
  have p2 := p1.trans (b2.mono p1.size)
  clear c1 d1 f1 g1 M1 b2 p1
  go_wp2_with fail
  have M2 := Lib.hid m2
  clear m2
  go_loopw [56] (fun i wr => WaitAt w c k s b e n i wr) (fun i _ => (n - intOf i).toNat)
  case atStart => exact ⟨c, 0, rfl, M2.out, p2, Hmo, Lib.hid (by simp), by omega, .inl rfl⟩
  case round =>
    obtain ⟨C, t, rfl, m0, be, HO, HC, tn, HT⟩ := hrel
    clear M2 p2
    obtain ⟨c0, d0, f0, g0⟩ := two_cells m0
    have M0 := Lib.hid m0
    clear m0
    by_cases hlt : (t : Int) < n
    · obtain ⟨C', K', m, j, E, Q, HL, HJ⟩ := wait_step ⟨HO.out, ⟨b1', b2'⟩, ⟨e1, e2⟩⟩
      cases j with
      | true =>
        go_wp2_with fail
        refine (Q.out _).mono ?_
        rintro r w4 ⟨rfl, b4⟩
        have p4 := be.trans (b4.mono be.size)
        clear c0 d0 f0 g0 M0 b4 be
        go_wp2_with fail
        go_ret
        exact ⟨rfl, p4.alloc p4.size _⟩
      | false =>
        obtain ⟨hC, hK, hd⟩ := HJ.out rfl
        have HC2 : Hid (C' = c + ((t + 1 : Nat) : Int) * b) := by
          show _ = _
          rw [hC, HC.out, show ((t + 1 : Nat) : Int) = (t : Int) + 1 from by omega, Int.add_mul, Int.one_mul]
          omega
        have HT2 : Hid (t + 1 = 0 ∨ C' - k < e) := .inr hd
        clear HJ hC hd
        subst hK
        go_wp2_with fail
        refine (Q.out _).mono ?_
        rintro r w4 ⟨rfl, b4⟩
        have m4 := kept_on M0.out b4
        have l4 : w.heap.size < w4.heap.size := (Array.getElem?_eq_some_iff.1 m4).1
        have p4 := be.trans (b4.mono be.size)
        have m5 := two_set1 (two_set0 m4 (.int .i64 C')) (.int .i64 K')
        have p5 := (p4.setCell (p := ⟨w.heap.size, 0, none⟩) (Nat.le_refl _) (.int .i64 C')).setCell (p := ⟨w.heap.size, 1, none⟩) (Nat.le_refl _) (.int .i64 K')
        have m6 := (Below.heap_alloc _ (.cells #[.int .i64 C', .int .i64 K'] 53) _ (Array.getElem?_eq_some_iff.1 m5).1).trans m5
        have p6 := p5.alloc p5.size (.cells #[.int .i64 C', .int .i64 K'] 53)
        clear c0 d0 f0 g0 M0 b4 be
        obtain ⟨c4, d4, f4, g4⟩ := two_cells m4
        have M6 := Lib.hid m6
        have P6 := Lib.hid p6
        clear m4 m5 m6 p4 p5 p6 Q
        go_wp2_with fail
        go_roundw
        case rel => exact ⟨C', t + 1, by go_num, M6.out, P6.out, HL, HC2, by omega, HT2⟩
        case measure => simp [intOf]; omega
    · have htn : (t : Int) = n := by omega
      have h1 := HC.out
      rw [htn] at h1
      have h2 := Hmo.out.2.2.2.1
      rcases HT.out with h3 | h3
      · omega
      · omega

set_option maxHeartbeats 800000 in
theorem wait_law_no (c k s b e l : Int) (w : World) (h : ¬ Admit.WaitOk s b e l) :
    Calls Try.prog 17 #[.agg #[.int .i64 c, .int .i64 k], .int .i64 s, .int .i64 b, .int .i64 e, .int .i64 l] w fun r w' => r = .returned (.bool true) ∧ Below w.heap.size w w' := by
  go_enter Try.func17, Try.ntmps17
  go_wp2_with fail
  refine (Admit.live_any _).mono ?_
  rintro r w1 ⟨rfl, b1⟩
  obtain ⟨m1, p1⟩ := one_block b1
  go_wp2_with fail
  refine (Admit.wait_bad _ _ _ _ _ h).mono ?_
  rintro r w2 ⟨rfl, rfl⟩
  go_wp2_with fail
  go_ret
  exact ⟨rfl, p1⟩

set_option maxHeartbeats 800000 in
theorem wait_law_bad (c k s b e l : Int) (w : World) (h : Admit.WaitOk s b e l) (hm : moveE c k s = 1) :
    Calls Try.prog 17 #[.agg #[.int .i64 c, .int .i64 k], .int .i64 s, .int .i64 b, .int .i64 e, .int .i64 l] w fun r w' => r = .returned (.bool true) ∧ Below w.heap.size w w' := by
  have Hm := Lib.hid hm
  clear hm
  go_enter Try.func17, Try.ntmps17
  go_wp2_with fail
  refine (Admit.live_any _).mono ?_
  rintro r w1 ⟨rfl, b1⟩
  obtain ⟨m1, p1⟩ := one_block b1
  clear b1
  obtain ⟨c1, d1, f1, g1⟩ := two_cells m1
  clear m1
  go_wp2_with fail
  refine (Admit.wait_ok _ _ _ _ _ h).mono ?_
  rintro r w2 ⟨rfl, rfl⟩
  go_wp2_with fail
  refine (Move.check_any _ _ _ _).mono ?_
  rw [Hm.out]
  rintro r w2 ⟨rfl, b2⟩
  have p2 := p1.trans (b2.mono p1.size)
  go_wp2_with fail
  go_ret
  exact ⟨rfl, p2⟩

theorem wait_law (c k s b e l : Int) (w : World) :
    Calls Try.prog 17 #[.agg #[.int .i64 c, .int .i64 k], .int .i64 s, .int .i64 b, .int .i64 e, .int .i64 l] w fun r w' => r = .returned (.bool true) ∧ Below w.heap.size w w' := by
  by_cases h : Admit.WaitOk s b e l
  · rcases Move.moveE_01 c k s with hm | hm
    · exact wait_law_ok c k s b e l w h hm
    · exact wait_law_bad c k s b e l w h hm
  · exact wait_law_no c k s b e l w h
end Go.Proofs.Ytekbgfpfafjobaa.AdmitW
