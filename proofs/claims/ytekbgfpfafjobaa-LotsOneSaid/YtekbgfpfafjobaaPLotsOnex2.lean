-- PRINTED BY print.sh 35421559b90ae4d0a3588c463048766b98c2df88dd9212a6774a882060cdf62d: not written by this session
import Derived.Test.YtekbgfpfafjobaaPLotsOnex0
import Derived.Test.YtekbgfpfafjobaaPLotsOnex1
namespace Go.Proofs.Ytekbgfpfafjobaa.PLotsOne
open Go.RowKit Go.Proofs.YtekbgfpfafjobaaW.PrintWords Go.Proofs.YtekbgfpfafjobaaW.PrintLast Go.Proofs.YtekbgfpfafjobaaW.PrintMore
attribute [local go_sem] max2_int min2_int max_two min_two max_three min_three max_four min_four   -- for this text's walks alone
set_option linter.unusedVariables false
set_option linter.unusedSimpArgs false

/-! ### cuvettelaw12_LotsOne: function 7 -/
mutual
def cuvettelaw12_LotsOne.j0 : Nat → Int → Int → Int → Int → Bool → Bool → Option (Bool)
  | 0, _, _, _, _, _, _ => none
  | k + 1, x0, x1, x2, x3, x9, x44 => if x44 = true then (some x9) else ((lots_Lots.f k x0 x1 (wrap64 (x2 * x3))).bind fun bt112 => ((lots_Lots.f k x0 x1 x2).bind fun bt117 => ((lots_Lots.f k x0 x1 1).bind fun bt122 => (if bt112.2.2 = 0 then (if bt117.2.2 = 0 then (if bt122.2.2 = 0 then (if (bt112.1.length : Int) = x1 then (if (bt117.1.length : Int) = x1 then (cuvettelaw12_LotsOne.j1 k x2 x9 bt112.1 bt117.1 bt122.1 ((bt122.1.length : Int) != x1)) else (cuvettelaw12_LotsOne.j1 k x2 x9 bt112.1 bt117.1 bt122.1 true)) else (cuvettelaw12_LotsOne.j1 k x2 x9 bt112.1 bt117.1 bt122.1 true)) else (cuvettelaw12_LotsOne.j1 k x2 x9 bt112.1 bt117.1 bt122.1 true)) else (cuvettelaw12_LotsOne.j1 k x2 x9 bt112.1 bt117.1 bt122.1 true)) else (cuvettelaw12_LotsOne.j1 k x2 x9 bt112.1 bt117.1 bt122.1 true)))))
def cuvettelaw12_LotsOne.j1 : Nat → Int → Bool → List Int → List Int → List Int → Bool → Option (Bool)
  | 0, _, _, _, _, _, _ => none
  | k + 1, x2, x9, x10, x13, x16, x98 => if x98 = true then (some false) else (cuvettelaw12_LotsOne.l0 k x2 x9 x10 x13 x16 (x10.length : Int) 0)
def cuvettelaw12_LotsOne.l0 : Nat → Int → Bool → List Int → List Int → List Int → Int → Int → Option (Bool)
  | 0, _, _, _, _, _, _, _ => none
  | k + 1, x2, x9, x10, x13, x16, x100, x101 => if x101 < x100 then (if 0 ≤ x101 then (if x101 < (x16.length : Int) then (if (rd x16 x101) = 0 then (if x101 < (x13.length : Int) then (if x101 < (x10.length : Int) then (if x2 = 0 then (none) else (if (rd x13 x101) = (Int.tmod (rd x10 x101) x2) then (cuvettelaw12_LotsOne.l0 k x2 x9 x10 x13 x16 x100 (wrap64 (x101 + 1))) else (some false))) else (none)) else (none)) else (some false)) else (none)) else (none)) else (some x9)
end
def cuvettelaw12_LotsOne.f (k : Nat) (a0 : Int) (a1 : Int) (a2 : Int) (a3 : Int) : Option (Bool) := (cuvettelaw12_live.f).bind fun t111 => (if t111 = true then (if a2 < 1 then (cuvettelaw12_LotsOne.j0 k a0 a1 a2 a3 t111 true) else (if a3 < 1 then (cuvettelaw12_LotsOne.j0 k a0 a1 a2 a3 t111 true) else (if a2 > 32768 then (cuvettelaw12_LotsOne.j0 k a0 a1 a2 a3 t111 true) else (if a3 > 32768 then (cuvettelaw12_LotsOne.j0 k a0 a1 a2 a3 t111 true) else (if a1 < 0 then (cuvettelaw12_LotsOne.j0 k a0 a1 a2 a3 t111 true) else (cuvettelaw12_LotsOne.j0 k a0 a1 a2 a3 t111 (decide (a1 > 500)))))))) else (some false))
theorem cuvettelaw12_LotsOne.mono_l : ∀ k, (∀ y0 y1 y2 y3 y4 y5, LeO (cuvettelaw12_LotsOne.j0 k y0 y1 y2 y3 y4 y5) (cuvettelaw12_LotsOne.j0 (k + 1) y0 y1 y2 y3 y4 y5)) ∧ (∀ y0 y1 y2 y3 y4 y5, LeO (cuvettelaw12_LotsOne.j1 k y0 y1 y2 y3 y4 y5) (cuvettelaw12_LotsOne.j1 (k + 1) y0 y1 y2 y3 y4 y5)) ∧ (∀ y0 y1 y2 y3 y4 y5 y6, LeO (cuvettelaw12_LotsOne.l0 k y0 y1 y2 y3 y4 y5 y6) (cuvettelaw12_LotsOne.l0 (k + 1) y0 y1 y2 y3 y4 y5 y6))
  | 0 => ⟨fun _ _ _ _ _ _ r h => by simp [cuvettelaw12_LotsOne.j0] at h, fun _ _ _ _ _ _ r h => by simp [cuvettelaw12_LotsOne.j1] at h, fun _ _ _ _ _ _ _ r h => by simp [cuvettelaw12_LotsOne.l0] at h⟩
  | k + 1 => by
    obtain ⟨ih0, ih1, ih2⟩ := cuvettelaw12_LotsOne.mono_l k
    refine ⟨?_, ?_, ?_⟩
    · intro y0 y1 y2 y3 y4 y5
      unfold cuvettelaw12_LotsOne.j0
      repeat' first
      | (with_reducible exact ih0 _ _ _ _ _ _)
      | (with_reducible exact ih1 _ _ _ _ _ _)
      | (with_reducible exact ih2 _ _ _ _ _ _ _)
      | (with_reducible exact lots_Lots.mono _ _ _ _)
      | (with_reducible exact LeO.refl _)
      | (with_reducible exact LeO.none _)
      | (with_reducible refine LeO.ite ?_ ?_)
      | (with_reducible refine LeO.bind ?_ (fun _ => ?_))
      | exact ih0 _ _ _ _ _ _
      | exact ih1 _ _ _ _ _ _
      | exact ih2 _ _ _ _ _ _ _
      | exact lots_Lots.mono _ _ _ _
      | exact LeO.none _
      | refine LeO.ite ?_ ?_
      | refine LeO.bind ?_ (fun _ => ?_)
    · intro y0 y1 y2 y3 y4 y5
      unfold cuvettelaw12_LotsOne.j1
      repeat' first
      | (with_reducible exact ih0 _ _ _ _ _ _)
      | (with_reducible exact ih1 _ _ _ _ _ _)
      | (with_reducible exact ih2 _ _ _ _ _ _ _)
      | (with_reducible exact lots_Lots.mono _ _ _ _)
      | (with_reducible exact LeO.refl _)
      | (with_reducible exact LeO.none _)
      | (with_reducible refine LeO.ite ?_ ?_)
      | (with_reducible refine LeO.bind ?_ (fun _ => ?_))
      | exact ih0 _ _ _ _ _ _
      | exact ih1 _ _ _ _ _ _
      | exact ih2 _ _ _ _ _ _ _
      | exact lots_Lots.mono _ _ _ _
      | exact LeO.none _
      | refine LeO.ite ?_ ?_
      | refine LeO.bind ?_ (fun _ => ?_)
    · intro y0 y1 y2 y3 y4 y5 y6
      unfold cuvettelaw12_LotsOne.l0
      repeat' first
      | (with_reducible exact ih0 _ _ _ _ _ _)
      | (with_reducible exact ih1 _ _ _ _ _ _)
      | (with_reducible exact ih2 _ _ _ _ _ _ _)
      | (with_reducible exact lots_Lots.mono _ _ _ _)
      | (with_reducible exact LeO.refl _)
      | (with_reducible exact LeO.none _)
      | (with_reducible refine LeO.ite ?_ ?_)
      | (with_reducible refine LeO.bind ?_ (fun _ => ?_))
      | exact ih0 _ _ _ _ _ _
      | exact ih1 _ _ _ _ _ _
      | exact ih2 _ _ _ _ _ _ _
      | exact lots_Lots.mono _ _ _ _
      | exact LeO.none _
      | refine LeO.ite ?_ ?_
      | refine LeO.bind ?_ (fun _ => ?_)
theorem cuvettelaw12_LotsOne.mono : ∀ a0 a1 a2 a3 k, LeO (cuvettelaw12_LotsOne.f k a0 a1 a2 a3) (cuvettelaw12_LotsOne.f (k + 1) a0 a1 a2 a3) := by
  intro a0 a1 a2 a3 k
  obtain ⟨ih0, ih1, ih2⟩ := cuvettelaw12_LotsOne.mono_l k
  unfold cuvettelaw12_LotsOne.f
  repeat' first
      | (with_reducible exact ih0 _ _ _ _ _ _)
      | (with_reducible exact ih1 _ _ _ _ _ _)
      | (with_reducible exact ih2 _ _ _ _ _ _ _)
      | (with_reducible exact lots_Lots.mono _ _ _ _)
      | (with_reducible exact LeO.refl _)
      | (with_reducible exact LeO.none _)
      | (with_reducible refine LeO.ite ?_ ?_)
      | (with_reducible refine LeO.bind ?_ (fun _ => ?_))
      | exact ih0 _ _ _ _ _ _
      | exact ih1 _ _ _ _ _ _
      | exact ih2 _ _ _ _ _ _ _
      | exact lots_Lots.mono _ _ _ _
      | exact LeO.none _
      | refine LeO.ite ?_ ?_
      | refine LeO.bind ?_ (fun _ => ?_)
set_option maxHeartbeats 8000000 in
set_option maxRecDepth 100000 in
theorem cuvettelaw12_LotsOne.calls (k : Nat) (a0 : Int) (a1 : Int) (a2 : Int) (a3 : Int) (r : Bool) (w : World) (h : cuvettelaw12_LotsOne.f k a0 a1 a2 a3 = some r) :
    Calls Try.prog 7 #[.int .u64 a0, .int .i64 a1, .int .i64 a2, .int .i64 a3] w fun e w' => e = .returned (.bool r) ∧ Below w.heap.size w w' := by
  have HB := Aside0.mk (Below.refl w.heap.size w)
  have H : ((cuvettelaw12_live.f).bind fun t111 => (if t111 = true then (if a2 < 1 then (cuvettelaw12_LotsOne.j0 k a0 a1 a2 a3 t111 true) else (if a3 < 1 then (cuvettelaw12_LotsOne.j0 k a0 a1 a2 a3 t111 true) else (if a2 > 32768 then (cuvettelaw12_LotsOne.j0 k a0 a1 a2 a3 t111 true) else (if a3 > 32768 then (cuvettelaw12_LotsOne.j0 k a0 a1 a2 a3 t111 true) else (if a1 < 0 then (cuvettelaw12_LotsOne.j0 k a0 a1 a2 a3 t111 true) else (cuvettelaw12_LotsOne.j0 k a0 a1 a2 a3 t111 (decide (a1 > 500)))))))) else (some false))) = some r := h
  clear h
  replace H := Option.bind_eq_some_iff.mp H
  obtain ⟨t111, A50, H⟩ := H
  replace H : (if t111 = true then (if a2 < 1 then (cuvettelaw12_LotsOne.j0 k a0 a1 a2 a3 t111 true) else (if a3 < 1 then (cuvettelaw12_LotsOne.j0 k a0 a1 a2 a3 t111 true) else (if a2 > 32768 then (cuvettelaw12_LotsOne.j0 k a0 a1 a2 a3 t111 true) else (if a3 > 32768 then (cuvettelaw12_LotsOne.j0 k a0 a1 a2 a3 t111 true) else (if a1 < 0 then (cuvettelaw12_LotsOne.j0 k a0 a1 a2 a3 t111 true) else (cuvettelaw12_LotsOne.j0 k a0 a1 a2 a3 t111 (decide (a1 > 500)))))))) else (some false)) = some r := H
  have A5 := Aside0.mk A50
  clear A50
  by_cases c6 : t111 = true
  · subst c6
    have H1 : (if a2 < 1 then (cuvettelaw12_LotsOne.j0 k a0 a1 a2 a3 true true) else (if a3 < 1 then (cuvettelaw12_LotsOne.j0 k a0 a1 a2 a3 true true) else (if a2 > 32768 then (cuvettelaw12_LotsOne.j0 k a0 a1 a2 a3 true true) else (if a3 > 32768 then (cuvettelaw12_LotsOne.j0 k a0 a1 a2 a3 true true) else (if a1 < 0 then (cuvettelaw12_LotsOne.j0 k a0 a1 a2 a3 true true) else (cuvettelaw12_LotsOne.j0 k a0 a1 a2 a3 true (decide (a1 > 500)))))))) = some r := by rw [if_pos rfl] at H; exact H
    clear H
    have H := H1
    clear H1
    have HC7 := Aside0.mk H
    clear H
    go_enter Try.func7, Try.ntmps7
    go_upto_region 4 with (first | (go_at_call 18; (with_reducible refine (cuvettelaw12_live.calls  true _ A5.out).mono ?_); rintro e w' ⟨rfl, ⟨nd, rfl⟩⟩; (try first | exact ⟨rfl, _, World.drewN_drewN _ _ _⟩ | exact ⟨rfl, _, Eq.trans (World.drewN_drewN _ _ _) (congrArg (World.drewN _) (Nat.add_assoc _ _ _))⟩)))
    repeat (go_quiet (first | (go_at_call 18; (with_reducible refine (cuvettelaw12_live.calls  true _ A5.out).mono ?_); rintro e w' ⟨rfl, ⟨nd, rfl⟩⟩; (try first | exact ⟨rfl, _, World.drewN_drewN _ _ _⟩ | exact ⟨rfl, _, Eq.trans (World.drewN_drewN _ _ _) (congrArg (World.drewN _) (Nat.add_assoc _ _ _))⟩))); go_upto_region 4 with (first | (go_at_call 18; (with_reducible refine (cuvettelaw12_live.calls  true _ A5.out).mono ?_); rintro e w' ⟨rfl, ⟨nd, rfl⟩⟩; (try first | exact ⟨rfl, _, World.drewN_drewN _ _ _⟩ | exact ⟨rfl, _, Eq.trans (World.drewN_drewN _ _ _) (congrArg (World.drewN _) (Nat.add_assoc _ _ _))⟩))))
    (try simp only [Act.put, List.setIfInBounds_toArray, List.set_cons_zero, List.set_cons_succ])
    go_cut [44] (fun v44 wc => ∃ (kq : Nat) (x44_6 : Bool), v44 = .bool x44_6 ∧ Aside0 (cuvettelaw12_LotsOne.j0 kq a0 a1 a2 a3 true x44_6 = some r) ∧ Aside0 (kq ≤ k) ∧ Aside0 (Below w.heap.size w wc))
    case first =>
      have H := HC7.out
      clear HC7
      by_cases c8 : a2 < 1
      · rw [if_pos c8] at H
        have c8b0 : decide (a2 < 1) = true := decide_eq_true c8
        clear c8
        (first | rw [c8b0] | (simp only [i64_w, i32_w]; rw [c8b0]) | skip)
        have H' := Aside0.mk H
        clear H
        go_wp2
        repeat (go_quiet (fail); try go_wp2)
        go_meet
        case rel => exact ⟨_, (true), (by first | rfl | (simp; done) | (simp [*]; done)), H', ⟨by first | omega | exact Nat.le_refl _⟩, ⟨by repeat (first | (with_reducible first | exact HB.out | apply below_alloc | apply pw_below_drewN | apply below_drew1) | exact HB.out)⟩⟩
      · rw [if_neg c8] at H
        have c8b0 : decide (a2 < 1) = false := decide_eq_false c8
        clear c8
        (first | rw [c8b0] | (simp only [i64_w, i32_w]; rw [c8b0]) | skip)
        by_cases c9 : a3 < 1
        · rw [if_pos c9] at H
          have c9b0 : decide (a3 < 1) = true := decide_eq_true c9
          clear c9
          have H' := Aside0.mk H
          clear H
          go_wp2
          repeat (go_quiet (fail); try go_wp2)
          go_meet
          case rel => exact ⟨_, (true), (by first | rfl | (simp; done) | (simp [*]; done)), H', ⟨by first | omega | exact Nat.le_refl _⟩, ⟨by repeat (first | (with_reducible first | exact HB.out | apply below_alloc | apply pw_below_drewN | apply below_drew1) | exact HB.out)⟩⟩
        · rw [if_neg c9] at H
          have c9b0 : decide (a3 < 1) = false := decide_eq_false c9
          clear c9
          by_cases c10 : a2 > 32768
          · rw [if_pos c10] at H
            have c10b0 : decide (32768 < a2) = true := decide_eq_true c10
            clear c10
            have H' := Aside0.mk H
            clear H
            go_wp2
            repeat (go_quiet (fail); try go_wp2)
            go_meet
            case rel => exact ⟨_, (true), (by first | rfl | (simp; done) | (simp [*]; done)), H', ⟨by first | omega | exact Nat.le_refl _⟩, ⟨by repeat (first | (with_reducible first | exact HB.out | apply below_alloc | apply pw_below_drewN | apply below_drew1) | exact HB.out)⟩⟩
          · rw [if_neg c10] at H
            have c10b0 : decide (32768 < a2) = false := decide_eq_false c10
            clear c10
            by_cases c11 : a3 > 32768
            · rw [if_pos c11] at H
              have c11b0 : decide (32768 < a3) = true := decide_eq_true c11
              clear c11
              have H' := Aside0.mk H
              clear H
              go_wp2
              repeat (go_quiet (fail); try go_wp2)
              go_meet
              case rel => exact ⟨_, (true), (by first | rfl | (simp; done) | (simp [*]; done)), H', ⟨by first | omega | exact Nat.le_refl _⟩, ⟨by repeat (first | (with_reducible first | exact HB.out | apply below_alloc | apply pw_below_drewN | apply below_drew1) | exact HB.out)⟩⟩
            · rw [if_neg c11] at H
              have c11b0 : decide (32768 < a3) = false := decide_eq_false c11
              clear c11
              by_cases c12 : a1 < 0
              · rw [if_pos c12] at H
                have c12b0 : decide (a1 < 0) = true := decide_eq_true c12
                clear c12
                have H' := Aside0.mk H
                clear H
                go_wp2
                repeat (go_quiet (fail); try go_wp2)
                go_meet
                case rel => exact ⟨_, (true), (by first | rfl | (simp; done) | (simp [*]; done)), H', ⟨by first | omega | exact Nat.le_refl _⟩, ⟨by repeat (first | (with_reducible first | exact HB.out | apply below_alloc | apply pw_below_drewN | apply below_drew1) | exact HB.out)⟩⟩
              · rw [if_neg c12] at H
                have c12b0 : decide (a1 < 0) = false := decide_eq_false c12
                clear c12
                have H' := Aside0.mk H
                clear H
                go_wp2
                repeat (go_quiet (fail); try go_wp2)
                go_meet
                case rel => exact ⟨_, (decide (a1 > 500)), (by first | rfl | (simp; done) | (simp [*]; done)), H', ⟨by first | omega | exact Nat.le_refl _⟩, ⟨by repeat (first | (with_reducible first | exact HB.out | apply below_alloc | apply pw_below_drewN | apply below_drew1) | exact HB.out)⟩⟩
    case rest =>
      clear HC7
      try clear c1
      try clear p2
      try clear c6
      try clear c7
      try clear c8
      try clear c8b0
      try clear c9
      try clear c9b0
      try clear c10
      try clear c10b0
      try clear c11
      try clear c11b0
      try clear c12
      try clear c12b0
      obtain ⟨kq, x44_6, rfl, HA, HJ6, HB⟩ := hcut
      cases kq with
      | zero => exact absurd HA.out (by simp [cuvettelaw12_LotsOne.j0])
      | succ kj6 =>
        have H := HA.out
        clear HA
        simp only [cuvettelaw12_LotsOne.j0] at H
        by_cases c13 : x44_6 = true
        · subst c13
          have H1 : (some true) = some r := by rw [if_pos rfl] at H; exact H
          clear H
          have H := H1
          clear H1
          obtain rfl := Option.some.inj H
          go_wp2
          repeat (go_quiet (fail); try go_wp2)
          go_ret
          exact ⟨by first | rfl | (simp [errW_none, errW_some] <;> rfl) | (simp [*, errW_none, errW_some] <;> rfl), by repeat (first | (with_reducible first | exact HB.out | apply below_alloc | apply pw_below_drewN | apply below_drew1) | exact HB.out)⟩
        · replace c13 := Bool.eq_false_iff.mpr c13
          subst c13
          have H1 : ((lots_Lots.f kj6 a0 a1 (wrap64 (a2 * a3))).bind fun bt112 => ((lots_Lots.f kj6 a0 a1 a2).bind fun bt117 => ((lots_Lots.f kj6 a0 a1 1).bind fun bt122 => (if bt112.2.2 = 0 then (if bt117.2.2 = 0 then (if bt122.2.2 = 0 then (if (bt112.1.length : Int) = a1 then (if (bt117.1.length : Int) = a1 then (cuvettelaw12_LotsOne.j1 kj6 a2 true bt112.1 bt117.1 bt122.1 ((bt122.1.length : Int) != a1)) else (cuvettelaw12_LotsOne.j1 kj6 a2 true bt112.1 bt117.1 bt122.1 true)) else (cuvettelaw12_LotsOne.j1 kj6 a2 true bt112.1 bt117.1 bt122.1 true)) else (cuvettelaw12_LotsOne.j1 kj6 a2 true bt112.1 bt117.1 bt122.1 true)) else (cuvettelaw12_LotsOne.j1 kj6 a2 true bt112.1 bt117.1 bt122.1 true)) else (cuvettelaw12_LotsOne.j1 kj6 a2 true bt112.1 bt117.1 bt122.1 true))))) = some r := by rw [if_neg (show ¬ (false = true) by decide)] at H; exact H
          clear H
          have H := H1
          clear H1
          replace H := Option.bind_eq_some_iff.mp H
          obtain ⟨⟨t112, t113, t114⟩, A140, H⟩ := H
          replace H : ((lots_Lots.f kj6 a0 a1 a2).bind fun bt117 => ((lots_Lots.f kj6 a0 a1 1).bind fun bt122 => (if t114 = 0 then (if bt117.2.2 = 0 then (if bt122.2.2 = 0 then (if (t112.length : Int) = a1 then (if (bt117.1.length : Int) = a1 then (cuvettelaw12_LotsOne.j1 kj6 a2 true t112 bt117.1 bt122.1 ((bt122.1.length : Int) != a1)) else (cuvettelaw12_LotsOne.j1 kj6 a2 true t112 bt117.1 bt122.1 true)) else (cuvettelaw12_LotsOne.j1 kj6 a2 true t112 bt117.1 bt122.1 true)) else (cuvettelaw12_LotsOne.j1 kj6 a2 true t112 bt117.1 bt122.1 true)) else (cuvettelaw12_LotsOne.j1 kj6 a2 true t112 bt117.1 bt122.1 true)) else (cuvettelaw12_LotsOne.j1 kj6 a2 true t112 bt117.1 bt122.1 true)))) = some r := H
          have A14 := Aside0.mk A140
          clear A140
          replace H := Option.bind_eq_some_iff.mp H
          obtain ⟨⟨t117, t118, t119⟩, A150, H⟩ := H
          replace H : ((lots_Lots.f kj6 a0 a1 1).bind fun bt122 => (if t114 = 0 then (if t119 = 0 then (if bt122.2.2 = 0 then (if (t112.length : Int) = a1 then (if (t117.length : Int) = a1 then (cuvettelaw12_LotsOne.j1 kj6 a2 true t112 t117 bt122.1 ((bt122.1.length : Int) != a1)) else (cuvettelaw12_LotsOne.j1 kj6 a2 true t112 t117 bt122.1 true)) else (cuvettelaw12_LotsOne.j1 kj6 a2 true t112 t117 bt122.1 true)) else (cuvettelaw12_LotsOne.j1 kj6 a2 true t112 t117 bt122.1 true)) else (cuvettelaw12_LotsOne.j1 kj6 a2 true t112 t117 bt122.1 true)) else (cuvettelaw12_LotsOne.j1 kj6 a2 true t112 t117 bt122.1 true))) = some r := H
          have A15 := Aside0.mk A150
          clear A150
          replace H := Option.bind_eq_some_iff.mp H
          obtain ⟨⟨t122, t123, t124⟩, A160, H⟩ := H
          replace H : (if t114 = 0 then (if t119 = 0 then (if t124 = 0 then (if (t112.length : Int) = a1 then (if (t117.length : Int) = a1 then (cuvettelaw12_LotsOne.j1 kj6 a2 true t112 t117 t122 ((t122.length : Int) != a1)) else (cuvettelaw12_LotsOne.j1 kj6 a2 true t112 t117 t122 true)) else (cuvettelaw12_LotsOne.j1 kj6 a2 true t112 t117 t122 true)) else (cuvettelaw12_LotsOne.j1 kj6 a2 true t112 t117 t122 true)) else (cuvettelaw12_LotsOne.j1 kj6 a2 true t112 t117 t122 true)) else (cuvettelaw12_LotsOne.j1 kj6 a2 true t112 t117 t122 true)) = some r := H
          have A16 := Aside0.mk A160
          clear A160
          have HC17 := Aside0.mk H
          clear H
          go_upto_region 9 with (first | (go_at_call 24; (with_reducible refine (lots_Lots.calls kj6 a0 a1 (wrap64 (a2 * a3)) t112 t113 t114 _ A14.out).mono ?_); rintro e w18 ⟨v115, rfl, ho0, hb⟩; have n0_ := Aside0.mk (Kd.R_lower ho0 (below_size (by repeat (first | (with_reducible first | exact HB.out | apply below_alloc | apply pw_below_drewN | apply below_drew1) | exact HB.out)))); have n1_ := Aside0.mk (below_step (by repeat (first | (with_reducible first | exact HB.out | apply below_alloc | apply pw_below_drewN | apply below_drew1) | exact HB.out)) hb); clear HB; have HO116 := n0_; have HB := n1_; clear n0_ n1_; (try clear hb); (try clear hb2); (try clear hk); (try clear hi); (try clear ho0)) | (go_at_call 24; (with_reducible refine (lots_Lots.calls kj6 a0 a1 a2 t117 t118 t119 _ A15.out).mono ?_); rintro e w19 ⟨v120, rfl, ho0, hb⟩; have n0_ := Aside0.mk (Kd.R_elder' (by (with_reducible repeat (first | apply Kd.R_alloc | apply Kd.R_drewN | apply Kd.R_drew)); exact HO116.out) (Kd.R_base ho0) hb); have n1_ := Aside0.mk (Kd.R_lower (Kd.R_new' ho0 (Kd.R_lt (by (with_reducible repeat (first | apply Kd.R_alloc | apply Kd.R_drewN | apply Kd.R_drew)); exact HO116.out))) (below_size (by repeat (first | (with_reducible first | exact HB.out | apply below_alloc | apply pw_below_drewN | apply below_drew1) | exact HB.out)))); have n2_ := Aside0.mk (below_step (by repeat (first | (with_reducible first | exact HB.out | apply below_alloc | apply pw_below_drewN | apply below_drew1) | exact HB.out)) hb); clear HO116; clear HB; have HO116 := n0_; have HO121 := n1_; have HB := n2_; clear n0_ n1_ n2_; (try clear hb); (try clear hb2); (try clear hk); (try clear hi); (try clear ho0)) | (go_at_call 24; (with_reducible refine (lots_Lots.calls kj6 a0 a1 1 t122 t123 t124 _ A16.out).mono ?_); rintro e w20 ⟨v125, rfl, ho0, hb⟩; have n0_ := Aside0.mk (Kd.R_elder' (by (with_reducible repeat (first | apply Kd.R_alloc | apply Kd.R_drewN | apply Kd.R_drew)); exact HO116.out) (Kd.R_base ho0) hb); have n1_ := Aside0.mk (Kd.R_elder' (by (with_reducible repeat (first | apply Kd.R_alloc | apply Kd.R_drewN | apply Kd.R_drew)); exact HO121.out) (Kd.R_base ho0) hb); have n2_ := Aside0.mk (Kd.R_lower (Kd.R_new' (Kd.R_new' ho0 (Kd.R_lt (by (with_reducible repeat (first | apply Kd.R_alloc | apply Kd.R_drewN | apply Kd.R_drew)); exact HO116.out))) (Kd.R_lt (by (with_reducible repeat (first | apply Kd.R_alloc | apply Kd.R_drewN | apply Kd.R_drew)); exact HO121.out))) (below_size (by repeat (first | (with_reducible first | exact HB.out | apply below_alloc | apply pw_below_drewN | apply below_drew1) | exact HB.out)))); have n3_ := Aside0.mk (below_step (by repeat (first | (with_reducible first | exact HB.out | apply below_alloc | apply pw_below_drewN | apply below_drew1) | exact HB.out)) hb); clear HO116; clear HO121; clear HB; have HO116 := n0_; have HO121 := n1_; have HO126 := n2_; have HB := n3_; clear n0_ n1_ n2_ n3_; (try clear hb); (try clear hb2); (try clear hk); (try clear hi); (try clear ho0)))
          repeat (go_quiet (first | (go_at_call 24; (with_reducible refine (lots_Lots.calls kj6 a0 a1 (wrap64 (a2 * a3)) t112 t113 t114 _ A14.out).mono ?_); rintro e w18 ⟨v115, rfl, ho0, hb⟩; have n0_ := Aside0.mk (Kd.R_lower ho0 (below_size (by repeat (first | (with_reducible first | exact HB.out | apply below_alloc | apply pw_below_drewN | apply below_drew1) | exact HB.out)))); have n1_ := Aside0.mk (below_step (by repeat (first | (with_reducible first | exact HB.out | apply below_alloc | apply pw_below_drewN | apply below_drew1) | exact HB.out)) hb); clear HB; have HO116 := n0_; have HB := n1_; clear n0_ n1_; (try clear hb); (try clear hb2); (try clear hk); (try clear hi); (try clear ho0)) | (go_at_call 24; (with_reducible refine (lots_Lots.calls kj6 a0 a1 a2 t117 t118 t119 _ A15.out).mono ?_); rintro e w19 ⟨v120, rfl, ho0, hb⟩; have n0_ := Aside0.mk (Kd.R_elder' (by (with_reducible repeat (first | apply Kd.R_alloc | apply Kd.R_drewN | apply Kd.R_drew)); exact HO116.out) (Kd.R_base ho0) hb); have n1_ := Aside0.mk (Kd.R_lower (Kd.R_new' ho0 (Kd.R_lt (by (with_reducible repeat (first | apply Kd.R_alloc | apply Kd.R_drewN | apply Kd.R_drew)); exact HO116.out))) (below_size (by repeat (first | (with_reducible first | exact HB.out | apply below_alloc | apply pw_below_drewN | apply below_drew1) | exact HB.out)))); have n2_ := Aside0.mk (below_step (by repeat (first | (with_reducible first | exact HB.out | apply below_alloc | apply pw_below_drewN | apply below_drew1) | exact HB.out)) hb); clear HO116; clear HB; have HO116 := n0_; have HO121 := n1_; have HB := n2_; clear n0_ n1_ n2_; (try clear hb); (try clear hb2); (try clear hk); (try clear hi); (try clear ho0)) | (go_at_call 24; (with_reducible refine (lots_Lots.calls kj6 a0 a1 1 t122 t123 t124 _ A16.out).mono ?_); rintro e w20 ⟨v125, rfl, ho0, hb⟩; have n0_ := Aside0.mk (Kd.R_elder' (by (with_reducible repeat (first | apply Kd.R_alloc | apply Kd.R_drewN | apply Kd.R_drew)); exact HO116.out) (Kd.R_base ho0) hb); have n1_ := Aside0.mk (Kd.R_elder' (by (with_reducible repeat (first | apply Kd.R_alloc | apply Kd.R_drewN | apply Kd.R_drew)); exact HO121.out) (Kd.R_base ho0) hb); have n2_ := Aside0.mk (Kd.R_lower (Kd.R_new' (Kd.R_new' ho0 (Kd.R_lt (by (with_reducible repeat (first | apply Kd.R_alloc | apply Kd.R_drewN | apply Kd.R_drew)); exact HO116.out))) (Kd.R_lt (by (with_reducible repeat (first | apply Kd.R_alloc | apply Kd.R_drewN | apply Kd.R_drew)); exact HO121.out))) (below_size (by repeat (first | (with_reducible first | exact HB.out | apply below_alloc | apply pw_below_drewN | apply below_drew1) | exact HB.out)))); have n3_ := Aside0.mk (below_step (by repeat (first | (with_reducible first | exact HB.out | apply below_alloc | apply pw_below_drewN | apply below_drew1) | exact HB.out)) hb); clear HO116; clear HO121; clear HB; have HO116 := n0_; have HO121 := n1_; have HO126 := n2_; have HB := n3_; clear n0_ n1_ n2_ n3_; (try clear hb); (try clear hb2); (try clear hk); (try clear hi); (try clear ho0))); go_upto_region 9 with (first | (go_at_call 24; (with_reducible refine (lots_Lots.calls kj6 a0 a1 (wrap64 (a2 * a3)) t112 t113 t114 _ A14.out).mono ?_); rintro e w18 ⟨v115, rfl, ho0, hb⟩; have n0_ := Aside0.mk (Kd.R_lower ho0 (below_size (by repeat (first | (with_reducible first | exact HB.out | apply below_alloc | apply pw_below_drewN | apply below_drew1) | exact HB.out)))); have n1_ := Aside0.mk (below_step (by repeat (first | (with_reducible first | exact HB.out | apply below_alloc | apply pw_below_drewN | apply below_drew1) | exact HB.out)) hb); clear HB; have HO116 := n0_; have HB := n1_; clear n0_ n1_; (try clear hb); (try clear hb2); (try clear hk); (try clear hi); (try clear ho0)) | (go_at_call 24; (with_reducible refine (lots_Lots.calls kj6 a0 a1 a2 t117 t118 t119 _ A15.out).mono ?_); rintro e w19 ⟨v120, rfl, ho0, hb⟩; have n0_ := Aside0.mk (Kd.R_elder' (by (with_reducible repeat (first | apply Kd.R_alloc | apply Kd.R_drewN | apply Kd.R_drew)); exact HO116.out) (Kd.R_base ho0) hb); have n1_ := Aside0.mk (Kd.R_lower (Kd.R_new' ho0 (Kd.R_lt (by (with_reducible repeat (first | apply Kd.R_alloc | apply Kd.R_drewN | apply Kd.R_drew)); exact HO116.out))) (below_size (by repeat (first | (with_reducible first | exact HB.out | apply below_alloc | apply pw_below_drewN | apply below_drew1) | exact HB.out)))); have n2_ := Aside0.mk (below_step (by repeat (first | (with_reducible first | exact HB.out | apply below_alloc | apply pw_below_drewN | apply below_drew1) | exact HB.out)) hb); clear HO116; clear HB; have HO116 := n0_; have HO121 := n1_; have HB := n2_; clear n0_ n1_ n2_; (try clear hb); (try clear hb2); (try clear hk); (try clear hi); (try clear ho0)) | (go_at_call 24; (with_reducible refine (lots_Lots.calls kj6 a0 a1 1 t122 t123 t124 _ A16.out).mono ?_); rintro e w20 ⟨v125, rfl, ho0, hb⟩; have n0_ := Aside0.mk (Kd.R_elder' (by (with_reducible repeat (first | apply Kd.R_alloc | apply Kd.R_drewN | apply Kd.R_drew)); exact HO116.out) (Kd.R_base ho0) hb); have n1_ := Aside0.mk (Kd.R_elder' (by (with_reducible repeat (first | apply Kd.R_alloc | apply Kd.R_drewN | apply Kd.R_drew)); exact HO121.out) (Kd.R_base ho0) hb); have n2_ := Aside0.mk (Kd.R_lower (Kd.R_new' (Kd.R_new' ho0 (Kd.R_lt (by (with_reducible repeat (first | apply Kd.R_alloc | apply Kd.R_drewN | apply Kd.R_drew)); exact HO116.out))) (Kd.R_lt (by (with_reducible repeat (first | apply Kd.R_alloc | apply Kd.R_drewN | apply Kd.R_drew)); exact HO121.out))) (below_size (by repeat (first | (with_reducible first | exact HB.out | apply below_alloc | apply pw_below_drewN | apply below_drew1) | exact HB.out)))); have n3_ := Aside0.mk (below_step (by repeat (first | (with_reducible first | exact HB.out | apply below_alloc | apply pw_below_drewN | apply below_drew1) | exact HB.out)) hb); clear HO116; clear HO121; clear HB; have HO116 := n0_; have HO121 := n1_; have HO126 := n2_; have HB := n3_; clear n0_ n1_ n2_ n3_; (try clear hb); (try clear hb2); (try clear hk); (try clear hi); (try clear ho0))))
          (try simp only [Act.put, List.setIfInBounds_toArray, List.set_cons_zero, List.set_cons_succ])
          go_cut [98] (fun v98 wc => ∃ (kq : Nat) (x98_16 : Bool), v98 = .bool x98_16 ∧ Aside0 (cuvettelaw12_LotsOne.j1 kq a2 true t112 t117 t122 x98_16 = some r) ∧ Aside0 (kq ≤ kj6) ∧ Aside0 (Kd.R (Kd.int .i64) 3 wc w.heap.size (fun k_ => some k_ ≠ (v120 : Value).ownBlock ∧ some k_ ≠ (v125 : Value).ownBlock) v115 t112) ∧ Aside0 (Kd.R (Kd.int .i64) 3 wc w.heap.size (fun k_ => some k_ ≠ (v115 : Value).ownBlock ∧ some k_ ≠ (v125 : Value).ownBlock) v120 t117) ∧ Aside0 (Kd.R (Kd.int .i64) 3 wc w.heap.size (fun k_ => some k_ ≠ (v115 : Value).ownBlock ∧ some k_ ≠ (v120 : Value).ownBlock) v125 t122) ∧ Aside0 (Below w.heap.size w wc))
          case first =>
            have H := HC17.out
            clear HC17
            by_cases c21 : t114 = 0
            · rw [if_pos c21] at H
              have c21b0 : (t114 == 0) = true := beq_iff_eq.mpr c21
              have c21b1 : (t114 != 0) = false := bne_eq_false_iff_eq.mpr c21
              clear c21
              (first | rw [c21b0] | (simp only [i64_w, i32_w]; rw [c21b0]) | skip)
              by_cases c22 : t119 = 0
              · rw [if_pos c22] at H
                have c22b0 : (t119 == 0) = true := beq_iff_eq.mpr c22
                have c22b1 : (t119 != 0) = false := bne_eq_false_iff_eq.mpr c22
                clear c22
                by_cases c23 : t124 = 0
                · rw [if_pos c23] at H
                  have c23b0 : (t124 == 0) = true := beq_iff_eq.mpr c23
                  have c23b1 : (t124 != 0) = false := bne_eq_false_iff_eq.mpr c23
                  clear c23
                  by_cases c24 : (t112.length : Int) = a1
                  · rw [if_pos c24] at H
                    have c24b0 : ((t112.length : Int) == a1) = true := beq_iff_eq.mpr c24
                    have c24b1 : ((t112.length : Int) != a1) = false := bne_eq_false_iff_eq.mpr c24
                    clear c24
                    by_cases c25 : (t117.length : Int) = a1
                    · rw [if_pos c25] at H
                      have c25b0 : ((t117.length : Int) == a1) = true := beq_iff_eq.mpr c25
                      have c25b1 : ((t117.length : Int) != a1) = false := bne_eq_false_iff_eq.mpr c25
                      clear c25
                      have H' := Aside0.mk H
                      clear H
                      obtain ⟨Ao26, co26, eo26⟩ := Kd.R_slice HO116.out
                      subst eo26
                      obtain ⟨Ao27, co27, eo27⟩ := Kd.R_slice HO121.out
                      subst eo27
                      obtain ⟨Ao28, co28, eo28⟩ := Kd.R_slice HO126.out
                      subst eo28
                      go_wp2
                      repeat (go_quiet (fail); try go_wp2)
                      go_meet
                      case rel => exact ⟨_, (((t122.length : Int) != a1)), (by first | rfl | (simp; done) | (simp [*]; done)), H', ⟨by have := HJ6.out; first | omega | exact Nat.le_refl _⟩, ⟨by (with_reducible repeat (first | apply Kd.R_alloc | apply Kd.R_drewN | apply Kd.R_drew)); exact Kd.R_mono HO116.out (fun _ hk => ⟨hk.1.2, hk.2⟩)⟩, ⟨by (with_reducible repeat (first | apply Kd.R_alloc | apply Kd.R_drewN | apply Kd.R_drew)); exact Kd.R_mono HO121.out (fun _ hk => ⟨hk.1.2, hk.2⟩)⟩, ⟨by (with_reducible repeat (first | apply Kd.R_alloc | apply Kd.R_drewN | apply Kd.R_drew)); exact Kd.R_mono HO126.out (fun _ hk => ⟨hk.1.2, hk.2⟩)⟩, ⟨by repeat (first | (with_reducible first | exact HB.out | apply below_alloc | apply pw_below_drewN | apply below_drew1) | exact HB.out)⟩⟩
                    · rw [if_neg c25] at H
                      have c25b0 : ((t117.length : Int) == a1) = false := beq_eq_false_iff_ne.mpr c25
                      have c25b1 : ((t117.length : Int) != a1) = true := bne_iff_ne.mpr c25
                      have H' := Aside0.mk H
                      clear H
                      obtain ⟨Ao29, co29, eo29⟩ := Kd.R_slice HO116.out
                      subst eo29
                      obtain ⟨Ao30, co30, eo30⟩ := Kd.R_slice HO121.out
                      subst eo30
                      go_wp2
                      repeat (go_quiet (fail); try go_wp2)
                      go_meet
                      case rel => exact ⟨_, (true), (by first | rfl | (simp; done) | (simp [*]; done)), H', ⟨by have := HJ6.out; first | omega | exact Nat.le_refl _⟩, ⟨by (with_reducible repeat (first | apply Kd.R_alloc | apply Kd.R_drewN | apply Kd.R_drew)); exact Kd.R_mono HO116.out (fun _ hk => ⟨hk.1.2, hk.2⟩)⟩, ⟨by (with_reducible repeat (first | apply Kd.R_alloc | apply Kd.R_drewN | apply Kd.R_drew)); exact Kd.R_mono HO121.out (fun _ hk => ⟨hk.1.2, hk.2⟩)⟩, ⟨by (with_reducible repeat (first | apply Kd.R_alloc | apply Kd.R_drewN | apply Kd.R_drew)); exact Kd.R_mono HO126.out (fun _ hk => ⟨hk.1.2, hk.2⟩)⟩, ⟨by repeat (first | (with_reducible first | exact HB.out | apply below_alloc | apply pw_below_drewN | apply below_drew1) | exact HB.out)⟩⟩
                  · rw [if_neg c24] at H
                    have c24b0 : ((t112.length : Int) == a1) = false := beq_eq_false_iff_ne.mpr c24
                    have c24b1 : ((t112.length : Int) != a1) = true := bne_iff_ne.mpr c24
                    have H' := Aside0.mk H
                    clear H
                    obtain ⟨Ao31, co31, eo31⟩ := Kd.R_slice HO116.out
                    subst eo31
                    go_wp2
                    repeat (go_quiet (fail); try go_wp2)
                    go_meet
                    case rel => exact ⟨_, (true), (by first | rfl | (simp; done) | (simp [*]; done)), H', ⟨by have := HJ6.out; first | omega | exact Nat.le_refl _⟩, ⟨by (with_reducible repeat (first | apply Kd.R_alloc | apply Kd.R_drewN | apply Kd.R_drew)); exact Kd.R_mono HO116.out (fun _ hk => ⟨hk.1.2, hk.2⟩)⟩, ⟨by (with_reducible repeat (first | apply Kd.R_alloc | apply Kd.R_drewN | apply Kd.R_drew)); exact Kd.R_mono HO121.out (fun _ hk => ⟨hk.1.2, hk.2⟩)⟩, ⟨by (with_reducible repeat (first | apply Kd.R_alloc | apply Kd.R_drewN | apply Kd.R_drew)); exact Kd.R_mono HO126.out (fun _ hk => ⟨hk.1.2, hk.2⟩)⟩, ⟨by repeat (first | (with_reducible first | exact HB.out | apply below_alloc | apply pw_below_drewN | apply below_drew1) | exact HB.out)⟩⟩
                · rw [if_neg c23] at H
                  have c23b0 : (t124 == 0) = false := beq_eq_false_iff_ne.mpr c23
                  have c23b1 : (t124 != 0) = true := bne_iff_ne.mpr c23
                  have H' := Aside0.mk H
                  clear H
                  go_wp2
                  repeat (go_quiet (fail); try go_wp2)
                  go_meet
                  case rel => exact ⟨_, (true), (by first | rfl | (simp; done) | (simp [*]; done)), H', ⟨by have := HJ6.out; first | omega | exact Nat.le_refl _⟩, ⟨by (with_reducible repeat (first | apply Kd.R_alloc | apply Kd.R_drewN | apply Kd.R_drew)); exact Kd.R_mono HO116.out (fun _ hk => ⟨hk.1.2, hk.2⟩)⟩, ⟨by (with_reducible repeat (first | apply Kd.R_alloc | apply Kd.R_drewN | apply Kd.R_drew)); exact Kd.R_mono HO121.out (fun _ hk => ⟨hk.1.2, hk.2⟩)⟩, ⟨by (with_reducible repeat (first | apply Kd.R_alloc | apply Kd.R_drewN | apply Kd.R_drew)); exact Kd.R_mono HO126.out (fun _ hk => ⟨hk.1.2, hk.2⟩)⟩, ⟨by repeat (first | (with_reducible first | exact HB.out | apply below_alloc | apply pw_below_drewN | apply below_drew1) | exact HB.out)⟩⟩
              · rw [if_neg c22] at H
                have c22b0 : (t119 == 0) = false := beq_eq_false_iff_ne.mpr c22
                have c22b1 : (t119 != 0) = true := bne_iff_ne.mpr c22
                have H' := Aside0.mk H
                clear H
                go_wp2
                repeat (go_quiet (fail); try go_wp2)
                go_meet
                case rel => exact ⟨_, (true), (by first | rfl | (simp; done) | (simp [*]; done)), H', ⟨by have := HJ6.out; first | omega | exact Nat.le_refl _⟩, ⟨by (with_reducible repeat (first | apply Kd.R_alloc | apply Kd.R_drewN | apply Kd.R_drew)); exact Kd.R_mono HO116.out (fun _ hk => ⟨hk.1.2, hk.2⟩)⟩, ⟨by (with_reducible repeat (first | apply Kd.R_alloc | apply Kd.R_drewN | apply Kd.R_drew)); exact Kd.R_mono HO121.out (fun _ hk => ⟨hk.1.2, hk.2⟩)⟩, ⟨by (with_reducible repeat (first | apply Kd.R_alloc | apply Kd.R_drewN | apply Kd.R_drew)); exact Kd.R_mono HO126.out (fun _ hk => ⟨hk.1.2, hk.2⟩)⟩, ⟨by repeat (first | (with_reducible first | exact HB.out | apply below_alloc | apply pw_below_drewN | apply below_drew1) | exact HB.out)⟩⟩
            · rw [if_neg c21] at H
              have c21b0 : (t114 == 0) = false := beq_eq_false_iff_ne.mpr c21
              have c21b1 : (t114 != 0) = true := bne_iff_ne.mpr c21
              (first | rw [c21b0] | (simp only [i64_w, i32_w]; rw [c21b0]) | skip)
              have H' := Aside0.mk H
              clear H
              go_wp2
              repeat (go_quiet (fail); try go_wp2)
              go_meet
              case rel => exact ⟨_, (true), (by first | rfl | (simp; done) | (simp [*]; done)), H', ⟨by have := HJ6.out; first | omega | exact Nat.le_refl _⟩, ⟨by (with_reducible repeat (first | apply Kd.R_alloc | apply Kd.R_drewN | apply Kd.R_drew)); exact Kd.R_mono HO116.out (fun _ hk => ⟨hk.1.2, hk.2⟩)⟩, ⟨by (with_reducible repeat (first | apply Kd.R_alloc | apply Kd.R_drewN | apply Kd.R_drew)); exact Kd.R_mono HO121.out (fun _ hk => ⟨hk.1.2, hk.2⟩)⟩, ⟨by (with_reducible repeat (first | apply Kd.R_alloc | apply Kd.R_drewN | apply Kd.R_drew)); exact Kd.R_mono HO126.out (fun _ hk => ⟨hk.1.2, hk.2⟩)⟩, ⟨by repeat (first | (with_reducible first | exact HB.out | apply below_alloc | apply pw_below_drewN | apply below_drew1) | exact HB.out)⟩⟩
          case rest =>
            clear HC17
            try clear c1
            try clear c2
            try clear p2
            try clear c6
            try clear p6
            try clear c7
            try clear c8
            try clear c8b0
            try clear c9
            try clear c9b0
            try clear c10
            try clear c10b0
            try clear c11
            try clear c11b0
            try clear c12
            try clear c12b0
            try clear c13
            try clear c21
            try clear c21b0
            try clear c21b1
            try clear c22
            try clear c22b0
            try clear c22b1
            try clear c23
            try clear c23b0
            try clear c23b1
            try clear c24
            try clear c24b0
            try clear c24b1
            try clear c25
            try clear c25b0
            try clear c25b1
            try clear p2
            obtain ⟨kq, x98_16, rfl, HA, HJ16, HO_10, HO_13, HO_16, HB⟩ := hcut
            cases kq with
            | zero => exact absurd HA.out (by simp [cuvettelaw12_LotsOne.j1])
            | succ kj16 =>
              have H := HA.out
              clear HA
              simp only [cuvettelaw12_LotsOne.j1] at H
              by_cases c32 : x98_16 = true
              · subst c32
                have H1 : (some false) = some r := by rw [if_pos rfl] at H; exact H
                clear H
                have H := H1
                clear H1
                obtain rfl := Option.some.inj H
                go_wp2
                repeat (go_quiet (fail); try go_wp2)
                go_ret
                exact ⟨by first | rfl | (simp [errW_none, errW_some] <;> rfl) | (simp [*, errW_none, errW_some] <;> rfl), by repeat (first | (with_reducible first | exact HB.out | apply below_alloc | apply pw_below_drewN | apply below_drew1) | exact HB.out)⟩
              · replace c32 := Bool.eq_false_iff.mpr c32
                subst c32
                have H1 : (cuvettelaw12_LotsOne.l0 kj16 a2 true t112 t117 t122 (t112.length : Int) 0) = some r := by rw [if_neg (show ¬ (false = true) by decide)] at H; exact H
                clear H
                have H := H1
                clear H1
                have H' := Aside0.mk H
                clear H
                obtain ⟨Ao33, co33, eo33⟩ := Kd.R_slice HO_10.out
                subst eo33
                go_wp2
                repeat (go_quiet (fail); try go_wp2)
                go_loopg [101] kj16 (fun kq v101 w' => ∃ (x101_3 : Int), v101 = .int .i64 x101_3 ∧ Aside0 (cuvettelaw12_LotsOne.l0 kq a2 true t112 t117 t122 (t112.length : Int) x101_3 = some r) ∧ Aside0 (kq ≤ kj16) ∧ Aside0 (Kd.R (Kd.int .i64) 3 w' w.heap.size (fun k_ => some k_ ≠ (v120 : Value).ownBlock ∧ some k_ ≠ (v125 : Value).ownBlock) (.slice Ao33 t112.length co33) t112) ∧ Aside0 (Kd.R (Kd.int .i64) 3 w' w.heap.size (fun k_ => some k_ ≠ ((.slice Ao33 t112.length co33) : Value).ownBlock ∧ some k_ ≠ (v125 : Value).ownBlock) v120 t117) ∧ Aside0 (Kd.R (Kd.int .i64) 3 w' w.heap.size (fun k_ => some k_ ≠ ((.slice Ao33 t112.length co33) : Value).ownBlock ∧ some k_ ≠ (v120 : Value).ownBlock) v125 t122) ∧ Aside0 (Below w.heap.size w w'))
                case atStart => exact ⟨(0), (by first | rfl | (simp; done) | (simp [*]; done)), H', ⟨Nat.le_refl _⟩, ⟨by (with_reducible repeat (first | apply Kd.R_alloc | apply Kd.R_drewN | apply Kd.R_drew)); exact HO_10.out⟩, ⟨by (with_reducible repeat (first | apply Kd.R_alloc | apply Kd.R_drewN | apply Kd.R_drew)); exact HO_13.out⟩, ⟨by (with_reducible repeat (first | apply Kd.R_alloc | apply Kd.R_drewN | apply Kd.R_drew)); exact HO_16.out⟩, ⟨by repeat (first | (with_reducible first | exact HB.out | apply below_alloc | apply pw_below_drewN | apply below_drew1) | exact HB.out)⟩⟩
                case round =>
                  clear H'
                  try clear c1
                  try clear c2
                  try clear p2
                  try clear c3
                  try clear c6
                  try clear p6
                  try clear c7
                  try clear c8
                  try clear c8b0
                  try clear c9
                  try clear c9b0
                  try clear c10
                  try clear c10b0
                  try clear c11
                  try clear c11b0
                  try clear c12
                  try clear c12b0
                  try clear c13
                  try clear c21
                  try clear c21b0
                  try clear c21b1
                  try clear c22
                  try clear c22b0
                  try clear c22b1
                  try clear c23
                  try clear c23b0
                  try clear c23b1
                  try clear c24
                  try clear c24b0
                  try clear c24b1
                  try clear c25
                  try clear c25b0
                  try clear c25b1
                  try clear c32
                  try clear p2
                  try clear p6
                  obtain ⟨x101_3, rfl, HA, HK3, HO_10, HO_13, HO_16, HB⟩ := hrel
                  cases gk with
                  | zero => exact absurd HA.out (by simp [cuvettelaw12_LotsOne.l0])
                  | succ k3 =>
                    have H := HA.out
                    clear HA
                    simp only [cuvettelaw12_LotsOne.l0] at H
                    by_cases c34 : x101_3 < (t112.length : Int)
                    · rw [if_pos c34] at H
                      have c34b0 : decide (x101_3 < (t112.length : Int)) = true := decide_eq_true c34
                      clear c34
                      by_cases c35 : 0 ≤ x101_3
                      · rw [if_pos c35] at H
                        have c35b0 : decide (0 ≤ x101_3) = true := decide_eq_true c35
                        clear c35
                        by_cases c36 : x101_3 < (t122.length : Int)
                        · rw [if_pos c36] at H
                          have c36b0 : decide (x101_3 < (t122.length : Int)) = true := decide_eq_true c36
                          clear c36
                          by_cases c37 : (rd t122 x101_3) = 0
                          · rw [if_pos c37] at H
                            have c37b0 : ((rd t122 x101_3) == 0) = true := beq_iff_eq.mpr c37
                            have c37b1 : ((rd t122 x101_3) != 0) = false := bne_eq_false_iff_eq.mpr c37
                            clear c37
                            by_cases c38 : x101_3 < (t117.length : Int)
                            · rw [if_pos c38] at H
                              have c38b0 : decide (x101_3 < (t117.length : Int)) = true := decide_eq_true c38
                              clear c38
                              by_cases c39 : x101_3 < (t112.length : Int)
                              · rw [if_pos c39] at H
                                have c39b0 : decide (x101_3 < (t112.length : Int)) = true := decide_eq_true c39
                                clear c39
                                by_cases c40 : a2 = 0
                                · rw [if_pos c40] at H
                                  exact absurd H (by simp)
                                · rw [if_neg c40] at H
                                  have c40b0 : (a2 == 0) = false := beq_eq_false_iff_ne.mpr c40
                                  have c40b1 : (a2 != 0) = true := bne_iff_ne.mpr c40
                                  by_cases c41 : (rd t117 x101_3) = (Int.tmod (rd t112 x101_3) a2)
                                  · rw [if_pos c41] at H
                                    have c41b0 : ((rd t117 x101_3) == (Int.tmod (rd t112 x101_3) a2)) = true := beq_iff_eq.mpr c41
                                    have c41b1 : ((rd t117 x101_3) != (Int.tmod (rd t112 x101_3) a2)) = false := bne_eq_false_iff_eq.mpr c41
                                    clear c41
                                    have H' := Aside0.mk H
                                    clear H
                                    obtain ⟨Ao42, co42, eo42⟩ := Kd.R_slice HO_16.out
                                    subst eo42
                                    have p127 : 0 ≤ (x101_3 : Int) := of_decide_eq_true (by first | (with_reducible assumption) | assumption)
                                    have q127 : x101_3 < (t122.length : Int) := of_decide_eq_true (by first | (with_reducible assumption) | assumption)
                                    obtain ⟨ad127, e127, hx127_0⟩ := Kd.at_int (Kd.R_reads' HO_16.out).2.2 x101_3 p127 q127
                                    cases e127
                                    replace p127 := eq_true p127
                                    replace q127 := eq_true q127
                                    obtain ⟨Ao43, co43, eo43⟩ := Kd.R_slice HO_13.out
                                    subst eo43
                                    have p128 : 0 ≤ (x101_3 : Int) := of_decide_eq_true (by first | (with_reducible assumption) | assumption)
                                    have q128 : x101_3 < (t117.length : Int) := of_decide_eq_true (by first | (with_reducible assumption) | assumption)
                                    obtain ⟨ad128, e128, hx128_0⟩ := Kd.at_int (Kd.R_reads' HO_13.out).2.2 x101_3 p128 q128
                                    cases e128
                                    replace p128 := eq_true p128
                                    replace q128 := eq_true q128
                                    have p129 : 0 ≤ (x101_3 : Int) := of_decide_eq_true (by first | (with_reducible assumption) | assumption)
                                    have q129 : x101_3 < (t112.length : Int) := of_decide_eq_true (by first | (with_reducible assumption) | assumption)
                                    obtain ⟨ad129, e129, hx129_0⟩ := Kd.at_int (Kd.R_reads' HO_10.out).2.2 x101_3 p129 q129
                                    cases e129
                                    replace p129 := eq_true p129
                                    replace q129 := eq_true q129
                                    go_wp2
                                    repeat (go_quiet (fail); try go_wp2)
                                    go_roundg k3
                                    case measure => have := HJ6.out; have := HJ16.out; have := HK3.out; omega
                                    case rel => exact ⟨(wrap64 (x101_3 + 1)), (by first | rfl | (simp; done) | (simp [*]; done)), H', ⟨by have := HJ6.out; have := HJ16.out; have := HK3.out; omega⟩, ⟨by (with_reducible repeat (first | apply Kd.R_alloc | apply Kd.R_drewN | apply Kd.R_drew)); exact HO_10.out⟩, ⟨by (with_reducible repeat (first | apply Kd.R_alloc | apply Kd.R_drewN | apply Kd.R_drew)); exact HO_13.out⟩, ⟨by (with_reducible repeat (first | apply Kd.R_alloc | apply Kd.R_drewN | apply Kd.R_drew)); exact HO_16.out⟩, ⟨by repeat (first | (with_reducible first | exact HB.out | apply below_alloc | apply pw_below_drewN | apply below_drew1) | exact HB.out)⟩⟩
                                  · rw [if_neg c41] at H
                                    have c41b0 : ((rd t117 x101_3) == (Int.tmod (rd t112 x101_3) a2)) = false := beq_eq_false_iff_ne.mpr c41
                                    have c41b1 : ((rd t117 x101_3) != (Int.tmod (rd t112 x101_3) a2)) = true := bne_iff_ne.mpr c41
                                    obtain rfl := Option.some.inj H
                                    obtain ⟨Ao44, co44, eo44⟩ := Kd.R_slice HO_16.out
                                    subst eo44
                                    have p127 : 0 ≤ (x101_3 : Int) := of_decide_eq_true (by first | (with_reducible assumption) | assumption)
                                    have q127 : x101_3 < (t122.length : Int) := of_decide_eq_true (by first | (with_reducible assumption) | assumption)
                                    obtain ⟨ad127, e127, hx127_0⟩ := Kd.at_int (Kd.R_reads' HO_16.out).2.2 x101_3 p127 q127
                                    cases e127
                                    replace p127 := eq_true p127
                                    replace q127 := eq_true q127
                                    obtain ⟨Ao45, co45, eo45⟩ := Kd.R_slice HO_13.out
                                    subst eo45
                                    have p128 : 0 ≤ (x101_3 : Int) := of_decide_eq_true (by first | (with_reducible assumption) | assumption)
                                    have q128 : x101_3 < (t117.length : Int) := of_decide_eq_true (by first | (with_reducible assumption) | assumption)
                                    obtain ⟨ad128, e128, hx128_0⟩ := Kd.at_int (Kd.R_reads' HO_13.out).2.2 x101_3 p128 q128
                                    cases e128
                                    replace p128 := eq_true p128
                                    replace q128 := eq_true q128
                                    have p129 : 0 ≤ (x101_3 : Int) := of_decide_eq_true (by first | (with_reducible assumption) | assumption)
                                    have q129 : x101_3 < (t112.length : Int) := of_decide_eq_true (by first | (with_reducible assumption) | assumption)
                                    obtain ⟨ad129, e129, hx129_0⟩ := Kd.at_int (Kd.R_reads' HO_10.out).2.2 x101_3 p129 q129
                                    cases e129
                                    replace p129 := eq_true p129
                                    replace q129 := eq_true q129
                                    go_wp2
                                    repeat (go_quiet (fail); try go_wp2)
                                    go_ret
                                    exact ⟨by first | rfl | (simp [errW_none, errW_some] <;> rfl) | (simp [*, errW_none, errW_some] <;> rfl), by repeat (first | (with_reducible first | exact HB.out | apply below_alloc | apply pw_below_drewN | apply below_drew1) | exact HB.out)⟩
                              · rw [if_neg c39] at H
                                exact absurd H (by simp)
                            · rw [if_neg c38] at H
                              exact absurd H (by simp)
                          · rw [if_neg c37] at H
                            have c37b0 : ((rd t122 x101_3) == 0) = false := beq_eq_false_iff_ne.mpr c37
                            have c37b1 : ((rd t122 x101_3) != 0) = true := bne_iff_ne.mpr c37
                            obtain rfl := Option.some.inj H
                            obtain ⟨Ao46, co46, eo46⟩ := Kd.R_slice HO_16.out
                            subst eo46
                            have p127 : 0 ≤ (x101_3 : Int) := of_decide_eq_true (by first | (with_reducible assumption) | assumption)
                            have q127 : x101_3 < (t122.length : Int) := of_decide_eq_true (by first | (with_reducible assumption) | assumption)
                            obtain ⟨ad127, e127, hx127_0⟩ := Kd.at_int (Kd.R_reads' HO_16.out).2.2 x101_3 p127 q127
                            cases e127
                            replace p127 := eq_true p127
                            replace q127 := eq_true q127
                            go_wp2
                            repeat (go_quiet (fail); try go_wp2)
                            go_ret
                            exact ⟨by first | rfl | (simp [errW_none, errW_some] <;> rfl) | (simp [*, errW_none, errW_some] <;> rfl), by repeat (first | (with_reducible first | exact HB.out | apply below_alloc | apply pw_below_drewN | apply below_drew1) | exact HB.out)⟩
                        · rw [if_neg c36] at H
                          exact absurd H (by simp)
                      · rw [if_neg c35] at H
                        exact absurd H (by simp)
                    · rw [if_neg c34] at H
                      have c34b0 : decide (x101_3 < (t112.length : Int)) = false := decide_eq_false c34
                      clear c34
                      obtain rfl := Option.some.inj H
                      go_wp2
                      repeat (go_quiet (fail); try go_wp2)
                      go_ret
                      exact ⟨by first | rfl | (simp [errW_none, errW_some] <;> rfl) | (simp [*, errW_none, errW_some] <;> rfl), by repeat (first | (with_reducible first | exact HB.out | apply below_alloc | apply pw_below_drewN | apply below_drew1) | exact HB.out)⟩
  · replace c6 := Bool.eq_false_iff.mpr c6
    subst c6
    have H1 : (some false) = some r := by rw [if_neg (show ¬ (false = true) by decide)] at H; exact H
    clear H
    have H := H1
    clear H1
    obtain rfl := Option.some.inj H
    go_enter Try.func7, Try.ntmps7
    go_wp2_with (first | (go_at_call 18; (with_reducible refine (cuvettelaw12_live.calls  false _ A5.out).mono ?_); rintro e w' ⟨rfl, ⟨nd, rfl⟩⟩; (try first | exact ⟨rfl, _, World.drewN_drewN _ _ _⟩ | exact ⟨rfl, _, Eq.trans (World.drewN_drewN _ _ _) (congrArg (World.drewN _) (Nat.add_assoc _ _ _))⟩)))
    repeat (go_quiet (first | (go_at_call 18; (with_reducible refine (cuvettelaw12_live.calls  false _ A5.out).mono ?_); rintro e w' ⟨rfl, ⟨nd, rfl⟩⟩; (try first | exact ⟨rfl, _, World.drewN_drewN _ _ _⟩ | exact ⟨rfl, _, Eq.trans (World.drewN_drewN _ _ _) (congrArg (World.drewN _) (Nat.add_assoc _ _ _))⟩))); try go_wp2_with (first | (go_at_call 18; (with_reducible refine (cuvettelaw12_live.calls  false _ A5.out).mono ?_); rintro e w' ⟨rfl, ⟨nd, rfl⟩⟩; (try first | exact ⟨rfl, _, World.drewN_drewN _ _ _⟩ | exact ⟨rfl, _, Eq.trans (World.drewN_drewN _ _ _) (congrArg (World.drewN _) (Nat.add_assoc _ _ _))⟩))))
    go_ret
    exact ⟨by first | rfl | (simp [errW_none, errW_some] <;> rfl) | (simp [*, errW_none, errW_some] <;> rfl), by repeat (first | (with_reducible first | exact HB.out | apply below_alloc | apply pw_below_drewN | apply below_drew1) | exact HB.out)⟩

/-- THE ONE PURE STATEMENT of cuvettelaw12_LotsOne: yours. -/
def cuvettelaw12_LotsOne.Pure : Prop := ∀ (a0 : Int) (a1 : Int) (a2 : Int) (a3 : Int), (Lit.int .u64 a0).wf = true → (Lit.int .i64 a1).wf = true → (Lit.int .i64 a2).wf = true → (Lit.int .i64 a3).wf = true → ∃ k, cuvettelaw12_LotsOne.f k a0 a1 a2 a3 = some true
theorem cuvettelaw12_LotsOne.walk (P : cuvettelaw12_LotsOne.Pure) (a0 : Int) (a1 : Int) (a2 : Int) (a3 : Int) (w : World) (w0 : (Lit.int .u64 a0).wf = true) (w1 : (Lit.int .i64 a1).wf = true) (w2 : (Lit.int .i64 a2).wf = true) (w3 : (Lit.int .i64 a3).wf = true) :
    Calls Try.prog 7 #[.int .u64 a0, .int .i64 a1, .int .i64 a2, .int .i64 a3] w fun e w' => e = .returned (.bool true) ∧ Below w.heap.size w w' := by
  obtain ⟨k, h⟩ := P a0 a1 a2 a3 w0 w1 w2 w3
  refine (cuvettelaw12_LotsOne.calls k a0 a1 a2 a3 true w h).mono ?_
  rintro e w' ⟨rfl, hd⟩
  exact ⟨rfl, hd⟩

end Go.Proofs.Ytekbgfpfafjobaa.PLotsOne
