/- The walk of LotsParts: it answers true at every word of 64 bits and every three numbers. -/
import Derived.Test.YtekbgfpfafjobaaSame
import Derived.Test.YtekbgfpfafjobaaJump
import Derived.Laws.AppendOwnNone
namespace Go.Proofs.Ytekbgfpfafjobaa.Lots
open Go.RowKit
set_option linter.unusedVariables false

/-- What the call owns lives on where nothing that was there has turned. -/
theorem row_below {w w1 : World} {base : Nat} {e : TypeId} {size n : Nat} {v : Value} {xs : List Value} (h : w.ownsRow base e size v n xs) (hb : Below w.heap.size w w1) : w1.ownsRow base e size v n xs := by
  obtain ⟨h1, h2⟩ := h
  refine ⟨h1, ?_⟩
  rcases h2 with h2 | ⟨g, cap, cur, rfl, hg, hh, r⟩
  · exact .inl h2
  · exact .inr ⟨g, cap, cur, rfl, hg, (hb.block g (Array.getElem?_eq_some_iff.1 hh).1).trans hh, r⟩
theorem row_grown {w w1 : World} {base : Nat} {e : TypeId} {size n : Nat} {v : Value} {xs : List Value} {row : Option Nat} (h : w.ownsRow base e size v n xs) (hg : w.grownBy w1 row) (hne : ∀ k, v.ownBlock = some k → row ≠ some k) : w1.ownsRow base e size v n xs := by
  obtain ⟨h1, h2⟩ := h
  refine ⟨h1, ?_⟩
  rcases h2 with h2 | ⟨g, cap, cur, rfl, hg', hh, r⟩
  · exact .inl h2
  · exact .inr ⟨g, cap, cur, rfl, hg', (hg.block g (Array.getElem?_eq_some_iff.1 hh).1 (fun e => hne g (by simp [Value.ownBlock]) e.symm)).trans hh, r⟩
theorem row_lt {w : World} {base : Nat} {e : TypeId} {size n : Nat} {v : Value} {xs : List Value} (h : w.ownsRow base e size v n xs) (k : Nat) (hk : v.ownBlock = some k) : k < w.heap.size := by
  rcases h.2 with ⟨rfl, _⟩ | ⟨g, cap, cur, rfl, hb, hh, _⟩
  · simp [Value.ownBlock] at hk
  · have : g = k := by simpa [Value.ownBlock] using hk
    subst this
    exact (Array.getElem?_eq_some_iff.1 hh).1

theorem add_flat (g j : Nat) : (⟨g, 0, none⟩ : Addr).add j = ⟨g, j, none⟩ := by unfold Addr.add; split <;> simp_all

/-- 'append(xs, ys...)' under a guard that holds, both rows being the call's own, nil or not. -/
theorem append_rows {P : Program} {w : World} {ops : Array Oper} {rest : List Oper} {o : Oper} {a : Act} {Q : Exit → Act → World → Prop} (hw : Region.wanted o (yielded ops a.tmps) = true) (s x : Operand) (t : TypeId)
    (ho : o.op = .call { callee := .builtin .append, args := #[s, x], argTypes := #[t, t] })
    (base : Nat) (e : TypeId) (i : TypeInfo) (z : Value) (bytes : Nat) (ht : P.underlying t = some (.slice e)) (hi : P.info? e = some i) (hz : i.zero = some z)
    (hsize : i.size = 1) (hby : i.bytes = bytes) (hzs : z.cells.size = 1)
    (v : Value) (n : Nat) (xs : List Value) (hs : a.eval s = v) (hown : w.ownsRow base e 1 v n xs)
    (u : Value) (m b2 : Nat) (ys : List Value) (hx : a.eval x = u) (hown2 : w.ownsRow b2 e 1 u m ys) (h1 : ∀ q ∈ ys, q.oneCell' = true)
    (h63 : n + m ≤ maxLen) (hbytes : (n + m) * bytes ≤ 140737488355328) (hbase : base ≤ w.heap.size)
    (h : ∀ v' w', w'.ownsRow base e 1 v' (n + m) (xs ++ ys) → w.grownBy w' v.ownBlock → wpList P ops Q rest (a.put o.dst v') w') : wpList P ops Q (o :: rest) a w := by
  refine wpList_step fun K hK => ?_
  rw [if_pos hw]
  have hrow := hown2
  rcases hown2.2 with ⟨rfl, rfl⟩ | ⟨g, cap, cur, rfl, hg, hh, _⟩
  · have hrun := run_append_owned_none (P := P) (w := w) base t o.type e i 1 ht hi v n xs hown
    have hy : ys = [] := List.length_eq_zero_iff.1 (by have := hown2.1; omega)
    subst hy
    unfold Oper.wp
    simp [execOp, ho, resolve, invoke, builtin, hs, hx, hrun, Result.andThen]
    exact hK _ _ (h v w (by simpa using hown) ⟨rfl, rfl, rfl, Nat.le_refl _, fun _ _ _ => rfl⟩)
  · refine wp_append_own w s x t ho base e i z 1 bytes ht hi hz hsize hby hzs (by decide) v n xs hs hown ⟨g, 0, none⟩ m cap ys hx (by have := hown2.1; omega) (fun j q hj => ?_) h1 h63 hbytes hbase fun v' w' h2 h3 _ => hK _ _ (h v' w' h2 h3)
    have hjl : j < ys.length := (List.getElem?_eq_some_iff.1 hj).1
    rw [add_flat, hrow.cellAt j (by have := hown2.1; omega)]
    exact hj

set_option maxRecDepth 100000 in
set_option maxHeartbeats 400000 in
theorem parts_out (x n m b : Int) (w : World) (h : ¬ (0 ≤ n ∧ 0 ≤ m ∧ n ≤ 2000 ∧ m ≤ 2000)) :
    Calls Try.prog 12 #[.int .u64 x, .int .i64 n, .int .i64 m, .int .i64 b] w fun r w' => r = .returned (.bool true) ∧ Below w.heap.size w w' := by
  have H := Lib.hid h
  clear h
  by_cases h1 : n < 0
  · go_enter Try.func12, Try.ntmps12
    go_wp2_with fail
    refine (live_any _).mono ?_
    rintro r w1 ⟨rfl, rfl⟩
    go_wp2_with fail
    go_ret
    exact ⟨rfl, Below.refl _ _⟩
  by_cases h2 : m < 0
  · go_enter Try.func12, Try.ntmps12
    go_wp2_with fail
    refine (live_any _).mono ?_
    rintro r w1 ⟨rfl, rfl⟩
    go_wp2_with fail
    go_ret
    exact ⟨rfl, Below.refl _ _⟩
  by_cases h3 : n > 2000
  · go_enter Try.func12, Try.ntmps12
    go_wp2_with fail
    refine (live_any _).mono ?_
    rintro r w1 ⟨rfl, rfl⟩
    go_wp2_with fail
    go_ret
    exact ⟨rfl, Below.refl _ _⟩
  by_cases h4 : m > 2000
  · go_enter Try.func12, Try.ntmps12
    go_wp2_with fail
    refine (live_any _).mono ?_
    rintro r w1 ⟨rfl, rfl⟩
    go_wp2_with fail
    go_ret
    exact ⟨rfl, Below.refl _ _⟩
  · exact absurd ⟨by omega, by omega, by omega, by omega⟩ H.out

set_option maxRecDepth 100000 in
set_option maxHeartbeats 800000 in
theorem parts_bad (x n m b : Int) (w : World) (h : 0 ≤ n ∧ 0 ≤ m ∧ n ≤ 2000 ∧ m ≤ 2000) (hb : ¬ BoundOk b) :
    Calls Try.prog 12 #[.int .u64 x, .int .i64 n, .int .i64 m, .int .i64 b] w fun r w' => r = .returned (.bool true) ∧ Below w.heap.size w w' := by
  have HB := Lib.hid hb
  have hbb : b < 1 ∨ (¬ b < 1 ∧ b > 2147483648) := by unfold BoundOk at hb; omega
  clear hb
  obtain ⟨h1, h2, h3, h4⟩ := h
  rcases hbb with hb1 | ⟨hb1, hb2⟩
  all_goals
    go_enter Try.func12, Try.ntmps12
    go_wp2_with fail
    refine (live_any _).mono ?_
    rintro r w1 ⟨rfl, rfl⟩
    go_wp2_with fail
    refine (lots_no _ _ _ _ (fun h => HB.out h.1)).mono ?_
    rintro r w1 ⟨rfl, rfl⟩
    go_wp2_with fail
    refine (lots_no _ _ _ _ (fun h => HB.out h.1)).mono ?_
    rintro r w1 ⟨rfl, rfl⟩
    go_wp2_with fail
    refine (lots_no _ _ _ _ (fun h => HB.out h.1)).mono ?_
    rintro r w1 ⟨rfl, rfl⟩
    go_wp2_with fail
    go_ret
    exact ⟨rfl, Below.refl _ _⟩

theorem row_uniform {w : World} {base : Nat} {v : Value} {n : Nat} {xs : List Int} (h : w.ownsRow base 3 1 v n (xs.map (Value.int .i64))) (hn : xs.length = n) :
    ∃ A c, v = .slice A n c ∧ ∀ i, i < n → ∃ g, A = some ⟨g, 0, none⟩ ∧ w.cell? ⟨g, i, none⟩ = some (.int .i64 (xs.getD i 0)) := by
  rcases row_reads h hn with ⟨rfl, A, c, rfl⟩ | ⟨g, c, rfl, _, _, hg⟩
  · exact ⟨A, c, rfl, fun i hi => absurd hi (by omega)⟩
  · exact ⟨_, c, rfl, fun i hi => ⟨g, rfl, hg i hi⟩⟩

set_option maxRecDepth 100000 in
set_option maxHeartbeats 3200000 in
theorem parts_ok (x n m b : Int) (w : World) (x0 : 0 ≤ x) (x1 : x ≤ 18446744073709551615) (h : 0 ≤ n ∧ 0 ≤ m ∧ n ≤ 2000 ∧ m ≤ 2000) (hb : BoundOk b) :
    Calls Try.prog 12 #[.int .u64 x, .int .i64 n, .int .i64 m, .int .i64 b] w fun r w' => r = .returned (.bool true) ∧ Below w.heap.size w w' := by
  obtain ⟨h1, h2, h3, h4⟩ := h
  obtain ⟨N, rfl⟩ := Int.eq_ofNat_of_zero_le h1
  obtain ⟨M, rfl⟩ := Int.eq_ofNat_of_zero_le h2
  obtain ⟨i0, hi, hz0, hz1, hz2⟩ := info_parts info3
  have H1 : Hid (LotsOk (N : Int) b) := ⟨hb, by omega, by omega⟩
  have H2 : Hid (LotsOk (M : Int) b) := ⟨hb, by omega, by omega⟩
  have H3 : Hid (LotsOk ((N : Int) + (M : Int)) b) := ⟨hb, by omega, by omega⟩
  have hjj : Hid (jmp (jmp x (N : Int)) (M : Int) = jmp x ((N : Int) + (M : Int))) := by
    have h0 := jmp_sum x N M x0 x1 (by omega) (by omega) (by omega) (by omega)
    rw [IntKind.wrap_u64, show ((N : Int) + (M : Int)) % 18446744073709551616 = (N : Int) + (M : Int) from by omega] at h0
    exact h0
  have HD : Hid (dr (N + M) x b = dr N x b ++ dr M (jmp x (N : Int)) b) := dr_two N M x b
  have HB := Lib.hid hb
  have hin : Hid (∀ k, k < N + M → 0 ≤ (dr (N + M) x b).getD k 0 ∧ (dr (N + M) x b).getD k 0 < b) := fun k hk => dr_in (N + M) x b hb.1 k hk
  clear hb
  go_enter Try.func12, Try.ntmps12
  go_wp2_with fail
  refine (live_any _).mono ?_
  rintro r w1 ⟨rfl, rfl⟩
  go_wp2_with fail
  refine (lots_yes _ _ _ _ H1.out).mono ?_
  rintro r w1 ⟨va, rfl, ra, b1⟩
  go_wp2_with fail
  refine (lots_yes _ _ _ _ H2.out).mono ?_
  rintro r w2 ⟨vb, rfl, rb, b2⟩
  rw [hjj.out]
  go_wp2_with fail
  refine (lots_yes _ _ _ _ H3.out).mono ?_
  rintro r w3 ⟨vc, rfl, rc, b3⟩
  rw [Int.toNat_natCast] at ra rb
  rw [show ((N : Int) + (M : Int)).toNat = N + M from by omega] at rc
  have ra3 := Lib.hid (row_below (row_below ra b2) b3)
  have rb3 := Lib.hid (row_below rb b3)
  have p3 := (b1.trans (b2.mono b1.size)).trans (b3.mono (Nat.le_trans b1.size b2.size))
  clear ra rb b1 b2 b3
  have rc3 := Lib.hid rc
  have rd := row_uniform rc (dr_length _ _ _)
  clear rc
  obtain ⟨A, cc, rfl, rd⟩ := rd
  have RD := Lib.hid rd
  clear rd
  have hjb : (jmp x ((N : Int) + (M : Int)) == jmp x ((N : Int) + (M : Int))) = true := beq_iff_eq.2 rfl
  go_wp2_with fail
  go_loop [20, 83] (fun _ i => ∃ k : Nat, k ≤ N + M ∧ i = .int .i64 k) (fun _ i => N + M - (intOf i).toNat)
  case atStart => exact ⟨0, by omega, rfl⟩
  case round =>
    obtain ⟨k, hk, rfl⟩ := hrel
    by_cases hlt : k < N + M
    · obtain ⟨g, rfl, hc⟩ := RD.out k hlt
      obtain ⟨v0, v1⟩ := hin.out k hlt
      generalize (dr (N + M) x b).getD k 0 = v at hc v0 v1
      have hvb : ¬ b ≤ v := by omega
      have hlt2 : (k : Int) < (N : Int) + (M : Int) := by omega
      clear RD ra3 rb3 rc3 hjb
      go_wp2_with fail
      go_round
      case rel => exact ⟨k + 1, by omega, by go_num⟩
      case measure => simp [intOf]; omega
    · have hkn : k = N + M := by omega
      clear RD
      go_wp2_with fail
      refine (jump_calls _ _ _ (by omega) (by omega)).mono ?_
      rintro r w4 ⟨rfl, b4⟩
      have ra4 := Lib.hid (row_below ra3.out b4)
      have rb4 := Lib.hid (row_below rb3.out b4)
      have rc4 := Lib.hid (row_below rc3.out b4)
      have p4 := Lib.hid (p3.trans (b4.mono p3.size))
      clear ra3 rb3 rc3 p3 b4
      have h1c : ∀ (l : List Int), ∀ q ∈ l.map (Value.int .i64), q.oneCell' = true := fun l q hq => by
        obtain ⟨y, _, rfl⟩ := List.mem_map.1 hq
        rfl
      have H1c := Lib.hid h1c
      clear h1c
      go_wp2_with (first | (at_builtin; refine append_rows ?hw (Operand.const (.slice none 0 0)) (.tmp 120) 32 rfl w4.heap.size 3 i0 (.int .i64 0) 8 Try.underlying32 hi hz0 hz1 hz2 rfl _ 0 [] rfl (World.ownsRow_nil _ _ _ _) va N w.heap.size _ rfl ra4.out (H1c.out _) ?h63 ?hby (Nat.le_refl _) ?_))
      case h63 => unfold maxLen; omega
      case hby => omega
      intro v5 w5 r5 g5
      have p5 := Lib.hid (p4.out.grown g5 p4.out.size (fun j hj => by simp [Value.ownBlock] at hj))
      have rb5 := Lib.hid (row_grown rb4.out g5 (fun j hj => by simp [Value.ownBlock]))
      have rc5 := Lib.hid (row_grown rc4.out g5 (fun j hj => by simp [Value.ownBlock]))
      have s5 := g5.size
      have R5 := Lib.hid r5
      have LC := Lib.hid (row_lt rc4.out)
      clear r5 g5 rb4 rc4 ra4
      go_wp2_with (first | (at_builtin; refine append_rows ?hw2 (.tmp 121) (.tmp 122) 32 rfl w4.heap.size 3 i0 (.int .i64 0) 8 Try.underlying32 hi hz0 hz1 hz2 rfl v5 N _ rfl R5.out vb M w1.heap.size _ rfl rb5.out (H1c.out _) ?h632 ?hby2 s5 ?_))
      case h632 => unfold maxLen; omega
      case hby2 => omega
      intro v6 w6 r6 g6
      have p6 := Lib.hid (p5.out.grown g6 p5.out.size (fun j hj => Nat.le_trans p4.out.size (row_base R5.out j hj)))
      have rc6 := Lib.hid (row_grown rc5.out g6 (fun j hj e => by
        have h1 := LC.out j hj
        have h2 := row_base R5.out j e
        omega))
      have r6' : w6.ownsRow w4.heap.size 3 1 v6 (N + M) ((dr (N + M) x b).map (Value.int .i64)) := by
        rw [HD.out, List.map_append]
        exact r6
      have R6 := Lib.hid r6'
      clear r6 r6' g6 s5 R5 rb5 rc5 p5 p4
      go_wp2_with fail
      refine (same_rows R6.out rc6.out (dr_length _ _ _) (by omega)).mono ?_
      rintro r w7 ⟨rfl, b7⟩
      have p7 := p6.out.trans (b7.mono p6.out.size)
      go_wp2_with fail
      go_ret
      exact ⟨rfl, p7⟩

theorem parts_any (x n m b : Int) (w : World) (x0 : 0 ≤ x) (x1 : x ≤ 18446744073709551615) :
    Calls Try.prog 12 #[.int .u64 x, .int .i64 n, .int .i64 m, .int .i64 b] w fun r w' => r = .returned (.bool true) ∧ Below w.heap.size w w' := by
  by_cases h : 0 ≤ n ∧ 0 ≤ m ∧ n ≤ 2000 ∧ m ≤ 2000
  · by_cases hb : BoundOk b
    · exact parts_ok x n m b w x0 x1 h hb
    · exact parts_bad x n m b w h hb
  · exact parts_out x n m b w h
end Go.Proofs.Ytekbgfpfafjobaa.Lots
