/- Plain facts on words of 64 bits, taken and added to, again and again: no program in sight. -/
import Derived.Test.YtekbgfpfafjobaaLots
namespace Go.Proofs.Ytekbgfpfafjobaa.Lots

/-- An affine step, done so many times. -/
def ita : Nat → Int → Int → Int → Int
  | 0, _, _, x => x
  | k + 1, t, p, x => ita k t p (aff t p x)

theorem aff_eq (t p x : Int) : aff t p x = (x * t + p) % 18446744073709551616 := by
  unfold aff
  rw [IntKind.wrap_u64, IntKind.wrap_u64, Int.emod_add_emod]
theorem sqt_eq (t : Int) : sqt t = t * t % 18446744073709551616 := by unfold sqt; rw [IntKind.wrap_u64]
theorem sqp_eq (t p : Int) : sqp t p = (t * p + p) % 18446744073709551616 := by
  unfold sqp
  rw [IntKind.wrap_u64, IntKind.wrap_u64, Int.emod_add_emod]
theorem mm1 (a b M : Int) : a % M * b % M = a * b % M := by rw [Int.mul_emod, Int.emod_emod, ← Int.mul_emod]
theorem mm2 (a b M : Int) : a * (b % M) % M = a * b % M := by rw [Int.mul_emod, Int.emod_emod, ← Int.mul_emod]
theorem am1 (a b M : Int) : (a % M + b) % M = (a + b) % M := Int.emod_add_emod ..
theorem am2 (a b M : Int) : (a + b % M) % M = (a + b) % M := Int.add_emod_emod ..

/-- Two steps at once. -/
theorem aff_aff (t p x : Int) : aff t p (aff t p x) = aff (sqt t) (sqp t p) x := by
  rw [aff_eq, aff_eq, aff_eq, sqt_eq, sqp_eq, am2, ← am1, mm1, am1, ← am1 (x * _), mm2, am1]
  congr 1
  grind

theorem ita_two (k : Nat) : ∀ (t p x : Int), ita (2 * k) t p x = ita k (sqt t) (sqp t p) x := by
  induction k with
  | zero => intro t p x; rfl
  | succ k ih =>
    intro t p x
    rw [show 2 * (k + 1) = (2 * k + 1) + 1 from by omega]
    show ita (2 * k) t p (aff t p (aff t p x)) = ita k _ _ (aff _ _ x)
    rw [ih, aff_aff]

theorem ita_even (n t p x : Int) (h : ¬ n % 2 = 1) (h0 : 0 ≤ n) : ita (n / 2).toNat (sqt t) (sqp t p) x = ita n.toNat t p x := by
  rw [← ita_two]
  congr 1
  omega
theorem ita_odd (n t p x : Int) (h : n % 2 = 1) (h0 : 0 ≤ n) : ita (n / 2).toNat (sqt t) (sqp t p) (aff t p x) = ita n.toNat t p x := by
  rw [← ita_two, show n.toNat = 2 * (n / 2).toNat + 1 from by omega]
  rfl

/-- A step that is done twice, so many times over. -/
def many : Nat → Int → Int → Int × Int
  | 0, t, p => (t, p)
  | j + 1, t, p => many j (sqt t) (sqp t p)
theorem ita_many (j k : Nat) : ∀ (t p x : Int), ita (2 ^ j * k) t p x = ita k (many j t p).1 (many j t p).2 x := by
  induction j with
  | zero => intro t p x; rw [Nat.pow_zero, Nat.one_mul]; rfl
  | succ j ih =>
    intro t p x
    rw [show 2 ^ (j + 1) * k = 2 * (2 ^ j * k) from by rw [Nat.pow_succ]; grind, ita_two, ih]
    rfl
theorem many_all : many 64 6364136223846793005 1442695040888963407 = (1, 0) := by decide +kernel

theorem ita_add (a : Nat) : ∀ (b : Nat) (t p x : Int), ita (a + b) t p x = ita b t p (ita a t p x) := by
  induction a with
  | zero => intro b t p x; rw [Nat.zero_add]; rfl
  | succ a ih =>
    intro b t p x
    rw [show a + 1 + b = (a + b) + 1 from by omega]
    exact ih b t p _

/-- So many next ones. -/
def jmp (x n : Int) : Int := ita n.toNat 6364136223846793005 1442695040888963407 x
theorem jmp_all (x : Int) (h0 : 0 ≤ x) (h1 : x ≤ 18446744073709551615) : ita 18446744073709551616 6364136223846793005 1442695040888963407 x = x := by
  rw [show (18446744073709551616 : Nat) = 2 ^ 64 * 1 from rfl, ita_many, many_all]
  show aff 1 0 x = x
  rw [aff_eq]
  omega
theorem jmp_sum (x n m : Int) (h0 : 0 ≤ x) (h1 : x ≤ 18446744073709551615) (n0 : 0 ≤ n) (n1 : n ≤ 18446744073709551615) (m0 : 0 ≤ m) (m1 : m ≤ 18446744073709551615) :
    jmp (jmp x n) m = jmp x (IntKind.u64.wrap (n + m)) := by
  unfold jmp
  rw [← ita_add, IntKind.wrap_u64]
  by_cases h : n + m ≤ 18446744073709551615
  · rw [show ((n + m) % 18446744073709551616).toNat = n.toNat + m.toNat from by omega]
  · rw [show n.toNat + m.toNat = 18446744073709551616 + ((n + m) % 18446744073709551616).toNat from by omega, ita_add, jmp_all x h0 h1]
theorem jmp_zero (x : Int) : jmp x 0 = x := rfl
theorem jmp_halves (x : Int) (h0 : 0 ≤ x) (h1 : x ≤ 18446744073709551615) : jmp (jmp x 9223372036854775808) 9223372036854775808 = x := by
  rw [jmp_sum x _ _ h0 h1 (by omega) (by omega) (by omega) (by omega), IntKind.wrap_u64]
  rfl
theorem jmp_succ (x : Int) (k : Nat) : nxt (jmp x (k : Int)) = jmp x ((k : Int) + 1) := by
  unfold jmp
  rw [show ((k : Int) + 1).toNat = k + 1 from by omega, show ((k : Int)).toNat = k from by omega, ita_add]
  rfl

theorem lst_nxt (x : Int) (h0 : 0 ≤ x) (h1 : x ≤ 18446744073709551615) : lst (nxt x) = x := by
  unfold lst nxt aff
  simp only [IntKind.wrap_u64]
  omega
theorem nxt_lst (x : Int) (h0 : 0 ≤ x) (h1 : x ≤ 18446744073709551615) : nxt (lst x) = x := by
  unfold lst nxt aff
  simp only [IntKind.wrap_u64]
  omega

theorem wrap_u64_range (n : Int) : 0 ≤ IntKind.u64.wrap n ∧ IntKind.u64.wrap n ≤ 18446744073709551615 := by rw [IntKind.wrap_u64]; omega
theorem jmp_one (x : Int) : jmp x 1 = nxt x := rfl
theorem jmp_round (x n : Int) (h0 : 0 ≤ x) (h1 : x ≤ 18446744073709551615) (n0 : 0 ≤ n) (n1 : n ≤ 18446744073709551615) : jmp (jmp x n) (IntKind.u64.wrap (-n)) = x := by
  rw [jmp_sum x n _ h0 h1 n0 n1 (wrap_u64_range _).1 (wrap_u64_range _).2, IntKind.wrap_u64, IntKind.wrap_u64, show (n + -n % 18446744073709551616) % 18446744073709551616 = 0 from by omega]
  rfl
theorem aff_range (t p x : Int) : 0 ≤ aff t p x ∧ aff t p x ≤ 18446744073709551615 := by rw [aff_eq]; omega
theorem ita_range (k : Nat) : ∀ (t p x : Int), 0 ≤ x → x ≤ 18446744073709551615 → 0 ≤ ita k t p x ∧ ita k t p x ≤ 18446744073709551615 := by
  induction k with
  | zero => intro t p x h0 h1; exact ⟨h0, h1⟩
  | succ k ih => intro t p x h0 h1; exact ih _ _ _ (aff_range _ _ _).1 (aff_range _ _ _).2
theorem jmp_range (x n : Int) (h0 : 0 ≤ x) (h1 : x ≤ 18446744073709551615) : 0 ≤ jmp x n ∧ jmp x n ≤ 18446744073709551615 := ita_range _ _ _ _ h0 h1
theorem jmp_last (x : Int) (k : Nat) (h0 : 0 ≤ x) (h1 : x ≤ 18446744073709551615) (_hk : k < 1000) :
    lst (jmp x (IntKind.u64.wrap (-(k : Int)))) = jmp x (IntKind.u64.wrap (-((k : Int) + 1))) := by
  have h := jmp_sum x (IntKind.u64.wrap (-((k : Int) + 1))) 1 h0 h1 (wrap_u64_range _).1 (wrap_u64_range _).2 (by omega) (by omega)
  have e : IntKind.u64.wrap (IntKind.u64.wrap (-((k : Int) + 1)) + 1) = IntKind.u64.wrap (-(k : Int)) := by
    simp only [IntKind.wrap_u64]
    omega
  rw [e] at h
  rw [← h]
  exact lst_nxt _ (jmp_range _ _ h0 h1).1 (jmp_range _ _ h0 h1).2
theorem jmp_home (x : Int) (k : Nat) (h0 : 0 ≤ x) (h1 : x ≤ 18446744073709551615) (_hk : k < 1000) : jmp (jmp x (IntKind.u64.wrap (-(k : Int)))) (k : Int) = x := by
  rw [jmp_sum x _ _ h0 h1 (wrap_u64_range _).1 (wrap_u64_range _).2 (by omega) (by omega), IntKind.wrap_u64, IntKind.wrap_u64, show (-(k : Int) % 18446744073709551616 + (k : Int)) % 18446744073709551616 = 0 from by omega]
  rfl



end Go.Proofs.Ytekbgfpfafjobaa.Lots
