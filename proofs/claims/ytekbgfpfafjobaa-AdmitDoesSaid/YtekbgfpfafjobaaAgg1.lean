/- A struct of one field, by value: its value and its reading, opened and shut again. -/
import Derived.Lib.SmallJoins
import Derived.ChangeSame
namespace Go.Proofs.Ytekbgfpfafjobaa.Agg1
open Go.Joins Go.ChangeShapes Go.WideShapes Go.RowKit Go.Deep
section
variable {H : Type} {enc : TypeId × Value → H} {P : Program} {w : World} {base : Nat} {spare : Nat → Bool} {held : Bool}

theorem array1 {α : Type} {cs : Array α} (h : cs.size = 1) : ∃ c0, cs = #[c0] := by
  obtain ⟨l⟩ := cs
  match l, h with
  | [c0], _ => exact ⟨c0, rfl⟩

theorem open_agg1 {r : Reach} {b0 : Nat} {t : TypeId} {f0 : Field} {v : Value} {d : DataW H} {p : List MemPlace} (hs : P.underlying t = some (.struct #[f0])) (hone : oneCellFields P #[f0] = true) (hC : P.cellsOf t = 1)
    (hv : Value.okWide P w r b0 t v) (h : DataW.Trod enc P w base spare held t v d p) :
    ∃ (v0 : Value) (y0 : DataW H × List MemPlace) (n : Nat), v = .agg #[v0] ∧ d = .agg [y0.1] ∧ p = y0.2 ∧ DataW.trod enc P w base spare held n f0.type [v0] = some y0 := by
  obtain ⟨cs, rfl, hsz⟩ := okWide_struct hs hv
  obtain ⟨c0, rfl⟩ := array1 (hsz.trans hC)
  obtain ⟨fuel, hf⟩ := h
  obtain ⟨xs, n, _, hx, _, hlen, hg⟩ := DataW.trod_struct hs hf
  obtain ⟨o0, k0⟩ := hone_of hone 0 f0 rfl
  match xs, hlen with
  | [y0], _ =>
    simp only [Prod.mk.injEq] at hx
    exact ⟨c0, y0, n, rfl, by simpa using hx.1, by simpa using hx.2, by simpa [Value.cells, o0, k0] using hg 0 f0 rfl⟩

theorem shut_agg1 {t : TypeId} {f0 : Field} {v0 : Value} {y0 : DataW H × List MemPlace} (hs : P.underlying t = some (.struct #[f0])) (hone : oneCellFields P #[f0] = true) (hC : P.cellsOf t = 1)
    (t0 : ∃ n, DataW.trod enc P w base spare held n f0.type [v0] = some y0) :
    DataW.Trod enc P w base spare held t (.agg #[v0]) (.agg [y0.1]) y0.2 := by
  obtain ⟨n0, t0⟩ := t0
  obtain ⟨o0, k0⟩ := hone_of hone 0 f0 rfl
  have ts := trod_struct_mk (enc := enc) (w := w) (base := base) (spare := spare) (held := held) (n := n0) (xs := [y0]) (cs := [v0]) hs (by simp [hC]) (by simp [o0, k0, t0])
  exact ⟨_, by simpa [Value.cells] using ts⟩
end
end Go.Proofs.Ytekbgfpfafjobaa.Agg1
