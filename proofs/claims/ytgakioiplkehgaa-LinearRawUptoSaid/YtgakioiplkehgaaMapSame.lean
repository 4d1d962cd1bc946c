
/- The laws' 'same' over the abstract machine. -/
import Derived.Test.YtgakioiplkehgaaMapFill
namespace Go.Proofs.Ytgakioiplkehgaa.Fun
open Go Go.RowKit Go.Proofs.YtgakioiplkehgaaA.Am
set_option linter.unusedVariables false
set_option linter.unusedSimpArgs false
set_option linter.unnecessarySimpa false
set_option maxRecDepth 4000
theorem slice_one {x : Value} (h : ∃ a n c, x = .slice a n c) : x.cells = #[x] ∧ known x = true ∧ oneCell x = true := by
  obtain ⟨a, n, c, rfl⟩ := h; exact ⟨rfl, rfl, rfl⟩
section
variable {G : Oracle} {H : Heap} {o : Owner} {p : Nat} {l : PL} {n : Nat}
theorem kl_at {i : Nat} {k : Value} (h : (cvs (keysOf l))[i]? = some k) : i < l.length ∧ k = cv (l.getD i (0, 0)).1 := by
  have hi : i < l.length := by have := (List.getElem?_eq_some_iff.1 h).1; simpa using this
  rw [keys_get hi] at h
  exact ⟨hi, (Option.some.inj h).symm⟩
theorem vl_at {i : Nat} {k : Value} (h : (cvs (valsOf l))[i]? = some k) : k = cv (l.getD i (0, 0)).2 := by
  have hi : i < l.length := by have := (List.getElem?_eq_some_iff.1 h).1; simpa using this
  rw [vals_get hi] at h
  exact (Option.some.inj h).symm
end
end Go.Proofs.Ytgakioiplkehgaa.Fun
