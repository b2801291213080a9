/- Basic regular expressions: groups round a text; one group too many. -/
import Derived.Test.YtpddiffpanihdaaBtD
namespace Go.Proofs.Ytpddiffpanihdaa
/-- Groups opened one behind the other, until there is one too many. -/
theorem open_err (t : List UInt8) : ∀ (j : Nat) (n : Nat) (f : Bool) (s : Pz), s.g + j = 9 → (∀ i, i ≤ j → t[s.p + 2 * i]? = some 92 ∧ t[s.p + 2 * i + 1]? = some 40) → 6 * j + 4 ≤ n → ∃ k s', go t n (.piece f s) = some (k, [((s.p : Int) + 2 * (j : Int), 17)], s') := by
  have two : ∀ {q : Nat} {c : UInt8}, t[q]? = some 92 → t[q + 1]? = some 40 → c ≠ 40 → hasS t q [92, c] = false := fun {q c} h1 h2 hc => by
    cases h : hasS t q [92, c] with
    | false => rfl
    | true =>
      have := (has_iff t q [92, c]).1 h 1 (by simp)
      rw [h2] at this
      injection this with this
      exact absurd this.symm hc
  have one : ∀ {q : Nat} {c : UInt8}, t[q]? = some 92 → c ≠ 92 → hasS t q [c] = false := fun {q c} h1 hc => by
    cases h : hasS t q [c] with
    | false => rfl
    | true =>
      have := (has_iff t q [c]).1 h 0 (by simp)
      have this : t[q]? = some c := this
      rw [h1] at this
      injection this with this
      exact absurd this.symm hc
  intro j
  induction j with
  | zero =>
    intro n f s hg ht hn
    obtain ⟨n, rfl⟩ : ∃ m, n = m + 4 := ⟨n - 4, by omega⟩
    obtain ⟨h1, h2⟩ := ht 0 (Nat.le_refl _)
    have h1 : t[s.p]? = some 92 := h1
    have h2 : t[s.p + 1]? = some 40 := h2
    have hgr : go t (n + 1) (.group s) = some (noR s 17) := by unfold go; rw [if_pos (by omega)]
    have hes : go t (n + 2) (.escape s) = some (noR s 17) := by
      unfold go; rw [h2]; dsimp only; rw [if_pos (by decide)]; exact hgr
    have hat : go t (n + 3) (.atom s) = some (noR s 17) := by
      unfold go; rw [h1]; dsimp only; rw [if_pos (by decide)]; exact hes
    refine ⟨0, s, ?_⟩
    unfold go
    rw [if_neg (fun e => by rw [two h1 h2 (by decide)] at e; cases e.2), if_neg (fun e => by rw [one h1 (by decide)] at e; cases e.2), hat]
    show some (repsR t (noR s 17)) = _
    rw [show repsR t (noR s 17) = noR s 17 from reps_err _ _ _ _ (by intro h; cases h)]
    show some (0, [((s.p : Int), 17)], s) = _
    rw [show (s.p : Int) + 2 * ((0 : Nat) : Int) = (s.p : Int) by omega]
  | succ j ih =>
    intro n f s hg ht hn
    obtain ⟨n, rfl⟩ : ∃ m, n = m + 6 := ⟨n - 6, by omega⟩
    obtain ⟨h1, h2⟩ := ht 0 (by omega)
    have h1 : t[s.p]? = some 92 := h1
    have h2 : t[s.p + 1]? = some 40 := h2
    obtain ⟨h3, h4⟩ := ht 1 (by omega)
    have h3 : t[s.p + 2]? = some 92 := h3
    have h4 : t[s.p + 2 + 1]? = some 40 := h4
    obtain ⟨k, s', hp⟩ := ih n true { s with g := s.g + 1, p := s.p + 2 } (by show s.g + 1 + j = 9; omega) (fun i hi => by
      have := ht (i + 1) (by omega)
      rw [show s.p + 2 * (i + 1) = s.p + 2 + 2 * i by omega] at this
      exact this) (by omega)
    have hp : go t n (.piece true { s with g := s.g + 1, p := s.p + 2 }) = some (k, [(((s.p + 2 : Nat) : Int) + 2 * (j : Int), 17)], s') := hp
    have e : ((s.p + 2 : Nat) : Int) + 2 * (j : Int) = (s.p : Int) + 2 * ((j + 1 : Nat) : Int) := by omega
    rw [e] at hp
    have hlen := (List.getElem?_eq_some_iff.1 h3).1
    have hlo : go t (n + 1) (.loop true [] true { s with g := s.g + 1, p := s.p + 2 }) = some (0, [((s.p : Int) + 2 * ((j + 1 : Nat) : Int), 17)], s') := by
      unfold go
      rw [if_pos ⟨hlen, two h3 h4 (by decide)⟩, hp]
      rfl
    have hbr : go t (n + 2) (.branch true { s with g := s.g + 1, p := s.p + 2 }) = some (0, [((s.p : Int) + 2 * ((j + 1 : Nat) : Int), 17)], s') := by
      unfold go
      rw [if_neg (fun e => by have e : hasS t (s.p + 2) [94] = true := e; rw [one h3 (by decide)] at e; cases e)]
      exact hlo
    have hgr : go t (n + 3) (.group s) = some (0, [((s.p : Int) + 2 * ((j + 1 : Nat) : Int), 17)], s') := by
      unfold go
      rw [if_neg (by omega), hbr]
      rfl
    have hes : go t (n + 4) (.escape s) = some (0, [((s.p : Int) + 2 * ((j + 1 : Nat) : Int), 17)], s') := by
      unfold go; rw [h2]; dsimp only; rw [if_pos (by decide)]; exact hgr
    have hat : go t (n + 5) (.atom s) = some (0, [((s.p : Int) + 2 * ((j + 1 : Nat) : Int), 17)], s') := by
      unfold go; rw [h1]; dsimp only; rw [if_pos (by decide)]; exact hes
    refine ⟨0, s', ?_⟩
    unfold go
    rw [if_neg (fun e => by rw [two h1 h2 (by decide)] at e; cases e.2), if_neg (fun e => by rw [one h1 (by decide)] at e; cases e.2), hat]
    show some (repsR t (0, [((s.p : Int) + 2 * ((j + 1 : Nat) : Int), 17)], s')) = _
    rw [show repsR t (0, [((s.p : Int) + 2 * ((j + 1 : Nat) : Int), 17)], s') = (0, [((s.p : Int) + 2 * ((j + 1 : Nat) : Int), 17)], s') from reps_err _ _ _ _ (by simp)]
end Go.Proofs.Ytpddiffpanihdaa
