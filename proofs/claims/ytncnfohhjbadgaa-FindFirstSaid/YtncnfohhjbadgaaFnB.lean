
/- All matches, in plain terms. -/
import Derived.Test.YtncnfohhjbadgaaFnA
namespace Go.Proofs.Ytncnfohhjbadgaa
abbrev Ans := Sp × Bool × Int × Int
def firstLoop (re : List ND) (g : Int) (tx : List UInt8) (least : Int) : Nat → Int → Int → Ans
  | 0, _, f => (Arr.rep 10 (0, 0), false, f, 0)
  | k + 1, a, f => if least ≤ (tx.length : Int) - a then
      (if (atM re g tx a f).2.1 = true ∨ ¬ (atM re g tx a f).2.2.2 = 0 then atM re g tx a f else firstLoop re g tx least k (a + 1) (atM re g tx a f).2.2.1)
    else (Arr.rep 10 (0, 0), false, f, 0)
def firstM (re : List ND) (g : Int) (tx : List UInt8) (a f : Int) : Ans :=
  if a < 0 ∨ (tx.length : Int) < a ∨ f < 0 ∨ rightB re g = false then (Arr.rep 10 (0, 0), false, 0, 1) else firstLoop re g tx (leastM re) ((tx.length : Int) + 1 - a).toNat a f
/-- What an answer's numbers may be. -/
def AnsOk (g : Int) (tx : List UInt8) (a0 f : Int) (y : Ans) : Prop :=
  0 ≤ y.2.2.1 ∧ y.2.2.1 ≤ f ∧ (y.2.1 = true → y.2.2.2 = 0 ∧ ∃ a, a0 ≤ a ∧ HOk g tx a y.1)
theorem run_n (re : List ND) (tx : List UInt8) (o8 : Int) : ∀ (f : Nat) (s : Sg), 0 ≤ (runM re tx o8 f s).2.2.1 ∧ (runM re tx o8 f s).2.2.1 ≤ f ∧ ((runM re tx o8 f s).2.1 = true → (runM re tx o8 f s).2.2.2 = 0)
  | f, s => by
    by_cases hs : s.1 = []
    · rw [run_nil hs]; exact ⟨by simp, Int.le_refl _, fun _ => rfl⟩
    · cases f with
      | zero => rw [run_zero hs]; exact ⟨by decide, by decide, fun e => by cases e⟩
      | succ f =>
        rw [run_succ hs]
        obtain ⟨h1, h2, h3⟩ := run_n re tx o8 f (doM re tx o8 (s.1.dropLast, s.2) (s.1.getLast hs))
        exact ⟨h1, by omega, h3⟩
theorem at_n (re : List ND) (g : Int) (tx : List UInt8) (a f : Int) (hf : 0 ≤ f) : AnsOk g tx a f (atM re g tx a f) := by
  unfold atM
  split
  · exact ⟨by decide, hf, fun e => by cases e⟩
  · rename_i hb
    cases hr : rightB re g with
    | false => exact absurd (.inr (.inr (.inr hr))) hb
    | true =>
      obtain ⟨hn, g0, g9, hl⟩ := right_nodes hr
      have ha : 0 ≤ a := Int.not_lt.1 fun q => hb (.inl q)
      have ha2 : a ≤ tx.length := Int.not_lt.1 fun q => hb (.inr (.inl q))
      obtain ⟨h1, h2, h3⟩ := run_n re tx a f.toNat (startM re a)
      exact ⟨h1, by omega, fun e => ⟨h3 e, a, Int.le_refl _, (run_s hn ha _ _ (start_s hl ha ha2)).1 ⟨h3 e, e⟩⟩⟩
theorem first_ok (re : List ND) (g : Int) (tx : List UInt8) (a f : Int) (htx : tx.length ≤ 900000000) (hf : f ≤ 100000000) : find_First_R (re, g) tx a f (firstM re g tx a f) := by
  unfold find_First_R
  have bad : a < 0 ∨ (tx.length : Int) < a ∨ f < 0 ∨ rightB re g = false → find_First_j1 (re, g) tx f a true (firstM re g tx a f) := by
    intro h
    unfold find_First_j1 firstM
    rw [if_pos h]
    exact split_ (fun _ => rfl) fun q => absurd rfl q
  refine split_ (fun h => bad (.inl h)) fun h1 => split_ (fun h => bad (.inr (.inl h))) fun h2 => split_ (fun h => bad (.inr (.inr (.inl h)))) fun h3 => ⟨_, right_ok _ _, ?_⟩
  cases hr : rightB re g with
  | false => exact bad (.inr (.inr (.inr hr)))
  | true =>
    unfold find_First_j1
    refine split_ (fun h => by cases h) fun _ => ⟨_, least_ok re g hr, ?_⟩
    have e : firstM re g tx a f = firstLoop re g tx (leastM re) ((tx.length : Int) + 1 - a).toNat a f := by
      unfold firstM
      rw [if_neg (by rw [hr]; intro h; rcases h with h | h | h | h <;> first | omega | cases h)]
    rw [e]
    refine loop_ (fun x m => ∃ (b f' : Int) (h : Sp), x = (f', b, h) ∧ 0 ≤ b ∧ b ≤ (tx.length : Int) + 1 ∧ 0 ≤ f' ∧ f' ≤ f ∧ ((tx.length : Int) + 1 - b).toNat = m ∧ firstLoop re g tx (leastM re) ((tx.length : Int) + 1 - a).toNat a f = firstLoop re g tx (leastM re) m b f') _ ⟨a, f, _, rfl, by omega, by omega, by omega, Int.le_refl _, rfl, rfl⟩ ?_
    rintro _ m ⟨b, f', h, rfl, b0, b1, f0, f1, hm, he⟩
    rw [he]
    unfold find_First_l3
    simp only
    refine split_ (fun h1 => ?_) fun h1 => ?_
    · obtain ⟨k, rfl⟩ : ∃ k, m = k + 1 := ⟨m - 1, by omega⟩
      refine inR_ (by omega) (split_ (fun h2 => ?_) fun h2 => ?_)
      · refine ⟨_, at_ok re g tx b f' htx (by omega), ?_⟩
        have hy := at_n re g tx b f' f0
        have es : firstLoop re g tx (leastM re) (k + 1) b f' = if (atM re g tx b f').2.1 = true ∨ ¬ (atM re g tx b f').2.2.2 = 0 then atM re g tx b f' else firstLoop re g tx (leastM re) k (b + 1) (atM re g tx b f').2.2.1 := by
          rw [firstLoop, if_pos h2]
        unfold find_First_j4
        refine split_ (fun h3 => ?_) fun h3 => ?_
        · rw [es, if_pos (by simpa using h3)]
        · have h3' : ¬ ((atM re g tx b f').2.1 = true ∨ ¬ (atM re g tx b f').2.2.2 = 0) := by simpa using h3
          exact inR_ (by omega) ⟨k, by omega, b + 1, (atM re g tx b f').2.2.1, _, rfl, by omega, by omega, hy.1, Int.le_trans hy.2.1 f1, by omega, by rw [es, if_neg h3']⟩
      · rw [firstLoop, if_neg h2]; rfl
    · obtain rfl : m = 0 := by omega
      rfl
end Go.Proofs.Ytncnfohhjbadgaa
