/- The document's reader of numbers reads what the program's does. -/
import Derived.Test.YtfhakeapepafbaaRkB
import Derived.Test.YtfhakeapepafbaaEpE
namespace Go.Proofs.Ytfhakeapepafbaa
/-- Both hold the same number, or both know that it is too great. -/
def NumRel (n : Int) (gr : Bool) (nr : Int) (ov : Bool) : Prop := (gr = false ∧ ov = false ∧ nr = n ∧ 0 ≤ n ∧ n ≤ 255) ∨ (gr = true ∧ (ov = true ∨ 255 < nr) ∧ 0 ≤ nr ∧ nr ≤ 9223372036854775807)
theorem rnum_end {b : List UInt8} {p k : Nat} {n nr : Int} {gr ov : Bool} (h : (n, k, gr) = numL 0 false (b.drop p)) (hr : NumRel n gr nr ov) : palinoderef01_Num_j2 (p : Int) 255 ((p + k : Nat) : Int) nr ov (numR b p) := by
  unfold numR
  rw [← h]
  refine split_ (fun h1 => ?_) fun h1 => split_ (fun h2 => ?_) fun h2 => ?_
  · rw [if_pos (by show k = 0; omega)]
  · simp only [Bool.or_eq_true, decide_eq_true_eq] at h2
    rcases hr with ⟨h3, h4, h5, h6, h7⟩ | ⟨h3, _⟩
    · rw [h4] at h2
      rcases h2 with h2 | h2
      · cases h2
      · omega
    · rw [if_neg (by show ¬ k = 0; omega), if_pos h3]
  · simp only [Bool.or_eq_true, decide_eq_true_eq] at h2
    rcases hr with ⟨h3, h4, h5, h6, h7⟩ | ⟨h3, h4, _⟩
    · rw [if_neg (by show ¬ k = 0; omega), if_neg (by rw [h3]; exact Bool.false_ne_true), h5]
    · exact absurd h4 h2
theorem rnum_ok (b : List UInt8) (p : Nat) (hb : b.length ≤ 1000) (hp : p ≤ b.length) : palinoderef01_Num_R b (p : Int) 255 (numR b p) := by
  show palinoderef01_Num_j1 b (p : Int) 255 _ _
  rw [show ((decide ((p : Int) < 0)) || (decide ((b.length : Int) < (p : Int)))) = false from by
    rw [Bool.or_eq_false_iff, decide_eq_false_iff_not, decide_eq_false_iff_not]; omega]
  refine split_ (fun h => by cases h) fun _ => ?_
  refine loop_ (fun (st : Int × Int × Bool) m => ∃ (k : Nat) (n nr : Int) (gr ov : Bool), p + k ≤ b.length ∧ m = b.length - (p + k) ∧ st = (((p + k : Nat) : Int), nr, ov) ∧ NumRel n gr nr ov ∧ ((numL n gr (b.drop (p + k))).1, (numL n gr (b.drop (p + k))).2.1 + k, (numL n gr (b.drop (p + k))).2.2) = numL 0 false (b.drop p)) (b.length - p) ⟨0, 0, 0, false, false, by omega, rfl, rfl, .inl ⟨rfl, rfl, rfl, by omega, by omega⟩, rfl⟩ ?_
  rintro _ m ⟨k, n, nr, gr, ov, hk, rfl, rfl, hr, he⟩
  show palinoderef01_Num_l3 b (p : Int) 255 _ ((p + k : Nat) : Int) nr ov _
  refine split_ (fun h => ?_) fun h => ?_
  · obtain ⟨c, hc⟩ : ∃ c, b[p + k]? = some c := ⟨b[p + k]'(by omega), List.getElem?_eq_getElem (by omega)⟩
    have hc0 : b[(((p + k : Nat) : Int)).toNat]? = some c := by rw [Int.toNat_natCast]; exact hc
    rw [drop_at hc] at he
    have hcl := c.toNat_lt
    have hend : ¬ (48 ≤ c.toNat ∧ c.toNat ≤ 57) → palinoderef01_Num_j2 (p : Int) 255 ((p + k : Nat) : Int) nr ov (numR b p) := fun h1 => by
      rw [numL_cons, if_neg h1] at he
      exact rnum_end (by rw [← he]; simp) hr
    refine ⟨by omega, c, hc0, split_ (fun h1 => ⟨by omega, c, hc0, split_ (fun h2 => ⟨by omega, c, hc0, inR_ (by omega) ?_⟩) fun h2 => hend (by omega)⟩) fun h1 => hend (by omega)⟩
    rw [numL_cons, if_pos ⟨by omega, by omega⟩] at he
    have hd : (255 - ((c.toNat : Int) - 48)).tdiv 10 = (255 - ((c.toNat : Int) - 48)) / 10 := Int.tdiv_eq_ediv_of_nonneg (by omega)
    have next : ∀ (nr' : Int) (ov' : Bool), NumRel (if (gr || decide ((255 - ((c.toNat : Int) - 48)).tdiv 10 < n)) = true then n else n * 10 + ((c.toNat : Int) - 48)) (gr || decide ((255 - ((c.toNat : Int) - 48)).tdiv 10 < n)) nr' ov' → palinoderef01_Num_j4 ((p + k : Nat) : Int) (fun s' => ∃ m', m' < b.length - (p + k) ∧ ∃ (k : Nat) (n nr : Int) (gr ov : Bool), p + k ≤ b.length ∧ m' = b.length - (p + k) ∧ s' = (((p + k : Nat) : Int), nr, ov) ∧ NumRel n gr nr ov ∧ ((numL n gr (b.drop (p + k))).1, (numL n gr (b.drop (p + k))).2.1 + k, (numL n gr (b.drop (p + k))).2.2) = numL 0 false (b.drop p)) nr' ov' (numR b p) := fun nr' ov' h3 =>
      inR_ (by omega) ⟨b.length - (p + (k + 1)), by omega, k + 1, _, nr', _, ov', by omega, rfl, Prod.ext (by show ((p + k : Nat) : Int) + 1 = ((p + (k + 1) : Nat) : Int); omega) rfl, h3, by rw [← he]; simp only [Nat.add_assoc, Nat.add_comm 1 k]⟩
    refine split_ (fun h3 => next _ _ ?_) fun h3 => ?_
    · simp only [Bool.or_eq_true, Bool.and_eq_true, decide_eq_true_eq] at h3
      rcases hr with ⟨_, _, h5, h6, h7⟩ | ⟨h4, h5, h6, h7⟩
      · omega
      · rw [h4]; exact .inr ⟨rfl, .inl rfl, h6, h7⟩
    · simp only [Bool.or_eq_true, Bool.and_eq_true, decide_eq_true_eq] at h3
      have hle : nr * 10 + ((c.toNat : Int) - 48) ≤ 9223372036854775807 ∧ 0 ≤ nr := by
        rcases hr with ⟨_, _, h5, h6, h7⟩ | ⟨h4, h5, h6, h7⟩
        · omega
        · refine ⟨?_, h6⟩
          rcases Int.lt_or_le nr 922337203685477580 with h8 | h8
          · omega
          · have : nr = 922337203685477580 := by
              rcases Int.lt_or_le 922337203685477580 nr with h9 | h9
              · exact absurd (.inl h9) h3
              · omega
            have : ¬ 7 < (c.toNat : Int) - 48 := fun h9 => h3 (.inr ⟨this, h9⟩)
            omega
      refine inR_ (by omega) (inR_ (by omega) (next _ _ ?_))
      rcases hr with ⟨h4, h4', h5, h6, h7⟩ | ⟨h4, h5, h6, h7⟩
      · subst h5
        rw [h4, Bool.false_or, hd]
        by_cases h8 : (255 - ((c.toNat : Int) - 48)) / 10 < nr
        · rw [decide_eq_true h8]
          exact .inr ⟨rfl, .inr (by omega), by omega, by omega⟩
        · rw [decide_eq_false h8]
          exact .inl ⟨rfl, h4', rfl, by show 0 ≤ nr * 10 + ((c.toNat : Int) - 48); omega, by show nr * 10 + ((c.toNat : Int) - 48) ≤ 255; omega⟩
      · rw [h4]
        exact .inr ⟨rfl, h5.imp_right fun h => by omega, by omega, by omega⟩
  · rw [List.drop_eq_nil_of_le (by omega)] at he
    exact rnum_end (by rw [← he]; simp [numL]) hr
end Go.Proofs.Ytfhakeapepafbaa
