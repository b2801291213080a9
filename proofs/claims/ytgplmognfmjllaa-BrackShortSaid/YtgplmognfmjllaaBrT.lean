/- BrackShort. -/
import Derived.Test.YtgplmognfmjllaaBrL
import Derived.Test.YtgplmognfmjllaaGKL2
namespace Go.Proofs.Ytgplmognfmjllaa
/-- Of what is read each text that goes on otherwise behind it is read alike; each front of it is not. -/
theorem parse_local (b : List UInt8) (s : SetT) (L : Int) (h : parseR b 0 = (s, L, 0)) : ∃ l : Nat, L = (l : Int) ∧ 1 ≤ l ∧ l ≤ b.length ∧ (∀ u : List UInt8, u.take l = b.take l → parseR u 0 = (s, L, 0)) ∧ ∀ m, m < l → (parseR (b.take m) 0).2.2 ≠ 0 := by
  unfold parseR at h
  rw [List.drop_zero] at h
  by_cases hn : isNot b = true
  · rw [if_pos hn] at h
    cases b with
    | nil => cases hn
    | cons x b =>
      simp only [Nat.zero_add, List.drop_succ_cons, List.drop_zero] at h
      cases hl : loopT (b.length + 1) true b z4 0 with
      | error e =>
        rw [hl] at h
        exact absurd (congrArg (fun r : SetT × Int × Int => r.2.2) h) (loop_err _ _ _ _ _ _ hl)
      | ok y =>
        obtain ⟨k1, k2, k3, k4⟩ := loop_local _ y.1 y.2 hl
        rw [hl] at h
        have h1 : notS y.1 = s := congrArg (fun r : SetT × Int × Int => r.1) h
        have h2 : ((1 + y.2 : Nat) : Int) = L := congrArg (fun r : SetT × Int × Int => r.2.1) h
        refine ⟨1 + y.2, h2.symm, by omega, by rw [List.length_cons]; omega, fun u hu => ?_, fun m hm => ?_⟩
        · have hul := agree_len hu (by rw [List.length_cons]; omega)
          cases u with
          | nil => rw [List.length_nil] at hul; omega
          | cons x' u =>
            rw [Nat.add_comm 1, List.take_succ_cons, List.take_succ_cons] at hu
            injection hu with e1 e2
            subst e1
            unfold parseR
            have hn : isNot (x' :: u) = true := hn
            rw [List.drop_zero, if_pos hn]
            simp only [Nat.zero_add, List.drop_succ_cons, List.drop_zero]
            rw [k3 u e2]
            show (notS y.1, ((1 + y.2 : Nat) : Int), (0 : Int)) = _
            rw [h1, h2]
        · cases m with
          | zero => show (parseR [] 0).2.2 ≠ 0; decide +kernel
          | succ m =>
            obtain ⟨e, he⟩ := k4 m (by omega)
            unfold parseR
            have hn : isNot (x :: b.take m) = true := hn
            rw [List.take_succ_cons, List.drop_zero, if_pos hn]
            simp only [Nat.zero_add, List.drop_succ_cons, List.drop_zero]
            rw [he]
            exact loop_err _ _ _ _ _ _ he
  · rw [if_neg hn] at h
    cases hl : loopT (b.length + 1) true b z4 0 with
    | error e =>
      rw [hl] at h
      exact absurd (congrArg (fun r : SetT × Int × Int => r.2.2) h) (loop_err _ _ _ _ _ _ hl)
    | ok y =>
      obtain ⟨k1, k2, k3, k4⟩ := loop_local _ y.1 y.2 hl
      rw [hl] at h
      have h1 : y.1 = s := congrArg (fun r : SetT × Int × Int => r.1) h
      have h2 : ((0 + y.2 : Nat) : Int) = L := congrArg (fun r : SetT × Int × Int => r.2.1) h
      have hnot : ∀ u : List UInt8, u.take y.2 = b.take y.2 → isNot u = isNot b := fun u hu => by
        have hul := agree_len hu k2
        have e := agree_at hu (show 0 < y.2 by omega)
        cases b with
        | nil => rw [List.length_nil] at k2; omega
        | cons a b =>
          cases u with
          | nil => rw [List.length_nil] at hul; omega
          | cons a' u => simp at e; subst e; rfl
      refine ⟨y.2, by omega, k1, k2, fun u hu => ?_, fun m hm => ?_⟩
      · unfold parseR
        rw [List.drop_zero, hnot u hu, if_neg hn, k3 u hu]
        show (y.1, ((0 + y.2 : Nat) : Int), (0 : Int)) = _
        rw [h1, h2]
      · obtain ⟨e, he⟩ := k4 m hm
        have hm : ¬ isNot (b.take m) = true := fun h => hn (by
          cases b with
          | nil => rw [List.take_nil] at h; exact h
          | cons a b =>
            cases m with
            | zero => cases h
            | succ m => exact h)
        unfold parseR
        rw [List.drop_zero, if_neg hm, he]
        exact loop_err _ _ _ _ _ _ he
theorem short_law (b : List UInt8) (cut more : UInt8) : palinodelaw07_BrackShort_R b cut more true := by
  refine split_ (fun _ => ⟨true, brawake, rfl⟩) fun hb => ⟨_, parse_ok b 0 (by omega) (by omega), split_ (fun _ => ⟨true, brawake, rfl⟩) fun he => ?_⟩
  have he : (parseR b 0).2.2 = 0 := Decidable.of_not_not he
  obtain ⟨l, hL, hl1, hl2, hloc, hno⟩ := parse_local b (parseR b 0).1 (parseR b 0).2.1 (Prod.ext rfl (Prod.ext rfl he))
  rw [hL]
  have hu : (([] : List UInt8) ++ (b.take (l : Int).toNat)) ++ [more] = b.take l ++ [more] := by rw [Int.toNat_natCast, List.nil_append]
  have hlt : (b.take l).length = l := by rw [List.length_take]; omega
  rw [hu]
  have hmod : ((cut.toNat : Int) : Int).tmod (l : Int) = ((cut.toNat % l : Nat) : Int) := tm _ _
  have hml : cut.toNat % l < l := Nat.mod_lt _ (by omega)
  rw [hmod]
  refine split_ (fun h => absurd h (by omega)) fun _ => split_ (fun h => absurd h (by omega)) fun _ => ⟨⟨by omega, by omega⟩, room_ (by rw [Int.toNat_natCast, hlt]; simp; omega) (by omega) (room_ (by rw [Int.toNat_natCast, List.nil_append, hlt, List.length_singleton]; omega) (by omega) ⟨_, parse_ok (b.take l ++ [more]) 0 (by rw [List.length_append, hlt, List.length_singleton]; omega) (by omega), by omega, ⟨by omega, by omega⟩, _, by rw [Int.toNat_natCast]; exact parse_ok (b.take (cut.toNat % l)) 0 (by rw [List.length_take]; omega) (by omega), ?_⟩)⟩
  rw [hloc (b.take l ++ [more]) (by rw [List.take_append_of_le_length (by omega), List.take_take, Nat.min_self])]
  refine split_ (fun _ => split_ (fun _ => split_ (fun _ => split_ (fun _ => ⟨true, brawake, rfl⟩) fun h => absurd (hno _ hml) h) fun h => absurd rfl h) fun h => absurd hL h) fun h => absurd rfl h
end Go.Proofs.Ytgplmognfmjllaa
