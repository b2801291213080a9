/- The law FindApart. -/
import Derived.Test.YtncnfohhjbadgaaFnB
import Derived.Test.YtncnfohhjbadgaaGKL1
namespace Go.Proofs.Ytncnfohhjbadgaa
theorem fnawake : palinodelaw12_awake_R true := palinodelaw12_awake_ok (fuel := 120) (by kernel_rfl)
theorem findapart_law (x : List ND × Int) (tx : List UInt8) : palinodelaw12_FindApart_R x tx true := by
  obtain ⟨re, g⟩ := x
  unfold palinodelaw12_FindApart_R palinodelaw12_FindApart_j1
  refine split_ (fun _ => ⟨_, fnawake, rfl⟩) fun h => ?_
  simp only [Bool.or_eq_true, decide_eq_true_eq, not_or] at h
  obtain ⟨h1, h2⟩ := h
  refine ⟨_, all_ok re g tx 3000 (by omega) (by omega) (by omega), ?_⟩
  obtain ⟨ha, he, hlen⟩ := allM_ok re g tx 3000 (by omega)
  generalize allM re g tx 3000 = y at ha he hlen
  refine split_ (fun h => ?_) fun h => ?_
  · rw [he h]
    exact split_ (fun _ => ⟨_, fnawake, rfl⟩) fun q => absurd rfl q
  refine loop_ (fun x m => ∃ i : Nat, x = (i : Int) ∧ i ≤ y.1.length ∧ y.1.length - i = m) y.1.length ⟨0, rfl, by omega, by omega⟩ ?_
  rintro _ m ⟨i, rfl, hi, rfl⟩
  unfold palinodelaw12_FindApart_l2
  refine split_ (fun hlt => ?_) fun _ => ⟨_, fnawake, rfl⟩
  refine at_ (by omega) hlt fun x hx => ?_
  have hx' : y.1[i]? = some x := hx
  obtain ⟨a, b, q1, q2, q3, q4, q5⟩ := ha i x hx'
  have at0 : ∀ {z : Sp} {v : Int × Int} {P : Int × Int → Prop}, z.l[0]? = some v → P v → (0 ≤ (0 : Int) ∧ (0 : Int) < 10) ∧ ∃ x : Int × Int, z.l[(0 : Int).toNat]? = some x ∧ P x := fun hk hp => ⟨by omega, _, hk, hp⟩
  refine at0 q1 (split_ (fun q => absurd q (by show ¬ a < 0; omega)) fun _ => split_ (fun q => absurd q (by show ¬ b < a; omega)) fun _ => split_ (fun q => absurd q (by show ¬ (tx.length : Int) < b; omega)) fun _ => ?_)
  have nx : ∀ {u v : Int} {p : Bool} {s : Int} {t : Bool} {c d : Int}, palinodelaw12_FindApart_j3 (i : Int) (fun s' => ∃ m', m' < y.1.length - i ∧ ∃ i : Nat, s' = (i : Int) ∧ i ≤ y.1.length ∧ y.1.length - i = m') u v p s t c d true := by
    intro u v p s t c d
    exact inR_ (by omega) ⟨y.1.length - (i + 1), by omega, i + 1, by omega, by omega, rfl⟩
  refine split_ (fun hi0 => ?_) fun _ => nx
  refine inR_ (by omega) (at_ (by omega) (by omega) fun w hw => ?_)
  rw [show ((i : Int) - 1).toNat = i - 1 by omega] at hw
  obtain ⟨c, d, r1, r2, r3⟩ := q5 w (by omega) hw
  refine at0 r1 (split_ (fun q => absurd q (by show ¬ a < d; omega)) fun _ => split_ (fun e => split_ (fun e2 => absurd ⟨e, e2⟩ r3) fun _ => nx) fun _ => nx)
end Go.Proofs.Ytncnfohhjbadgaa
