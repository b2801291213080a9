/- The law MatchFuel. -/
import Derived.Test.YtnefabncdpkbmaaMtE
import Derived.Test.YtnefabncdpkbmaaGKL1
namespace Go.Proofs.Ytnefabncdpkbmaa
theorem matchfuel_law (x : List ND × Int) (tx : List UInt8) (a : Int) (more : UInt16) : palinodelaw11_MatchFuel_R x tx a more true := by
  obtain ⟨re, g⟩ := x
  unfold palinodelaw11_MatchFuel_R palinodelaw11_MatchFuel_j1
  refine split_ (fun _ => ⟨_, awake_ok, rfl⟩) fun h => ?_
  simp only [Bool.or_eq_true, decide_eq_true_eq, not_or] at h
  obtain ⟨h1, h2⟩ := h
  refine ⟨_, at_ok re g tx a 2000 (by omega) (by omega), ?_⟩
  refine split_ (fun _ => ⟨_, awake_ok, rfl⟩) fun h3 => ?_
  have h3' := Classical.not_not.1 h3
  have hgood : ¬ (a < 0 ∨ (tx.length : Int) < a ∨ (2000 : Int) < 0 ∨ rightB re g = false) := by
    intro hb
    unfold atM at h3'
    rw [if_pos hb] at h3'
    cases h3'
  have e0 : ∀ f : Int, 0 ≤ f → atM re g tx a f = runM re tx a f.toNat (startM re a) := by
    intro f hf
    unfold atM
    rw [if_neg]
    intro hb
    exact hgood (hb.elim .inl fun hb => hb.elim (fun hb => .inr (.inl hb)) fun hb => hb.elim (fun hb => absurd hb (by omega)) fun hb => .inr (.inr (.inr hb)))
  have e2000 := e0 2000 (by omega)
  rw [e2000] at h3' ⊢
  obtain ⟨c, c1, c2, c3, c4, c5⟩ := run_fuel (re := re) (tx := tx) (o8 := a) _ _ h3'
  have c2' := c2 (by unfold startM; exact fun q => by cases q)
  have c1' : c ≤ 2000 := c1
  rw [show (2000 : Int).toNat = 2000 from rfl] at *
  have hm := more.toNat_lt
  have ew : IntKind.i64.wrap ((more.toNat : Int)) = (more.toNat : Int) := IntWalk.i64_in _ (by omega)
  generalize hrr : runM re tx a 2000 (startM re a) = rr at c3 c4 ⊢
  have e1 : (2000 : Int) - rr.2.2.1 = (c : Int) := by rw [c3]; omega
  rw [e1]
  refine inR_ (by omega) ⟨_, ew.symm, ?_⟩
  refine inR_ (by omega) ⟨_, at_ok re g tx a _ (by omega) (by omega), inR_ (by omega) ⟨_, at_ok re g tx a _ (by omega) (by omega), ?_⟩⟩
  have em : atM re g tx a ((c : Int) + (more.toNat : Int)) = (rr.1, rr.2.1, (more.toNat : Int), 0) := by
    rw [e0 _ (by omega), show ((c : Int) + (more.toNat : Int)).toNat = c + more.toNat by omega]
    exact c4 _
  have el : atM re g tx a ((c : Int) - 1) = (Arr.rep 10 (0, 0), false, 0, 18) := by
    rw [e0 _ (by omega), show ((c : Int) - 1).toNat = c - 1 by omega]
    exact c5 _ (by omega)
  rw [em, el]
  refine split_ (fun _ => ?_) fun q => absurd (by omega) q
  refine split_ (fun _ => ?_) fun q => absurd rfl q
  refine split_ (fun _ => ?_) fun q => absurd rfl q
  refine split_ (fun _ => ?_) fun q => absurd (by simp) q
  refine ⟨_, ew.symm, ?_⟩
  refine split_ (fun _ => ?_) fun q => absurd rfl q
  refine split_ (fun _ => ⟨_, awake_ok, rfl⟩) fun q => absurd ?_ q
  rw [decide_eq_true (by omega : 1 ≤ (c : Int))]; rfl
end Go.Proofs.Ytnefabncdpkbmaa
