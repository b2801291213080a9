
/- The law FindLongest. -/
import Derived.Test.YtnjnbegjhklcgaaLgC
import Derived.Test.YtnjnbegjhklcgaaMtJ
import Derived.Test.YtnjnbegjhklcgaaGKL1
namespace Go.Proofs.Ytnjnbegjhklcgaa
theorem fnawake : palinodelaw12_awake_R true := palinodelaw12_awake_ok (fuel := 120) (by kernel_rfl)
theorem findlongest_law (x : List ND × Int) (tx : List UInt8) : palinodelaw12_FindLongest_R x tx true := by
  obtain ⟨re, g⟩ := x
  have aw : palinodelaw12_FindLongest_j1 (re, g) tx true true := by
    unfold palinodelaw12_FindLongest_j1
    exact split_ (fun _ => ⟨_, fnawake, rfl⟩) fun q => absurd rfl q
  unfold palinodelaw12_FindLongest_R
  refine split_ (fun _ => aw) fun h1 => split_ (fun _ => aw) fun h2 => ⟨_, rright_ok re g, ?_⟩
  have h1 : re.length ≤ 12 := by have h1 : ¬ 12 < (re.length : Int) := h1; omega
  have h2 : tx.length ≤ 5 := by omega
  cases hr : rightB re g with
  | false => exact aw
  | true =>
  unfold palinodelaw12_FindLongest_j1
  refine split_ (fun q => by cases q) fun _ => ⟨_, all_ok re g tx 3000 (by omega) (by omega) (by omega), ?_⟩
  have hM : allM re g tx 3000 = (if (allLoop re g tx (tx.length + 2) 0 (-1) [] 3000).2.2 = 0 then ((allLoop re g tx (tx.length + 2) 0 (-1) [] 3000).1, (allLoop re g tx (tx.length + 2) 0 (-1) [] 3000).2.1, 0) else ([], 0, (allLoop re g tx (tx.length + 2) 0 (-1) [] 3000).2.2)) := rfl
  have h18 := all_err re g tx hr (by omega) (tx.length + 2) 0 (-1) [] 3000 (by omega) (by omega)
  generalize hR : allLoop re g tx (tx.length + 2) 0 (-1) [] 3000 = R at hM h18
  by_cases hE : R.2.2 = 0
  rotate_left
  · rw [hM, if_neg hE]
    refine split_ (fun _ => split_ (fun _ => ⟨_, fnawake, rfl⟩) fun q => absurd (h18.resolve_left hE) q) fun q => absurd hE q
  rw [hM, if_pos hE]
  refine split_ (fun q => absurd rfl q) fun _ => ?_
  have hlen : R.1.length ≤ 7 := by
    have := all_len re g tx (tx.length + 2) 0 (-1) [] 3000
    rw [hR] at this
    simp at this; omega
  refine loop_ (fun s m => ∃ (nx la : Int) (i : Nat), s = (nx, la, (i : Int)) ∧ i ≤ R.1.length ∧ m = R.1.length + 1 - i ∧ 0 ≤ nx ∧ nx ≤ (tx.length : Int) + 1 ∧ ∃ (k : Nat) (f : Int), 0 ≤ f ∧ f ≤ 3000 ∧ R = allLoop re g tx k nx la (R.1.take i) f ∧ (tx.length : Int) + 2 ≤ k + nx) _
    ⟨0, -1, 0, rfl, Nat.zero_le _, rfl, by omega, by omega, tx.length + 2, 3000, by omega, by omega, by rw [List.take_zero]; exact hR.symm, by push_cast; omega⟩ ?_
  rintro _ m ⟨nx, la, i, rfl, hi, rfl, n0, n1, k, f, f0, f1, hRk, hk⟩
  unfold palinodelaw12_FindLongest_l2
  dsimp only
  refine split_ (fun _ => ?_) fun q => absurd (by omega) q
  have hst := enter hr hi ⟨f0, f1⟩ n0 n1 hk hRk
  -- the places up to the next match
  have main : ∀ to : Int, nx ≤ to → to ≤ (tx.length : Int) + 1 → (∀ v, R.1[i]? = some v → ∃ t, v.l[0]? = some (to, t)) → (i = R.1.length → to = (tx.length : Int) + 1) →
      palinodelaw12_FindLongest_j4 (re, g) tx la (i : Int) (R.1, R.2.1, 0) (fun s' => ∃ m', m' < R.1.length + 1 - i ∧ ∃ (nx la : Int) (i : Nat), s' = (nx, la, (i : Int)) ∧ i ≤ R.1.length ∧ m' = R.1.length + 1 - i ∧ 0 ≤ nx ∧ nx ≤ (tx.length : Int) + 1 ∧ ∃ (k : Nat) (f : Int), 0 ≤ f ∧ f ≤ 3000 ∧ R = allLoop re g tx k nx la (R.1.take i) f ∧ (tx.length : Int) + 2 ≤ k + nx) nx to true := by
    intro to t0 t1 hto hend
    unfold palinodelaw12_FindLongest_j4
    refine loop_ (fun (b : Int) m => nx ≤ b ∧ b ≤ to ∧ m = (to - b).toNat ∧ (MA re g tx R i la b ∨ MB re tx R i b)) _ ⟨Int.le_refl _, t0, rfl, hst⟩ ?_
    rintro b m ⟨b0, b1, rfl, hb⟩
    unfold palinodelaw12_FindLongest_l5
    have j6 : b < to → (MA re g tx R i la (b + 1) ∨ MB re tx R i (b + 1)) → palinodelaw12_FindLongest_j6 b (fun s' => ∃ m', m' < (to - b).toNat ∧ nx ≤ s' ∧ s' ≤ to ∧ m' = (to - s').toNat ∧ (MA re g tx R i la s' ∨ MB re tx R i s')) true := by
      intro hlt h
      exact inR_ (by omega) ⟨(to - (b + 1)).toNat, by omega, by omega, by omega, rfl, h⟩
    have atz : ∀ {z : Sp} {v : Int × Int} {P : Int × Int → Prop}, z.l[0]? = some v → P v → (0 ≤ (0 : Int) ∧ (0 : Int) < 10) ∧ ∃ x : Int × Int, z.l[(0 : Int).toNat]? = some x ∧ P x := fun hk hp => ⟨by omega, _, hk, hp⟩
    have mb : MB re tx R i b → b < to → ∃ y3223 : Sp × Bool, palinoderef11_Best_R (re, g) tx b y3223 ∧ y3223.2 = false ∧ MB re tx R i (b + 1) := by
      intro h hlt
      exact ⟨_, best_none hr h1 (by omega) (by omega) h2 (h.2 (by omega)), rfl, h.1, fun q => by have := h.2 (by omega); omega⟩
    refine split_ (fun hlt => ?_) fun hlt => ?_
    · have no : ∀ y : Sp × Bool, palinoderef11_Best_R (re, g) tx b y → y.2 = false → (MA re g tx R i la (b + 1) ∨ MB re tx R i (b + 1)) → _ := fun y hy h h3 => show ∃ y3223 : Sp × Bool, palinoderef11_Best_R (re, g) tx b y3223 ∧ ((y3223.2 = true → (0 ≤ (0 : Int) ∧ (0 : Int) < 10) ∧ ∃ y3232 : Int × Int, y3223.1.l[(0 : Int).toNat]? = some y3232 ∧ ((b < y3232.2 → true = false) ∧ (¬ (b < y3232.2) → ((¬ (b = la) → true = false) ∧ (¬ (¬ (b = la)) → palinodelaw12_FindLongest_j6 b (fun s' => ∃ m', m' < (to - b).toNat ∧ nx ≤ s' ∧ s' ≤ to ∧ m' = (to - s').toNat ∧ (MA re g tx R i la s' ∨ MB re tx R i s')) true))))) ∧ (¬ (y3223.2 = true) → palinodelaw12_FindLongest_j6 b (fun s' => ∃ m', m' < (to - b).toNat ∧ nx ≤ s' ∧ s' ≤ to ∧ m' = (to - s').toNat ∧ (MA re g tx R i la s' ∨ MB re tx R i s')) true)) from
        ⟨y, hy, split_ (fun q => by rw [h] at q; cases q) fun _ => j6 hlt h3⟩
      rcases hb with hb | hb
      · rcases step_ hr (by omega) hE hi hb with h | ⟨v, hv, h3⟩ | ⟨v, hv, v0, hla, h3⟩ | ⟨v, t, hv, v0, v1, v2, hat, _⟩
        · obtain ⟨y, hy, h3, h4⟩ := mb h hlt
          exact no y hy h3 (.inr h4)
        · exact no _ hv rfl h3
        · refine ⟨_, hv, split_ (fun _ => atz v0 (split_ (fun q => absurd q (by omega)) fun _ => split_ (fun q => absurd hla q) fun _ => j6 hlt h3)) fun q => absurd rfl q⟩
        · obtain ⟨t', ht'⟩ := hto v hat
          rw [v0] at ht'
          injection ht' with ht'
          injection ht' with ht'
          omega
      · obtain ⟨y, hy, h3, h4⟩ := mb hb hlt
        exact no y hy h3 (.inr h4)
    · obtain rfl : b = to := by omega
      refine split_ (fun _ => ⟨_, fnawake, rfl⟩) fun hne => ?_
      have hne' : i ≠ R.1.length := fun e => hne (by rw [e])
      have hgi : R.1[i]? = some R.1[i] := List.getElem?_eq_getElem (by omega)
      generalize R.1[i] = v0 at hgi
      obtain ⟨t0', ht0⟩ := hto v0 hgi
      have later : ∀ b' : Int, b < b' → (MA re g tx R i la b' ∨ MB re tx R i b') → False := by
        intro b' hb' h
        rcases h with h | h
        · obtain ⟨c, t, q1, q2⟩ := h.from hgi
          rw [ht0] at q1
          injection q1 with q1
          injection q1 with q1
          omega
        · exact hne' h.1
      rcases hb with hb | hb
      · rcases step_ hr (by omega) hE hi hb with h | ⟨v, hv, h3⟩ | ⟨v, hv, v0, hla, h3⟩ | ⟨v, t, hv, v0', v1, v2, hat, k', f', f0', f1', hR', hk'⟩
        · exact absurd h.1 hne'
        · exact (later _ (by omega) h3).elim
        · exact (later _ (by omega) h3).elim
        · rw [hgi] at hat
          injection hat with hat
          subst hat
          refine ⟨_, hv, split_ (fun q => absurd rfl q) fun _ => at_ (by omega) (by show (i : Int) < (R.1.length : Int); omega) fun z hz => ?_⟩
          have hz' : R.1[i]? = some z := hz
          rw [hgi] at hz'
          injection hz' with hz'
          subst hz'
          refine split_ (fun q => absurd rfl q) fun _ => atz v0' ?_
          unfold palinodelaw12_FindLongest_j3
          refine split_ (fun q => ?_) fun q => ?_
          · have q : t = b := q
            refine inR_ (by show _ ≤ t + 1 ∧ t + 1 ≤ _; omega) (inR_ (by omega) ⟨R.1.length + 1 - (i + 1), by omega, t + 1, t, i + 1, rfl, by omega, rfl, by omega, by omega, k', f', f0', f1', ?_, ?_⟩)
            · rw [if_pos q.symm] at hR'; exact hR'
            · rw [if_pos q.symm] at hk'; exact hk'
          · have q : ¬ t = b := q
            refine inR_ (by omega) ⟨R.1.length + 1 - (i + 1), by omega, t, t, i + 1, rfl, by omega, rfl, by omega, by omega, k', f', f0', f1', ?_, ?_⟩
            · rw [if_neg (fun e => q e.symm)] at hR'; exact hR'
            · rw [if_neg (fun e => q e.symm)] at hk'; exact hk'
      · exact absurd hb.1 hne'
  refine inR_ (by omega) (split_ (fun hlt => ?_) fun hlt => ?_)
  · have hgi : R.1[i]? = some R.1[i] := List.getElem?_eq_getElem (by have hlt : (i : Int) < (R.1.length : Int) := hlt; omega)
    generalize R.1[i] = v at hgi
    obtain ⟨b, t, hb, hle⟩ : ∃ b t : Int, v.l[0]? = some (b, t) ∧ nx ≤ b := by
      rcases hst with h | h
      · exact h.from hgi
      · have hlt : (i : Int) < (R.1.length : Int) := hlt
        have := h.1
        omega
    have hap := (all_apart re g tx (tx.length + 2) 0 (-1) [] 3000 (by omega) (by omega) (fun i x hx => by simp at hx) (fun w hw => by simp at hw)) i v (by rw [hR]; exact hgi)
    obtain ⟨c, d, q1, q2, q3, q4, _⟩ := hap
    rw [hb] at q1
    injection q1 with q1
    injection q1 with e1 e2
    refine ⟨by omega, v, hgi, ⟨by omega, by omega⟩, (b, t), hb, ?_⟩
    refine main b hle (by omega) (fun v' hv' => ?_) fun e => ?_
    · rw [hgi] at hv'; injection hv' with hv'; exact ⟨t, hv' ▸ hb⟩
    · have hlt : (i : Int) < (R.1.length : Int) := hlt
      omega
  · have hie : i = R.1.length := by have hlt : ¬ (i : Int) < (R.1.length : Int) := hlt; omega
    refine main _ n1 (Int.le_refl _) (fun v hv => ?_) fun _ => rfl
    rw [List.getElem?_eq_none (by omega)] at hv; cases hv
end Go.Proofs.Ytnjnbegjhklcgaa
