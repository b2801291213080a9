/- The whole of a basic regular expression. -/
import Derived.Test.YtpddiffpanihdaaBpE
namespace Go.Proofs.Ytpddiffpanihdaa
def pz0 : Pz := ⟨[], 0, 0, Arr.rep 10 false⟩
abbrev RE := (List ND × Int) × Int × Int
def finB (q : Res) : RE := match q.2.1 with
  | [] => ((q.2.2.L, (q.2.2.g : Int)), 0, 0)
  | y :: _ => (([], 0), y.1, y.2)
theorem clone_ok (l : List ND) (hl : l.length ≤ 100000) : slices_Clone_R l l := by
  intro b hb
  refine split_ (fun h => ?_) fun _ => room_ (by simp; omega) (by omega) rfl
  by_cases hl0 : l = []
  · exact hl0
  · rw [hb hl0] at h; cases h
theorem fin_right {b : List UInt8} {m : Nat} {q : Res} (hq : go b m (.branch false pz0) = some q) (hw : q.2.1 = []) : rightB q.2.2.L q.2.2.g = true ∧ q.1 = (q.2.2.L.length : Int) - 1 ∧ 1 ≤ q.2.2.L.length ∧ q.2.2.L.length ≤ 1000 :=
  gr_right (go_gr b m _ q hq hw [] 0 (gr_refl [] 0 (by simp))).2 (go_at b m _ q hq ⟨Nat.zero_le _, Nat.zero_le _, trivial⟩ hw).1.2.2
theorem parseB_ok (b : List UInt8) (hb : b.length ≤ 1000) (m : Nat) (hm : m ≤ 100000) (q : Res) (hq : go b m (.branch false pz0) = some q) : bre_Parse_R b (finB q) := by
  have hj : JobAt b (.branch false pz0) := ⟨Nat.zero_le _, Nat.zero_le _, trivial⟩
  refine ⟨rs b q, ⟨_, _, _, _, _, rec_ok b hb, m, pz0, hm, q, rfl, hj, hq, rfl⟩, ?_⟩
  obtain ⟨k, w, s⟩ := q
  cases w with
  | cons y t => exact split_ (fun _ => ⟨y, t, rfl, rfl⟩) fun h => absurd (by show ¬ (List.isEmpty (y :: t)) = true; simp) h
  | nil =>
    refine split_ (fun h => absurd rfl h) fun _ => ?_
    obtain ⟨h1, h2, h3, h4⟩ := fin_right hq rfl
    have h1 : rightB s.L s.g = true := h1
    have h2 : k = (s.L.length : Int) - 1 := h2
    have h3 : 1 ≤ s.L.length := h3
    have h4 : s.L.length ≤ 1000 := h4
    refine ⟨((s.L, (s.g : Int)), true), ?_, split_ (fun h => absurd rfl h) fun _ => rfl⟩
    show tree_Builder_Re_j1 k (s.ps b) (decide (k < 0) || decide ((s.L.length : Int) ≤ k)) _
    rw [decide_eq_false (by omega), decide_eq_false (by omega)]
    refine split_ (fun h => by cases h) fun _ => ⟨in64 (by omega) (by omega), ⟨by omega, by show k + 1 ≤ (s.L.length : Int); omega⟩, s.L, ?_, true, ?_, split_ (fun h => absurd rfl h) fun _ => rfl⟩
    · show slices_Clone_R (s.L.take (k + 1).toNat) s.L
      rw [show (k + 1).toNat = s.L.length by omega, List.take_length]
      exact clone_ok s.L (by omega)
    · show tree_Right_R (s.L, (s.g : Int)) true
      rw [← h1]; exact right_ok s.L s.g
end Go.Proofs.Ytpddiffpanihdaa
