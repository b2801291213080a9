/- Names of files. -/
import Derived.Test.YtljlaggehilpfaaFiQ
import Derived.Test.YtljlaggehilpfaaGKL1
namespace Go.Proofs.Ytljlaggehilpfaa
theorem refName_ok (s : ByteArray) (hs : s.size ≤ 1000000) : palinoderef03_IsName_R s (nameB s) := by
  refine split_ (fun h => ?_) fun h => split_ (fun h2 => ?_) fun h2 => ?_
  · have : ¬ 1 ≤ s.size := by omega
    simp [nameB, this]
  · have : ¬ s.size ≤ 64 := by omega
    simp [nameB, this]
  refine loop_ (fun st m => ∃ k : Nat, k ≤ s.size ∧ m = s.size - k ∧ st = (k : Int) ∧ ∀ j c, j < k → s.data.toList[j]? = some c → (decide (33 ≤ c.toNat) && decide (c.toNat ≤ 126)) = true) s.size ⟨0, by omega, rfl, rfl, fun j c hj => by omega⟩ ?_
  rintro _ m ⟨k, hk, rfl, rfl, hall⟩
  refine split_ (fun h => ?_) fun h => ?_
  · have hx : ∃ c, s.data.toList[k]? = some c := ⟨_, List.getElem?_eq_getElem (by have : s.data.toList.length = s.size := rfl; omega)⟩
    obtain ⟨c, hc⟩ := hx
    have hc' : s[(k : Int).toNat]? = some c := by rw [ba_at]; exact hc
    have bad : ∀ h : ¬ (decide (33 ≤ c.toNat) && decide (c.toNat ≤ 126)) = true, nameB s = false := fun h => by
      unfold nameB
      rw [Bool.eq_false_iff]
      intro hn
      rw [Bool.and_eq_true] at hn
      exact h (List.all_eq_true.1 hn.2 c (List.mem_of_getElem? hc))
    refine ⟨by omega, c, hc', split_ (fun h1 => bad (by simp; omega)) fun h1 => ⟨by omega, c, hc', split_ (fun h2 => bad (by simp; omega)) fun h2 => ?_⟩⟩
    refine inR_ (by omega) ⟨s.size - (k + 1), by omega, k + 1, by omega, rfl, rfl, fun j d hj hd => ?_⟩
    rcases Nat.lt_or_ge j k with h3 | h3
    · exact hall j d h3 hd
    · obtain rfl : j = k := by omega
      rw [hc] at hd
      obtain rfl := Option.some.inj hd
      simp; omega
  · have hal : (s.data.toList.all fun c => decide (33 ≤ c.toNat) && decide (c.toNat ≤ 126)) = true := by
      rw [List.all_eq_true]
      intro c hc
      obtain ⟨j, hj⟩ := List.mem_iff_getElem?.1 hc
      exact hall j c (by have := (List.getElem?_eq_some_iff.1 hj).1; have h2 : s.data.toList.length = s.size := rfl; omega) hj
    unfold nameB
    rw [hal]
    have h1 : 1 ≤ s.size := by omega
    have h2 : s.size ≤ 64 := by omega
    simp [h1, h2]
theorem names_law (s : ByteArray) (b : List UInt8) : palinodelaw03_FilesNames_R s b true := by
  refine split_ (fun h => ⟨true, fiawake, rfl⟩) fun h => ?_
  have hs : s.size ≤ 70 := by simp only [Bool.or_eq_true, decide_eq_true_eq, not_or] at h; omega
  have hb : b.length ≤ 100 := by simp only [Bool.or_eq_true, decide_eq_true_eq, not_or] at h; omega
  refine ⟨(0, some []), new_ok [] (by simp), ⟨fun h => (by cases h), fun x hx => ?_⟩⟩
  injection hx with hx; subst hx
  refine ⟨nameB s, refName_ok s (by omega), ?_⟩
  -- what each way comes to
  have hadd := add_ok [] s [b] (by simp) (by omega) (by simp) (by simp) (by simp; omega)
  have hput := fun (l : List FL) (hl : l.length ≤ 1000000) => put_ok l s b hl (by omega)
  have hnew := new_ok [(s, b)] (by simp; omega)
  cases hn : nameB s with
  | false =>
    refine split_ (fun _ => ?_) fun h => absurd (by simp) h
    have e1 : newL [(s, b)] = (4, none) := by simp [newL, newGo, putL, hn]
    have e2 : ∀ l b, putL l s b = (4, l) := fun l b => by simp [putL, hn]
    rw [e1] at hnew
    rw [e2] at hadd
    refine ⟨_, hnew, ⟨fun _ => ?_, fun x hx => (by cases hx)⟩⟩
    refine ⟨_, isName_ok s (by omega), split_ (fun _ => ?_) fun h => absurd (by rw [hn]; rfl) h⟩
    refine ⟨_, hadd, split_ (fun _ => ?_) fun h => absurd rfl h⟩
    have h3 := hput [] (by simp)
    rw [e2] at h3
    refine ⟨_, h3, split_ (fun _ => split_ (fun _ => ?_) fun h => absurd rfl h) fun h => absurd rfl h⟩
    exact ⟨[], all_ok [] (by simp) (by simp), split_ (fun _ => ⟨true, fiawake, rfl⟩) fun h => absurd rfl h⟩
  | true =>
    refine split_ (fun h => absurd rfl h) fun _ => ?_
    have hb2 : ¬ 65536 < b.length := by omega
    have e1 : newL [(s, b)] = (0, some [(s, b)]) := by simp [newL, newGo, putL, hn, hb2, findL]
    have e2 : putL [] s ((lookL [] s).getD [] ++ [b].flatten) = (0, [(s, b)]) := by simp [putL, hn, hb2, findL, lookL]
    have e3 : putL [(s, b)] s b = (0, [(s, b)]) := by simp [putL, hn, hb2, findL]
    rw [e1] at hnew
    rw [e2] at hadd
    have h3 := hput [(s, b)] (by simp)
    rw [e3] at h3
    refine ⟨_, hnew, ⟨fun h => (by cases h), fun x hx => ?_⟩⟩
    refine ⟨_, isName_ok s (by omega), split_ (fun _ => ?_) fun h => absurd (by rw [hn]; rfl) h⟩
    refine ⟨_, hadd, split_ (fun _ => ?_) fun h => absurd rfl h⟩
    refine ⟨_, h3, split_ (fun _ => split_ (fun _ => ?_) fun h => absurd rfl h) fun h => absurd rfl h⟩
    exact ⟨_, all_ok [(s, b)] (by simp) (by simp; omega), split_ (fun _ => ⟨true, fiawake, rfl⟩) fun h => absurd rfl h⟩
end Go.Proofs.Ytljlaggehilpfaa
