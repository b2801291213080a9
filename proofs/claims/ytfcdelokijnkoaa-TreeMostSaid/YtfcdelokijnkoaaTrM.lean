/- A builder is filled. -/
import Derived.Test.YtfcdelokijnkoaaTrQ
import Derived.Test.YtfcdelokijnkoaaGKL2
namespace Go.Proofs.Ytfcdelokijnkoaa
theorem tmawake : palinodelaw06_awake_R true := palinodelaw06_awake_ok (fuel := 60) (by kernel_rfl)
theorem put_yes {l : List ND} {g : Int} {n : ND} (h : l.length < 1000) (hb : isNodeB n l.length g = true) : tree_Builder_put_R (l, g) n ((l.length : Int), (l ++ [n], g)) := by
  refine split_ (fun h1 => absurd h (by simp only at h1; omega)) fun _ => ⟨_, isNode_ok n _ g, split_ (fun h1 => absurd hb h1) fun _ => ?_⟩
  refine room_ (by simp; omega) (by omega) (inR_ (by simp; omega) ?_)
  simp
theorem put_no {l : List ND} {g : Int} {n : ND} (h : 1000 ≤ l.length) : tree_Builder_put_R (l, g) n (-1, (l, g)) :=
  split_ (fun _ => rfl) fun h1 => absurd (by simp only; omega) h1
theorem cat2_ok {l l' : List ND} {g g' a b r : Int} (h0 : 0 ≤ a) (h1 : a < l.length) (hp : tree_Builder_put_R (l, g) (2, a, b, 0, 0, 0, setZ) (r, (l', g'))) : tree_Builder_Cat_R (l, g) [a, b] (r, (l', g')) := by
  refine split_ (fun h => by simp at h) fun _ => ⟨(r, (l', g')), ?_, rfl⟩
  refine ⟨by omega, a, rfl, split_ (fun h => absurd h0 (by omega)) fun _ => ⟨by omega, a, rfl, split_ (fun h => absurd h1 (by simp only at h; omega)) fun _ => ⟨by omega, a, rfl, ⟨by omega, by simp⟩, ?_⟩⟩⟩
  refine loop_ (fun (st : Int × Int × List ND × Int) m => (m = 1 ∧ st = (a, 0, l, g)) ∨ (m = 0 ∧ st = (r, 1, l', g'))) 1 (.inl ⟨rfl, rfl⟩) ?_
  rintro _ m (⟨rfl, rfl⟩ | ⟨rfl, rfl⟩)
  · refine split_ (fun _ => ⟨by simp, b, rfl, split_ (fun h => absurd h0 (by simp only at h; omega)) fun _ => ⟨_, hp, inR_ (by simp) ⟨0, by omega, .inr ⟨rfl, rfl⟩⟩⟩⟩) fun h => absurd (by simp) h
  · exact split_ (fun h => absurd h (by simp)) fun _ => rfl
theorem fold1_ok {l : List ND} {g a kind : Int} (h0 : 0 ≤ a) (h1 : a < l.length) : tree_Builder_fold_R (l, g) kind [a] (a, (l, g)) := by
  refine ⟨by omega, a, rfl, split_ (fun h => absurd h0 (by omega)) fun _ => ⟨by omega, a, rfl, split_ (fun h => absurd h1 (by simp only at h; omega)) fun _ => ⟨by omega, a, rfl, ⟨by omega, by simp⟩, ?_⟩⟩⟩
  refine loop_ (fun (st : Int × Int × List ND × Int) m => st = (a, 0, l, g)) 0 rfl ?_
  rintro _ m rfl
  exact split_ (fun h => absurd h (by simp)) fun _ => rfl
theorem fold_out {l : List ND} {g a kind : Int} (h0 : 0 ≤ a) (h1 : (l.length : Int) ≤ a) : tree_Builder_fold_R (l, g) kind [a] (-1, (l, g)) :=
  ⟨by omega, a, rfl, split_ (fun h => absurd h0 (by omega)) fun _ => ⟨by omega, a, rfl, split_ (fun _ => rfl) fun h => absurd (by simp only; omega) h⟩⟩
theorem cat1_ok {l : List ND} {g a : Int} (h0 : 0 ≤ a) (h1 : a < l.length) : tree_Builder_Cat_R (l, g) [a] (a, (l, g)) := split_ (fun h => by simp at h) fun _ => ⟨_, fold1_ok h0 h1, rfl⟩
theorem alt1_ok {l : List ND} {g a : Int} (h0 : 0 ≤ a) (h1 : a < l.length) : tree_Builder_Alt_R (l, g) [a] (a, (l, g)) := split_ (fun h => by simp at h) fun _ => ⟨_, fold1_ok h0 h1, rfl⟩
theorem cat_out {l : List ND} {g a : Int} (h0 : 0 ≤ a) (h1 : (l.length : Int) ≤ a) : tree_Builder_Cat_R (l, g) [a] (-1, (l, g)) := split_ (fun h => by simp at h) fun _ => ⟨_, fold_out h0 h1, rfl⟩
def nodeAt (i : Nat) : ND := if i = 0 then (7, 0, 0, 0, 0, 0, setZ) else if i % 2 = 1 then (1, 0, 0, 0, 0, 0, setZ) else (2, (i : Int) - 2, (i : Int) - 1, 0, 0, 0, setZ)
def nl (k : Nat) : List ND := (List.range k).map nodeAt
theorem nl_len (k : Nat) : (nl k).length = k := by simp [nl]
theorem nl_succ (k : Nat) : nl (k + 1) = nl k ++ [nodeAt k] := by simp [nl, List.range_succ]
theorem nl_take (k n : Nat) (h : k ≤ n) : (nl n).take k = nl k := by
  unfold nl
  rw [← List.map_take, List.take_range, Nat.min_eq_left h]
set_option synthInstance.maxSize 4000 in
theorem node_right (i : Nat) : isNodeB (nodeAt i) (i : Int) 9 = true := by
  unfold nodeAt
  by_cases h0 : i = 0
  · rw [if_pos h0]; simp [isNodeB, plainL, partsL]
  · rw [if_neg h0]
    by_cases h1 : i % 2 = 1
    · rw [if_pos h1]; simp [isNodeB, plainL, partsL]
    · rw [if_neg h1]
      simp [isNodeB, plainL, partsL]
      omega
theorem nl_kind (k : Nat) : grpL (nl k) = [] := by
  unfold grpL
  rw [List.flatMap_eq_nil_iff]
  intro x hx
  obtain ⟨i, _, rfl⟩ := List.mem_map.1 hx
  unfold nodeAt
  split
  · rfl
  · split <;> rfl
theorem nl_wrong (k : Nat) : rightB (nl k) 9 = false := by
  unfold rightB
  rw [nl_kind]
  simp
  intros
  exact ⟨0, by omega⟩
theorem clone_ok (l : List ND) (hl : l.length ≤ 100000) : slices_Clone_R l l := by
  intro b hb
  refine split_ (fun h => ?_) fun _ => room_ (by simp; omega) (by omega) rfl
  by_cases hl0 : l = []
  · exact hl0
  · rw [hb hl0] at h; cases h
theorem open_yes {l : List ND} {g : Int} (h : g < 9) (h0 : 0 ≤ g) : tree_Builder_Open_R (l, g) (g + 1, (l, g + 1)) := split_ (fun h1 => absurd h (by simp only at h1; omega)) fun _ => inR_ (by simp only; omega) rfl
theorem open_no {l : List ND} : tree_Builder_Open_R (l, 9) (-1, (l, 9)) := split_ (fun _ => rfl) fun h1 => absurd (by simp) h1
theorem tm_end (x : UInt8) (L M : List ND) (hlen : L.length = 1000) (htk : L.take 999 = M) (hM : M.length = 999) (hw : rightB M 9 = false) (at_ : Int) (hat : at_ = 998) : LoopR (fun ag4 s => palinodelaw06_TreeMost_l4 x at_ ag4 s.1 s.2.1 s.2.2 true) (0, L, 9) := by
  have hx := x.toNat_lt
  refine loop_ (fun (st : Int × List ND × Int) m => ∃ k : Nat, k ≤ 5 ∧ m = 5 - k ∧ st = ((k : Int), L, 9)) 5 ⟨0, by omega, rfl, rfl⟩ ?_
  rintro _ m ⟨k, hk, rfl, rfl⟩
  show palinodelaw06_TreeMost_l4 x at_ _ (k : Int) (L) 9 true
  refine ⟨by decide, ?_⟩
  rw [show (((x.toNat : Int) : Int).tmod 5) = ((x.toNat % 5 : Nat) : Int) from tm x.toNat 5]
  have hm := Nat.mod_lt x.toNat (show 0 < 5 by omega)
  refine split_ (fun h => ?_) fun h => ?_
  · refine ⟨(-1, (L, 9)), ⟨_, put_no (by simp only; omega), rfl⟩, split_ (fun h2 => absurd rfl h2) fun _ => ?_⟩
    refine ⟨(-1, (L, 9)), cat2_ok (by omega) (by simp only; omega) (put_no (by simp only; omega)), split_ (fun h2 => absurd rfl h2) fun _ => ?_⟩
    exact ⟨_, open_no, split_ (fun h2 => absurd rfl h2) fun _ => inR_ (by omega) ⟨5 - (k + 1), by omega, k + 1, by omega, rfl, rfl⟩⟩
  · refine ⟨(([], 0), false), ?_, split_ (fun _ => ?_) fun h2 => absurd (by simp) h2⟩
    · refine split_ (fun h2 => by simp [hlen] at h2; omega) fun _ => inR_ (by omega) ⟨⟨by omega, by simp only; omega⟩, M, ?_, _, right_ok (M) 9, split_ (fun _ => rfl) fun h2 => absurd (by rw [hw]; simp) h2⟩
      rw [show ((at_ + 1 : Int)).toNat = 999 by omega, htk]
      exact clone_ok _ (by omega)
    · refine ⟨_, cat1_ok (a := at_) (by omega) (by omega), split_ (fun _ => ?_) fun h2 => absurd rfl h2⟩
      refine ⟨_, alt1_ok (a := at_) (by omega) (by simp only; omega), split_ (fun _ => ?_) fun h2 => absurd rfl h2⟩
      refine ⟨(-1, (L, 9)), split_ (fun _ => rfl) fun h2 => absurd rfl h2, split_ (fun _ => ?_) fun h2 => absurd rfl h2⟩
      exact ⟨_, cat_out (a := 1000) (by omega) (by simp only; omega), split_ (fun _ => ⟨true, tmawake, rfl⟩) fun h2 => absurd rfl h2⟩
theorem treemost_law (x : UInt8) : palinodelaw06_TreeMost_R x true := by
  refine loop_ (fun (st : Int × List ND × Int) m => ∃ k : Nat, k ≤ 9 ∧ m = 9 - k ∧ st = ((k : Int), [], (k : Int))) 9 ⟨0, by omega, rfl, rfl⟩ ?_
  rintro _ m ⟨k, hk, rfl, rfl⟩
  refine split_ (fun h => ?_) fun h => ?_
  · simp only at h
    refine ⟨_, open_yes (g := (k : Int)) (by omega) (by omega), inR_ (by simp only; omega) (split_ (fun h1 => absurd rfl h1) fun _ => inR_ (by simp only; omega) ⟨9 - (k + 1), by omega, k + 1, by omega, rfl, by simp⟩)⟩
  simp only at h
  obtain rfl : k = 9 := by omega
  refine ⟨(0, (nl 1, 9)), ⟨(0, (nl 1, 9)), put_yes (l := []) (g := 9) (n := nodeAt 0) (by simp) (node_right 0), rfl⟩, ?_⟩
  refine loop_ (fun (st : Int × Int × List ND × Int) m => ∃ k : Nat, 1 ≤ k ∧ k ≤ 1000 ∧ m = 1000 - k ∧ st = (((2 * ((k - 1) / 2) : Nat) : Int), (k : Int), nl k, 9)) 999 ⟨1, by omega, by omega, rfl, rfl⟩ ?_
  rintro _ m ⟨k, hk0, hk, rfl, rfl⟩
  show palinodelaw06_TreeMost_l2 x _ ((2 * ((k - 1) / 2) : Nat) : Int) (k : Int) (nl k) 9 true
  have hlen := nl_len k
  refine split_ (fun h => ⟨by decide, ?_⟩) fun h => ?_
  · have hk1 : k < 1000 := by omega
    rw [show ((k : Int).tmod 2) = ((k % 2 : Nat) : Int) from tm k 2]
    refine split_ (fun h1 => ?_) fun h1 => inR_ (by omega) ?_
    · have hp : tree_Builder_put_R (nl k, 9) (1, 0, 0, 0, 0, 0, setZ) ((k : Int), (nl (k + 1), 9)) := by
        have hn : nodeAt k = (1, 0, 0, 0, 0, 0, setZ) := by unfold nodeAt; rw [if_neg (by omega), if_pos (by omega)]
        have := put_yes (l := nl k) (g := 9) (n := nodeAt k) (by omega) (by rw [hlen]; exact node_right k)
        rw [hlen, hn] at this
        rw [nl_succ, hn]; exact this
      refine ⟨((k : Int), (nl (k + 1), 9)), ⟨_, hp, rfl⟩, split_ (fun h2 => absurd rfl h2) fun _ => inR_ (by omega) ⟨1000 - (k + 1), by omega, k + 1, by omega, by omega, rfl, ?_⟩⟩
      have : 2 * ((k - 1) / 2) = 2 * ((k + 1 - 1) / 2) := by omega
      rw [this]; rfl
    · have ha : ((2 * ((k - 1) / 2) : Nat) : Int) = (k : Int) - 2 := by omega
      have hp : tree_Builder_put_R (nl k, 9) (2, (k : Int) - 2, (k : Int) - 1, 0, 0, 0, setZ) ((k : Int), (nl (k + 1), 9)) := by
        have hn : nodeAt k = (2, (k : Int) - 2, (k : Int) - 1, 0, 0, 0, setZ) := by unfold nodeAt; rw [if_neg (by omega), if_neg (by omega)]
        have := put_yes (l := nl k) (g := 9) (n := nodeAt k) (by omega) (by rw [hlen]; exact node_right k)
        rw [hlen, hn] at this
        rw [nl_succ, hn]; exact this
      rw [ha]
      refine ⟨((k : Int), (nl (k + 1), 9)), cat2_ok (by omega) (by omega) hp, split_ (fun h2 => absurd rfl h2) fun _ => inR_ (by omega) ⟨1000 - (k + 1), by omega, k + 1, by omega, by omega, rfl, ?_⟩⟩
      have : ((2 * ((k + 1 - 1) / 2) : Nat) : Int) = (k : Int) := by omega
      rw [this]; rfl
  exact tm_end x (nl k) (nl 999) (by omega) (nl_take 999 k (by omega)) (nl_len 999) (nl_wrong 999) _ (by omega)
end Go.Proofs.Ytfcdelokijnkoaa
