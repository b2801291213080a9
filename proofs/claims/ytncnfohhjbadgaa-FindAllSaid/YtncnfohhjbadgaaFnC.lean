
/- The reference's first match and all matches. -/
import Derived.Test.YtncnfohhjbadgaaFnB
import Derived.Test.YtncnfohhjbadgaaMtL
import Derived.Test.YtncnfohhjbadgaaMtJ
namespace Go.Proofs.Ytncnfohhjbadgaa
theorem leastL_pre : ∀ (l : List ND) (acc : List Int), ∃ s, leastL l acc = acc ++ s
  | [], acc => ⟨[], (List.append_nil _).symm⟩
  | n :: l, acc => by
    obtain ⟨s, h⟩ := leastL_pre l (acc ++ [leastN acc n])
    exact ⟨[leastN acc n] ++ s, by rw [leastL, h, List.append_assoc]⟩
theorem leastL_app : ∀ (l m : List ND) (acc : List Int), leastL (l ++ m) acc = leastL m (leastL l acc)
  | [], _, _ => rfl
  | _ :: l, m, acc => leastL_app l m _
theorem getD_pre {a s : List Int} {i : Nat} (h : i < a.length) : (a ++ s).getD i 0 = a.getD i 0 := by
  rw [List.getD_eq_getElem?_getD, List.getD_eq_getElem?_getD, List.getElem?_append_left h]
/-- A node's least, out of its parts'. -/
theorem least_at {re : List ND} {g : Int} (hn : NOk re g) {i : Nat} {n : ND} (hx : re[i]? = some n) : (leastL re []).getD i 0 = leastN (leastL re []) n ∧ 0 ≤ (leastL re []).getD i 0 ∧ (leastL re []).getD i 0 ≤ 65537 := by
  have hi : i < re.length := (List.getElem?_eq_some_iff.1 hx).1
  have hl : (leastL (re.take i) []).length = i := by rw [leastL_len]; simp; omega
  have e1 : re = re.take i ++ (n :: re.drop (i + 1)) := by
    have h0 : re[i] = n := (List.getElem?_eq_some_iff.1 hx).2
    rw [← h0, ← List.drop_eq_getElem_cons hi, List.take_append_drop]
  have e2 : ∃ s, leastL re [] = leastL (re.take i) [] ++ (leastN (leastL (re.take i) []) n :: s) := by
    obtain ⟨s, hs⟩ := leastL_pre (re.drop (i + 1)) (leastL (re.take i) [] ++ [leastN (leastL (re.take i) []) n])
    refine ⟨s, ?_⟩
    conv => lhs; rw [e1]
    rw [leastL_app, leastL, hs, List.append_assoc]; rfl
  obtain ⟨s, hs⟩ := e2
  have hb := leastN_ok (leastL_ok hn i (by omega)) n (hn _ _ hx).2.2
  have hv : (leastL re []).getD i 0 = leastN (leastL (re.take i) []) n := by
    rw [hs, List.getD_eq_getElem?_getD, List.getElem?_append_right (by omega), hl, Nat.sub_self]; rfl
  have hp : ∀ k ∈ partsL n, (leastL re []).getD k.toNat 0 = (leastL (re.take i) []).getD k.toNat 0 := fun k hk => by
    have := (hn _ _ hx).1 k hk
    rw [hs, getD_pre (by omega)]
  have he : leastN (leastL re []) n = leastN (leastL (re.take i) []) n := by
    unfold leastN
    by_cases k2 : n.1 = 2
    · rw [hp _ (parts1 (.inl k2)), hp _ (parts2 (.inl k2))]
    by_cases k3 : n.1 = 3
    · rw [hp _ (parts1 (.inr (.inl k3))), hp _ (parts2 (.inr k3))]
    by_cases k4 : n.1 = 4
    · rw [hp _ (parts1 (.inr (.inr (.inl k4))))]
      simp [k2, k3, k4]
    by_cases k5 : n.1 = 5
    · rw [hp _ (parts1 (.inr (.inr (.inr k5))))]
      simp [k2, k3, k4, k5]
    · simp [k2, k3, k4, k5]
  rw [he, hv]
  exact ⟨rfl, hb⟩
theorem rleast_ok (re : List ND) (g : Int) (hr : rightB re g = true) : palinoderef06_Least_R (re, g) (leastM re) := by
  obtain ⟨hn, g0, g9, hl⟩ := right_nodes hr
  have hlen : re.length ≤ 1000 := by
    unfold rightB at hr
    simp only [Bool.and_eq_true, decide_eq_true_eq] at hr
    exact hr.1.1.1.1.1.2
  refine ⟨_, rright_ok re g, split_ (fun h => absurd hr h) fun _ => inR_ (by show _ ≤ (re.length : Int) - 1 ∧ (re.length : Int) - 1 ≤ _; omega) ⟨_, ?_, rfl⟩⟩
  refine ⟨fun m l i r => l = re ∧ 0 ≤ i ∧ i < re.length ∧ i.toNat = m ∧ r = (leastL re []).getD i.toNat 0, ?_, re.length - 1, rfl, by show 0 ≤ (re.length : Int) - 1; omega, by show (re.length : Int) - 1 < re.length; omega, by show ((re.length : Int) - 1).toNat = _; omega, by
    show leastM re = (leastL re []).getD ((re.length : Int) - 1).toNat 0
    rw [show ((re.length : Int) - 1).toNat = re.length - 1 by omega]; rfl⟩
  rintro m l i r ⟨rfl, hi0, hi, rfl, rfl⟩
  refine at_ hi0 hi fun n hx => ?_
  obtain ⟨e, b0, b1⟩ := least_at hn hx
  have call : ∀ k ∈ partsL n, ∃ m', m' < i.toNat ∧ l = l ∧ 0 ≤ k ∧ k < l.length ∧ k.toNat = m' ∧ (leastL l []).getD k.toNat 0 = (leastL l []).getD k.toNat 0 := fun k hk => by
    have := (hn _ _ hx).1 k hk
    exact ⟨k.toNat, by omega, rfl, this.1, by omega, rfl, rfl⟩
  have bnd : ∀ k ∈ partsL n, 0 ≤ (leastL l []).getD k.toNat 0 ∧ (leastL l []).getD k.toNat 0 ≤ 65537 := fun k hk => by
    have := (hn _ _ hx).1 k hk
    have hk2 : l[k.toNat]? = some l[k.toNat] := List.getElem?_eq_getElem (by omega)
    exact (least_at hn hk2).2
  rw [e]
  unfold palinoderef06_least_j1 palinoderef06_least_j2 palinoderef06_least_j3 palinoderef06_least_j4 palinoderef06_least_j5
  unfold leastN
  dsimp only
  have none1 : ∀ {p A B : Prop} [Decidable p], ¬ p → B → (p → A) ∧ (¬ p → B) := fun h1 h2 => ⟨fun q => absurd q h1, fun _ => h2⟩
  have some1 : ∀ {p A B : Prop} [Decidable p], p → A → (p → A) ∧ (¬ p → B) := fun h1 h2 => ⟨fun _ => h2, fun q => absurd h1 q⟩
  by_cases k1 : n.1 = 1
  · refine some1 k1 (none1 (by omega) (none1 (by omega) (none1 (by omega) (none1 (by omega) ?_))))
    rw [if_pos k1]
  refine none1 k1 ?_
  rw [if_neg k1]
  by_cases k2 : n.1 = 2
  · have b1 := bnd _ (parts1 (.inl k2))
    have b2 := bnd _ (parts2 (.inl k2))
    rw [if_pos k2]
    exact some1 k2 ⟨_, call _ (parts1 (.inl k2)), _, call _ (parts2 (.inl k2)), inR_ (by omega) (none1 (by omega) (none1 (by omega) (none1 (by omega) rfl)))⟩
  refine none1 k2 ?_
  rw [if_neg k2]
  by_cases k3 : n.1 = 3
  · rw [if_pos k3]
    exact some1 k3 ⟨_, call _ (parts1 (.inr (.inl k3))), _, call _ (parts2 (.inr k3)), none1 (by omega) (none1 (by omega) rfl)⟩
  refine none1 k3 ?_
  rw [if_neg k3]
  by_cases k4 : n.1 = 4
  · have b1 := bnd _ (parts1 (.inr (.inr (.inl k4))))
    have hlo := isLo hr hx k4
    have hm : n.2.2.2.1 * (leastL l []).getD n.2.1.toNat 0 ≤ 255 * 65537 := Int.mul_le_mul hlo.2 b1.2 b1.1 (by decide)
    have hm0 : 0 ≤ n.2.2.2.1 * (leastL l []).getD n.2.1.toNat 0 := Int.mul_nonneg hlo.1 b1.1
    rw [if_pos k4]
    exact some1 k4 ⟨_, call _ (parts1 (.inr (.inr (.inl k4)))), inR_ (by omega) (none1 (by omega) rfl)⟩
  refine none1 k4 ?_
  rw [if_neg k4]
  by_cases k5 : n.1 = 5
  · rw [if_pos k5]
    exact some1 k5 ⟨_, call _ (parts1 (.inr (.inr (.inr k5)))), rfl⟩
  · rw [if_neg k5]
    exact none1 k5 rfl
theorem rfirst_ok (re : List ND) (g : Int) (tx : List UInt8) (a f : Int) (hr : rightB re g = true) (htx : tx.length ≤ 100000000) (h0 : 0 ≤ a) (h1 : a ≤ tx.length) (hf : 0 ≤ f) (hf2 : f ≤ 100000000) : palinoderef12_First_R (re, g) tx a f (firstM re g tx a f) := by
  have e : firstM re g tx a f = firstLoop re g tx (leastM re) ((tx.length : Int) + 1 - a).toNat a f := by
    unfold firstM
    rw [if_neg (by rw [hr]; intro h; rcases h with h | h | h | h <;> first | omega | cases h)]
  unfold palinoderef12_First_R
  rw [e]
  refine loop_ (fun x m => ∃ (b f' : Int), x = (f', b) ∧ 0 ≤ b ∧ b ≤ (tx.length : Int) + 1 ∧ 0 ≤ f' ∧ f' ≤ f ∧ ((tx.length : Int) + 1 - b).toNat = m ∧ firstLoop re g tx (leastM re) ((tx.length : Int) + 1 - a).toNat a f = firstLoop re g tx (leastM re) m b f') _ ⟨a, f, rfl, by omega, by omega, by omega, Int.le_refl _, rfl, rfl⟩ ?_
  rintro _ m ⟨b, f', rfl, b0, b1, f0, f1, hm, he⟩
  rw [he]
  unfold palinoderef12_First_l2
  simp only
  refine split_ (fun h1 => ?_) fun h1 => ?_
  · obtain ⟨k, rfl⟩ : ∃ k, m = k + 1 := ⟨m - 1, by omega⟩
    refine inR_ (by omega) ⟨_, rleast_ok re g hr, split_ (fun h2 => ?_) fun h2 => ?_⟩
    · rw [firstLoop, if_neg (by omega)]; rfl
    · refine ⟨_, rat_ok re g tx b f' hr htx b0 h1 f0 (by omega), ?_⟩
      rw [← at_ref (by omega) hr b0 h1 f0]
      have hy := at_n re g tx b f' f0
      have es : firstLoop re g tx (leastM re) (k + 1) b f' = if (atM re g tx b f').2.1 = true ∨ ¬ (atM re g tx b f').2.2.2 = 0 then atM re g tx b f' else firstLoop re g tx (leastM re) k (b + 1) (atM re g tx b f').2.2.1 := by
        rw [firstLoop, if_pos (by omega)]
      unfold palinoderef12_First_j3
      refine split_ (fun h3 => ?_) fun h3 => ?_
      · rw [es, if_pos (by simp only [Bool.or_eq_true, Bool.not_eq_true', decide_eq_false_iff_not] at h3; exact h3.symm)]
      · have h3' : ¬ ((atM re g tx b f').2.1 = true ∨ ¬ (atM re g tx b f').2.2.2 = 0) := by
          simp only [Bool.or_eq_true, Bool.not_eq_true', decide_eq_false_iff_not] at h3
          exact fun q => h3 q.symm
        exact inR_ (by omega) ⟨k, by omega, b + 1, (atM re g tx b f').2.2.1, rfl, by omega, by omega, hy.1, Int.le_trans hy.2.1 f1, by omega, by rw [es, if_neg h3']⟩
  · obtain rfl : m = 0 := by omega
    rfl
theorem rall_ok (re : List ND) (g : Int) (tx : List UInt8) (f : Int) (hr : rightB re g = true) (htx : tx.length ≤ 90000000) (hf : f ≤ 100000000) (hf0 : 0 ≤ f) : palinoderef12_All_R (re, g) tx f (allM re g tx f) := by
  unfold palinoderef12_All_R allM
  simp only
  generalize hR : allLoop re g tx (tx.length + 2) 0 (-1) [] f = R
  refine loop_ (fun x m => ∃ (a last f' : Int) (l : List Sp), x = (f', l, a) ∧ 0 ≤ a ∧ a ≤ (tx.length : Int) + 1 ∧ l.length ≤ a ∧ 0 ≤ f' ∧ f' ≤ f ∧ (tx.length : Int) + 2 - a ≤ m ∧ R = allLoop re g tx m a last l f' ∧
    (l = [] → last = -1) ∧ (∀ w, l.getLast? = some w → ∃ c, w.l[0]? = some (c, last))) (tx.length + 2) ⟨0, -1, f, [], rfl, by omega, by omega, by simp, hf0, Int.le_refl _, by omega, hR.symm, fun _ => rfl, fun w hw => by simp at hw⟩ ?_
  rintro _ m ⟨a, last, f', l, rfl, a0, a1, hl, f0, f1, hm, he, hnil, hlast⟩
  obtain ⟨k, rfl⟩ : ∃ k, m = k + 1 := ⟨m - 1, by omega⟩
  unfold palinoderef12_All_l2
  simp only
  refine split_ (fun h => ?_) fun h => ?_
  · refine ⟨_, rfirst_ok re g tx a f' hr (by omega) a0 h f0 (by omega), ?_⟩
    have hy := first_n re g tx a f' f0
    refine split_ (fun q => ?_) fun q => split_ (fun q2 => ?_) fun q2 => ?_
    · have hno : ¬ (firstM re g tx a f').2.1 = true := fun e => q (hy.2.2 e).1
      have eR := all_no (k := k) (last := last) (l := l) (re := re) (g := g) (tx := tx) (a := a) (f := f') (by omega) hno
      rw [← he] at eR
      rw [if_neg (by rw [eR]; exact q), eR]
    · have eR := all_no (k := k) (last := last) (l := l) (re := re) (g := g) (tx := tx) (a := a) (f := f') (by omega) q2
      rw [← he] at eR
      have q' := Classical.not_not.1 q
      rw [if_pos (by rw [eR]; exact q'), eR]; rfl
    have hok := Classical.not_not.1 q2
    obtain ⟨hz, b, hb, to, k1, k2, k3, k4⟩ := hy.2.2 hok
    have hst := all_yes (k := k) (last := last) (l := l) (re := re) (g := g) (tx := tx) (a := a) (f := f') (by omega) hok k1
    obtain ⟨y1, y2, y3⟩ := hy
    rw [← he] at hst
    simp only at hst
    refine ⟨⟨by omega, by omega⟩, (b, to), k1, ?_⟩
    -- a match is kept, or not
    have j4 : ∀ a' : Int, a < a' → a' ≤ (tx.length : Int) + 1 → ∀ c : Bool, (c = true → R = allLoop re g tx k a' to (l ++ [(firstM re g tx a f').1]) (firstM re g tx a f').2.2.1) → (c = false → R = allLoop re g tx k a' last l (firstM re g tx a f').2.2.1) →
        palinoderef12_All_j4 l (firstM re g tx a f') (fun s' => ∃ m', m' < k + 1 ∧ ∃ (a last f' : Int) (l : List Sp), s' = (f', l, a) ∧ 0 ≤ a ∧ a ≤ (tx.length : Int) + 1 ∧ l.length ≤ a ∧ 0 ≤ f' ∧ f' ≤ f ∧ (tx.length : Int) + 2 - a ≤ m' ∧ R = allLoop re g tx m' a last l f' ∧
          (l = [] → last = -1) ∧ (∀ w, l.getLast? = some w → ∃ c, w.l[0]? = some (c, last))) a' c (if R.2.2 = 0 then (R.1, R.2.1, 0) else ([], 0, R.2.2)) := by
      intro a' ha' ha2 c h1 h2
      refine split_ (fun hc => ?_) fun hc => ?_
      · refine room_ (by simp; omega) (by omega) ⟨k, by omega, a', to, _, _, rfl, by omega, ha2, by simp; omega, y1, Int.le_trans y2 f1, by omega, h1 hc, fun e => by simp at e, fun w hw => ?_⟩
        rw [List.getLast?_concat] at hw
        injection hw with hw
        subst hw
        exact ⟨b, k1⟩
      · exact ⟨k, by omega, a', last, _, l, rfl, by omega, ha2, by omega, y1, Int.le_trans y2 f1, by omega, h2 (Bool.eq_false_iff.2 hc), hnil, hlast⟩
    have j3 : ∀ a' : Int, a' = (if b = to then to + 1 else to) → palinoderef12_All_j3 (b, to) l (firstM re g tx a f') (fun s' => ∃ m', m' < k + 1 ∧ ∃ (a last f' : Int) (l : List Sp), s' = (f', l, a) ∧ 0 ≤ a ∧ a ≤ (tx.length : Int) + 1 ∧ l.length ≤ a ∧ 0 ≤ f' ∧ f' ≤ f ∧ (tx.length : Int) + 2 - a ≤ m' ∧ R = allLoop re g tx m' a last l f' ∧
          (l = [] → last = -1) ∧ (∀ w, l.getLast? = some w → ∃ c, w.l[0]? = some (c, last))) a' (if R.2.2 = 0 then (R.1, R.2.1, 0) else ([], 0, R.2.2)) := by
      intro a' ha'
      have hlt : a < a' ∧ a' ≤ (tx.length : Int) + 1 := by rw [ha']; split <;> omega
      unfold palinoderef12_All_j3
      simp only
      refine split_ (fun h1 => ?_) fun h1 => split_ (fun h2 => ?_) fun h2 => ?_
      · refine j4 a' hlt.1 hlt.2 true (fun _ => ?_) fun q => by cases q
        rw [if_neg (fun q => by omega), ← ha'] at hst; exact hst
      · have el : l = [] := List.eq_nil_of_length_eq_zero (by omega)
        have := hnil el
        refine j4 a' hlt.1 hlt.2 true (fun _ => ?_) fun q => by cases q
        rw [if_neg (fun q => by omega), ← ha'] at hst; exact hst
      · refine inR_ (by omega) (at_ (by omega) (by omega) fun w hw => ?_)
        have hw2 : l.getLast? = some w := by
          rw [List.getLast?_eq_getElem?, ← hw]; congr 1; omega
        obtain ⟨c, hc⟩ := hlast w hw2
        refine ⟨⟨by omega, by omega⟩, (c, last), hc, ?_⟩
        have hbt : b = to := by omega
        refine j4 a' hlt.1 hlt.2 _ (fun hq => ?_) fun hq => ?_
        · have hq' : ¬ last = b := by simpa using hq
          rw [if_neg (fun q => hq' q.2.symm), ← ha'] at hst; exact hst
        · have hq' : last = b := by simpa using hq
          rw [if_pos ⟨hbt, hq'.symm⟩] at hst
          rw [ha', if_pos hbt]; exact hst
    refine split_ (fun e => ?_) fun e => ?_
    · have e' : b = to := e
      exact inR_ (by omega) (j3 (to + 1) (by rw [if_pos e']))
    · have e' : ¬ b = to := e
      exact j3 to (by rw [if_neg e'])
  · have eR := all_stop (re := re) (g := g) (tx := tx) (k := k + 1) (a := a) (last := last) (l := l) (f := f') (by omega)
    rw [← he] at eR
    rw [eR]; rfl
theorem rsameL_ok (l : List Sp) (h : l.length ≤ 100000000) : palinoderef12_Same_R l l true := by
  refine split_ (fun q => absurd rfl q) fun _ => ?_
  refine loop_ (fun x m => ∃ i : Nat, x = (i : Int) ∧ l.length - i = m ∧ i ≤ l.length) l.length ⟨0, rfl, by omega, by omega⟩ ?_
  rintro _ m ⟨i, rfl, rfl, hi⟩
  unfold palinoderef12_Same_l1
  refine split_ (fun h1 => ?_) fun _ => rfl
  refine at_ (by omega) h1 fun y hy => ⟨by omega, y, hy, split_ (fun q => absurd rfl q) fun _ => inR_ (by omega) ⟨l.length - (i + 1), by omega, i + 1, by omega, rfl, by omega⟩⟩
theorem all_neg (re : List ND) (g : Int) (tx : List UInt8) (f : Int) (htx : tx.length ≤ 90000000) (hf : f < 0) : find_All_R (re, g) tx f ([], 0, 1) := by
  refine ⟨(), rfl, ([], ((re, g), tx, 0, 1)), ?_, ?_⟩
  · unfold find_walk_all_c1_R
    simp only
    refine loop_ (fun x m => x = (0, -1, [], re, g, tx, f, 0)) 0 rfl ?_
    rintro _ m rfl
    have h := wfirst_ok re g tx 0 f (by omega) (by omega)
    have ef : firstM re g tx 0 f = (Arr.rep 10 (0, 0), false, 0, 1) := by unfold firstM; rw [if_pos (.inr (.inr (.inl hf)))]
    rw [if_neg (by omega), ef] at h
    refine ⟨_, h, split_ (fun _ => rfl) fun q => absurd (by simp) q⟩
  · exact split_ (fun _ => rfl) fun q => absurd (by simp) q
end Go.Proofs.Ytncnfohhjbadgaa
