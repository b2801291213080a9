/- What lies behind a bracket expression changes nothing. -/
import Derived.Test.YtpddiffpanihdaaBrL
namespace Go.Proofs.Ytpddiffpanihdaa
/-- Locality. -/
theorem agree_at {t u : List UInt8} {m : Nat} (h : u.take m = t.take m) {i : Nat} (hi : i < m) : u[i]? = t[i]? := by
  have := congrArg (fun l => l[i]?) h
  simpa [List.getElem?_take, hi] using this
theorem agree_drop {t u : List UInt8} {m k : Nat} (h : u.take m = t.take m) (hk : k ≤ m) : (u.drop k).take (m - k) = (t.drop k).take (m - k) := by
  rw [List.take_drop, List.take_drop, show k + (m - k) = m from by omega, h]
theorem agree_le {t u : List UInt8} {m k : Nat} (h : u.take m = t.take m) (hk : k ≤ m) : u.take k = t.take k := by
  have := congrArg (List.take k) h
  rwa [List.take_take, List.take_take, Nat.min_eq_left hk] at this
theorem agree_len {t u : List UInt8} {m : Nat} (h : u.take m = t.take m) (hm : m ≤ t.length) : m ≤ u.length := by
  have := congrArg List.length h
  rw [List.length_take, List.length_take] at this
  omega
theorem occ_agree {t u sub : List UInt8} {m i : Nat} (h : u.take m = t.take m) (hm : m ≤ t.length) (hi : i + sub.length ≤ m) : Lib.occAt u sub i = Lib.occAt t sub i := by
  rw [Lib.occAt_iff_take _ _ _ (by have := agree_len h hm; omega), Lib.occAt_iff_take _ _ _ (by omega)]
  have := agree_drop (agree_le h hi) (show i ≤ i + sub.length by omega)
  rw [show i + sub.length - i = sub.length from by omega] at this
  rw [this]
theorem index_agree {t u sub : List UInt8} {m : Nat} (h : u.take m = t.take m) (hm : m ≤ t.length) (h0 : 0 ≤ Lib.index t sub) (hs : Lib.index t sub + sub.length ≤ m) : Lib.index u sub = Lib.index t sub := by
  rcases Lib.index_spec t sub with h1 | ⟨i, h1, h2, h3, h4⟩
  · omega
  · rw [h1] at hs ⊢
    have hu := agree_len h hm
    refine Lib.index_first (by omega) (by rw [occ_agree h hm (by omega)]; exact h3) fun j hj => ?_
    rw [occ_agree h hm (by omega)]
    exact h4 j hj
theorem named_agree {t u : List UInt8} {two : UInt8} {m : Nat} {x : It} (h : u.take m = t.take m) (hm : m ≤ t.length) (hx : namedT two t = .ok x) (hl : x.2.2.2 ≤ m + 2) : namedT two u = .ok x := by
  unfold namedT at hx
  split at hx
  · cases hx
  · rename_i h1
    have h1 : 0 ≤ Lib.index t [two, 93] := by omega
    have hlen : Lib.index t [two, 93] + 4 ≤ (m : Int) + 2 := by
      split at hx
      · split at hx
        · injection hx with hx; subst hx; simp only at hl; omega
        · cases hx
      · split at hx
        · injection hx with hx; subst hx; simp only at hl; omega
        · cases hx
    have hi := index_agree (sub := [two, 93]) h hm h1 (by simp only [List.length_cons, List.length_nil]; omega)
    have hn : nameB u (Lib.index t [two, 93]).toNat = nameB t (Lib.index t [two, 93]).toNat := by
      unfold nameB
      rw [agree_le h (by omega)]
    have hh : (Lib.index t [two, 93]).toNat = 1 → u.headD 0 = t.headD 0 := fun h2 => by
      have := agree_at h (show 0 < m by omega)
      rw [List.headD_eq_head?_getD, List.headD_eq_head?_getD, List.head?_eq_getElem?, List.head?_eq_getElem?, this]
    unfold namedT
    rw [hi, hn, if_neg (by omega)]
    split at hx
    · rename_i h2
      rw [if_pos h2]
      exact hx
    · rename_i h2
      rw [if_neg h2]
      split at hx
      · rename_i h3
        rw [if_pos h3, hh h3]; exact hx
      · cases hx
theorem read_agree {t u : List UInt8} {m : Nat} {x : It} (h : u.take m = t.take m) (hm : m ≤ t.length) (hx : readT t = .ok x) (hl : x.2.2.2 + 1 ≤ m) : readT u = .ok x := by
  have hx1 := readT_len hx
  have hu := agree_len h hm
  obtain ⟨a, b, t, rfl⟩ : ∃ a b r, t = a :: b :: r := by
    match t, hm with
    | [], h => rw [List.length_nil] at h; omega
    | [a], h => rw [List.length_singleton] at h; omega
    | a :: b :: r, _ => exact ⟨a, b, r, rfl⟩
  obtain ⟨a', b', u, rfl⟩ : ∃ a b r, u = a :: b :: r := by
    match u, hu with
    | [], h => rw [List.length_nil] at h; omega
    | [a], h => rw [List.length_singleton] at h; omega
    | a :: b :: r, _ => exact ⟨a, b, r, rfl⟩
  have e0 := agree_at h (show 0 < m by omega)
  have e1 := agree_at h (show 1 < m by omega)
  simp at e0 e1
  subst e0 e1
  have hx : readC a' b' (b' :: t) = .ok x := hx
  show readC a' b' (b' :: u) = .ok x
  unfold readC at hx ⊢
  split at hx
  · rename_i h1
    rw [if_pos h1]
    have := agree_drop h (show 2 ≤ m by omega)
    simp only [List.drop_succ_cons, List.drop_zero] at this hx ⊢
    refine named_agree this ?_ hx (by omega)
    simp only [List.length_cons] at hm
    omega
  · rename_i h1
    rw [if_neg h1]
    split at hx
    · rename_i h2; rw [if_pos h2]; exact hx
    · rename_i h2; rw [if_neg h2]; exact hx
theorem dash_agree {t u : List UInt8} {m l : Nat} (h : u.take m = t.take m) (hm : m ≤ t.length) (hl : l + 2 ≤ m ∨ (l + 1 ≤ m ∧ hd93 (t.drop l) = true)) : isD (u.drop l) = isD (t.drop l) := by
  have hu := agree_len h hm
  obtain ⟨x, hx⟩ : ∃ x, t[l]? = some x := ⟨_, List.getElem?_eq_getElem (by omega)⟩
  have hx' : u[l]? = some x := by rw [agree_at h (by omega), hx]
  rw [drop_at hx, drop_at hx']
  rw [drop_at hx] at hl
  rcases hl with hl | ⟨_, hl⟩
  · obtain ⟨y, hy⟩ : ∃ x, t[l + 1]? = some x := ⟨_, List.getElem?_eq_getElem (by omega)⟩
    have hy' : u[l + 1]? = some y := by rw [agree_at h (by omega), hy]
    rw [drop_at hy, drop_at hy']
    rfl
  · have hl : x.toNat = 93 := of_decide_eq_true hl
    have : ∀ r, isD (x :: r) = false := fun r => by
      show (decide (x.toNat = 45) && _) = false
      rw [decide_eq_false (show ¬ x.toNat = 45 by omega)]; rfl
    rw [this, this]
theorem part_agree {t u : List UInt8} {m l : Nat} {s : SetT} (h : u.take m = t.take m) (hm : m ≤ t.length) (hp : partT t = .ok (s, l)) (hl : l + 2 ≤ m ∨ (l + 1 ≤ m ∧ hd93 (t.drop l) = true)) : partT u = .ok (s, l) := by
  unfold partT at hp
  cases hr : readT t with
  | error e => rw [hr] at hp; cases hp
  | ok x =>
    rw [hr] at hp
    have hp : partC t x = .ok (s, l) := hp
    have hxl : x.2.2.2 ≤ l ∧ (isD (t.drop x.2.2.2) = false → x.2.2.2 = l) ∧ (isD (t.drop x.2.2.2) = true → x.2.2.2 + 2 ≤ l) := by
      unfold partC at hp
      split at hp
      · rename_i h1
        have : x.2.2.2 = l := by split at hp <;> (injection hp with hp; injection hp)
        exact ⟨by omega, fun _ => this, fun h => by rw [h1] at h; cases h⟩
      · rename_i h1
        split at hp
        · cases hp
        · cases hr2 : readT (t.drop (x.2.2.2 + 1)) with
          | error e => rw [hr2] at hp; cases hp
          | ok y =>
            rw [hr2] at hp
            simp only at hp
            have h2 := readT_len hr2
            split at hp
            · cases hp
            · injection hp with hp
              injection hp with _ hp
              exact ⟨by omega, fun h => absurd h h1, fun _ => by omega⟩
    have hru := read_agree h hm hr (by omega)
    have hdu : isD (u.drop x.2.2.2) = isD (t.drop x.2.2.2) := by
      by_cases hd : isD (t.drop x.2.2.2) = false
      · have e := hxl.2.1 hd
        exact dash_agree h hm (by rw [e]; exact hl)
      · exact dash_agree h hm (Or.inl (by have := hxl.2.2 (by simpa using hd); omega))
    unfold partT
    rw [hru]
    show partC u x = _
    unfold partC at hp ⊢
    rw [hdu]
    split at hp
    · rename_i h1; rw [if_pos h1]; exact hp
    · rename_i h1
      rw [if_neg h1]
      split at hp
      · cases hp
      · rename_i h2
        rw [if_neg h2]
        cases hr2 : readT (t.drop (x.2.2.2 + 1)) with
        | error e => rw [hr2] at hp; cases hp
        | ok y =>
          rw [hr2] at hp
          simp only at hp
          have hyl : x.2.2.2 + 1 + y.2.2.2 = l := by
            split at hp
            · cases hp
            · injection hp with hp; injection hp
          have := read_agree (agree_drop h (show x.2.2.2 + 1 ≤ m by omega)) (by rw [List.length_drop]; omega) hr2 (by omega)
          rw [this]
          exact hp
theorem hd_agree {t u : List UInt8} {m : Nat} (h : u.take m = t.take m) (hm : m ≤ t.length) (h1 : 1 ≤ m) : hd93 u = hd93 t := by
  have hu := agree_len h hm
  have e := agree_at h (show 0 < m by omega)
  cases t with
  | nil => rw [List.length_nil] at hm; omega
  | cons a t =>
    cases u with
    | nil => rw [List.length_nil] at hu; omega
    | cons b u => simp at e; subst e; rfl
theorem loop_agree (n : Nat) : ∀ (first : Bool) (t : List UInt8) (s : SetT) (len : Nat) (S : SetT) (L : Nat), loopT n first t s len = .ok (S, L) →
    len + 1 ≤ L ∧ L - len ≤ t.length ∧ (L = len + 1 → hd93 t = true) ∧ ∀ (u : List UInt8) (n' : Nat), L - len ≤ n' → u.take (L - len) = t.take (L - len) → loopT n' first u s len = .ok (S, L) := by
  induction n with
  | zero => intro first t s len S L h; cases h
  | succ n ih =>
    intro first t s len S L h
    rw [loopT_succ] at h
    by_cases h1 : first = false ∧ hd93 t = true
    · rw [if_pos h1] at h
      injection h with h
      injection h with h2 h3
      subst h2 h3
      have htl : 1 ≤ t.length := by
        cases t with
        | nil => exact absurd h1.2 (by decide)
        | cons a t => rw [List.length_cons]; omega
      refine ⟨by omega, by omega, fun _ => h1.2, fun u n' hn hu => ?_⟩
      obtain ⟨n', rfl⟩ : ∃ j, n' = j + 1 := ⟨n' - 1, by omega⟩
      rw [loopT_succ, if_pos ⟨h1.1, by rw [hd_agree hu (by omega) (by omega)]; exact h1.2⟩]
    · rw [if_neg h1] at h
      cases hp : partT t with
      | error e => rw [hp] at h; cases h
      | ok x =>
        rw [hp] at h
        simp only at h
        have hxl := partT_len (s := x.1) (l := x.2) hp
        obtain ⟨k1, k2, k3, k4⟩ := ih _ _ _ _ _ _ h
        rw [List.length_drop] at k2
        refine ⟨by omega, by omega, fun e => by omega, fun u n' hn hu => ?_⟩
        obtain ⟨n', rfl⟩ : ∃ j, n' = j + 1 := ⟨n' - 1, by omega⟩
        have hpu := part_agree hu (by omega) (s := x.1) (l := x.2) hp (by
          by_cases e : L = len + x.2 + 1
          · exact Or.inr ⟨by omega, k3 e⟩
          · exact Or.inl (by omega))
        rw [loopT_succ, hd_agree hu (by omega) (by omega), if_neg h1, hpu]
        simp only
        refine k4 _ _ (by omega) ?_
        have := agree_drop hu (show x.2 ≤ L - len by omega)
        rwa [show L - len - x.2 = L - (len + x.2) from by omega] at this
theorem loop_err (n : Nat) : ∀ (first : Bool) (t : List UInt8) (s : SetT) (len : Nat) (e : Int), loopT n first t s len = .error e → e ≠ 0 := by
  induction n with
  | zero => intro first t s len e h; injection h with h; subst h; decide
  | succ n ih =>
    intro first t s len e h
    rw [loopT_succ] at h
    split at h
    · cases h
    · cases hp : partT t with
      | error e' => rw [hp] at h; injection h with h; subst h; exact partT_err hp
      | ok x => rw [hp] at h; exact ih _ _ _ _ _ h
theorem loop_local (t : List UInt8) (S : SetT) (L : Nat) (h : loopT (t.length + 1) true t z4 0 = .ok (S, L)) : 1 ≤ L ∧ L ≤ t.length ∧ (∀ u : List UInt8, u.take L = t.take L → loopT (u.length + 1) true u z4 0 = .ok (S, L)) ∧ ∀ m, m < L → ∃ e, loopT ((t.take m).length + 1) true (t.take m) z4 0 = .error e := by
  obtain ⟨k1, k2, _, k4⟩ := loop_agree _ _ _ _ _ _ _ h
  refine ⟨by omega, by omega, fun u hu => ?_, fun m hm => ?_⟩
  · have := agree_len hu (by omega)
    exact k4 u _ (by omega) (by rwa [Nat.sub_zero])
  · cases hq : loopT ((t.take m).length + 1) true (t.take m) z4 0 with
    | error e => exact ⟨e, rfl⟩
    | ok y =>
      obtain ⟨q1, q2, _, q4⟩ := loop_agree _ _ _ _ _ y.1 y.2 hq
      rw [List.length_take] at q2
      have := q4 t (t.length + 1) (by omega) (by rw [List.take_take, Nat.min_eq_left (by omega)])
      rw [h] at this
      injection this with this
      injection this with _ this
      omega
end Go.Proofs.Ytpddiffpanihdaa
