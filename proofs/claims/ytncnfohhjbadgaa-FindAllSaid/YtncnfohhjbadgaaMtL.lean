
/- The reference's ways. -/
import Derived.Test.YtncnfohhjbadgaaMtK
namespace Go.Proofs.Ytncnfohhjbadgaa
def FDof (a0 most : Int) (x : Bst × Int) : Bool × Sp × Int × Int × Int := (x.1.1, x.1.2, x.2, most, a0)
def RS1 (re : List ND) (g : Int) (tx : List UInt8) (a0 most : Int) (m : Nat) (o : Bool × Sp × Int × Int × Int) (x2 : List ND × Int) (x3 : List UInt8) (x4 : Int) (x5 : Sp) (x6 : List (Int × Int × Int × Int)) (r : Bool × Sp × Int × Int × Int) : Prop :=
  ∃ (k : Nat) (s : Bst × Int), m = 2 * k + 1 ∧ o = FDof a0 most s ∧ x2 = (re, g) ∧ tx = x3 ∧ KOk re g tx a0 (x4, x5, x6) ∧ most - s.2 ≤ k ∧ (k : Int) ≤ most + 1 ∧ 0 ≤ s.2 ∧ s.2 ≤ 2 * most + 2 ∧ (x6.length : Int) + k ≤ most + 4 ∧
    r = FDof a0 most (waysF re tx a0 most k s (x4, x5, x6))
def RS2 (re : List ND) (g : Int) (tx : List UInt8) (a0 most : Int) (m : Nat) (o : Bool × Sp × Int × Int × Int) (x2 : List ND × Int) (x3 : List UInt8) (x4 : Int) (x5 : Sp) (n : ND) (x7 : List (Int × Int × Int × Int)) (r : Bool × Sp × Int × Int × Int) : Prop :=
  ∃ (k : Nat) (s : Bst × Int) (i : Int), m = 2 * k + 2 ∧ o = FDof a0 most s ∧ x2 = (re, g) ∧ tx = x3 ∧ KOk re g tx a0 (x4, x5, x7) ∧ 0 ≤ i ∧ i < re.length ∧ re[i.toNat]? = some n ∧ n.1 ≠ 4 ∧ most - s.2 ≤ k ∧ (k : Int) ≤ most ∧ 0 ≤ s.2 ∧ s.2 ≤ most ∧ (x7.length : Int) + k ≤ most + 2 ∧
    r = FDof a0 most ((kidsN re tx (x4, x5, x7) i).foldl (waysF re tx a0 most k) s)
theorem ways_next {re : List ND} {tx : List UInt8} {a0 most : Int} {k : Nat} {s : Bst × Int} (v : Wy) (h1 : 0 ≤ s.2) (h2 : s.2 ≤ most) (h3 : (k : Int) ≤ most) : s.2 ≤ (waysF re tx a0 most k s v).2 ∧ (waysF re tx a0 most k s v).2 ≤ 2 * most + 2 := by
  have e1 := ways_up (re := re) (tx := tx) (a0 := a0) (most := most) k s v
  have e2 := ways_cost (re := re) (tx := tx) (a0 := a0) (most := most) k s v
  refine ⟨e1, ?_⟩
  split at e2 <;> omega
theorem rec_ok (re : List ND) (g : Int) (tx : List UInt8) (a0 most : Int) (hn : NOk re g) (hg : g ≤ 9) (ha : 0 ≤ a0) (htx : tx.length ≤ 100000000) (hm0 : 0 ≤ most) (hm : most ≤ 100000000) : rec_palinoderef11_Ways_H (RS1 re g tx a0 most) (RS2 re g tx a0 most) := by
  constructor
  · rintro m o x2 x3 x4 x5 x6 r ⟨k, s, rfl, rfl, rfl, rfl, hw, hk, hkm, hs0, hs1, hlen, rfl⟩
    unfold palinoderef11_Ways_B
    cases x6 with
    | nil =>
      refine split_ (fun _ => ?_) fun q => absurd rfl q
      rw [ways_hit rfl]
      refine atA (by omega) (by omega) fun x hx => split_ (fun h => ?_) fun h => ?_
      · have h' : ¬ s.1.1 = true := h
        have e : note s.1 (hitW a0 (x4, x5, [])) = (true, hitW a0 (x4, x5, [])) := by unfold note; rw [if_neg fun q => h' q.1]
        rw [e]
        exact split_ (fun _ => rfl) fun q => absurd rfl q
      · have h' : s.1.1 = true := Classical.not_not.1 h
        refine ⟨_, rbetter_ok _ _, ?_⟩
        show palinoderef11_Ways_j2 _ _ _ (betterM (hitW a0 (x4, x5, [])) s.1.2) _
        refine split_ (fun hb => ?_) fun hb => ?_
        · have e : note s.1 (hitW a0 (x4, x5, [])) = (true, hitW a0 (x4, x5, [])) := by unfold note; rw [if_neg fun q => by rw [hb] at q; cases q.2]
          rw [e]; rfl
        · have e : note s.1 (hitW a0 (x4, x5, [])) = s.1 := by unfold note; rw [if_pos ⟨h', Bool.eq_false_iff.2 hb⟩]
          rw [e]
          show _ = _
          unfold FDof
          rw [h']
    | cons c tl =>
      refine split_ (fun q => absurd q (by simp only [List.length_cons]; omega)) fun _ => ?_
      have hw0 : ((x4, x5, c :: tl) : Wy).2.2 ≠ [] := fun q => by cases q
      refine inR_ (by show _ ≤ s.2 + 1 ∧ s.2 + 1 ≤ _; omega) (split_ (fun h => ?_) fun h => ?_)
      · have h' : most < s.2 + 1 := h
        rw [ways_over hw0 h']; rfl
      have h' : ¬ most < s.2 + 1 := h
      obtain ⟨k', rfl⟩ : ∃ k', k = k' + 1 := ⟨k - 1, by omega⟩
      rw [ways_in hw0 h']
      have hkids := kids_ok hn ha hw
      simp only [List.length_cons, Int.natCast_add, Int.natCast_one] at hlen
      have call : ∀ (s' : Bst × Int) (v : Wy), v ∈ kidsM re tx (x4, x5, c :: tl) → s.2 + 1 ≤ s'.2 → s'.2 ≤ 2 * most + 2 → (v.2.2.length : Int) ≤ tl.length + 2 →
          ∃ m', m' < 2 * (k' + 1) + 1 ∧ RS1 re g tx a0 most m' (FDof a0 most s') (re, g) tx v.1 v.2.1 v.2.2 (FDof a0 most (waysF re tx a0 most k' s' v)) := by
        intro s' v hv h1 h2 h3
        exact ⟨2 * k' + 1, by omega, k', s', rfl, rfl, rfl, rfl, hkids v hv, by omega, by omega, by omega, h2, by omega, rfl⟩
      have ht : TOk re g a0 x4 c := hw.1.2.2.2 c (List.mem_cons_self ..)
      have hc0 := hw.2 c (List.mem_cons_self ..)
      have hw' : KOk re g tx a0 (x4, x5, tl) := ⟨hw.1.row fun t h => hw.1.2.2.2 t (List.mem_cons_of_mem _ h), fun t h => hw.2 t (List.mem_cons_of_mem _ h)⟩
      refine ⟨by decide, c, rfl, ⟨by decide, by simp only [List.length_cons]; omega⟩, ?_⟩
      -- the two ways to the rest: with the node read or not
      have one : c.1 = 1 → ∀ f65 f66 f67 f68 f69 f70 f71, palinoderef11_Ways_j3 c x5 (fun a0_1 a1 a2 a3 a4 a5 r => ∃ m', m' < 2 * (k' + 1) + 1 ∧ RS1 re g tx a0 most m' a0_1 a1 a2 a3 a4 a5 r) (FDof a0 most s) (re, g) tx x4 (c :: tl)
          (fun a0_1 a1 a2 a3 a4 a5 a6 r => ∃ m', m' < 2 * (k' + 1) + 1 ∧ RS2 re g tx a0 most m' a0_1 a1 a2 a3 a4 a5 a6 r) f65 f66 f67 f68 f69 f70 f71
          (FDof a0 most ((kidsM re tx (x4, x5, c :: tl)).foldl (waysF re tx a0 most k') (s.1, s.2 + 1))) := by
        intro h1 f65 f66 f67 f68 f69 f70 f71
        have hkd : kidsM re tx (x4, x5, c :: tl) = [(x4, Arr.set x5 c.2.1.toNat (c.2.2.2, x4), tl)] := by simp only [kidsM]; rw [if_pos h1]
        obtain ⟨_, h2, h3, _⟩ : c.1 = 1 ∧ 1 ≤ c.2.1 ∧ c.2.1 ≤ g ∧ _ := ht.elim (fun h => absurd h.1 (by omega)) fun h => h.elim id fun h => absurd h.1 (by omega)
        refine split_ (fun _ => ?_) fun q => absurd h1 q
        refine atA (by omega) (by omega) fun x hx => ⟨_, call (s.1, s.2 + 1) (x4, Arr.set x5 c.2.1.toNat (c.2.2.2, x4), tl) (by rw [hkd]; exact List.mem_singleton.2 rfl) (Int.le_refl _) (by show s.2 + 1 ≤ _; omega) (by show (tl.length : Int) ≤ _; omega), ?_⟩
        rw [hkd]; rfl
      refine split_ (fun h1 => ?_) fun h1 => ?_
      · have hi : 0 ≤ c.2.1 ∧ c.2.1 < re.length := ht.elim (fun h => h.2) fun h => h.elim (fun h => absurd h.1 h1) fun h => ⟨h.2.2.1, h.2.2.2.1⟩
        refine at_ hi.1 hi.2 fun n hx => ?_
        have hx' : re[c.2.1.toNat]? = some n := hx
        refine split_ (fun q => absurd q h1) fun _ => ?_
        have tim : n.1 = 4 → ¬ (c.1 = 2 ∧ x4 = c.2.2.2) → kidsM re tx (x4, x5, c :: tl) = kidsT re (x4, x5, tl) c.2.1 c.2.2.1 := by
          intro h4 hnot
          simp only [kidsM]
          rw [if_neg h1]
          by_cases h2 : c.1 = 2
          · rw [if_pos h2, if_neg fun q => hnot ⟨h2, q⟩]
          · rw [if_neg h2]
            have hc1 : c.1 = 0 := ht.elim (fun h => h.1) fun h => h.elim (fun h => absurd h.1 h1) fun h => absurd h.1 h2
            rw [hc0 hc1]
            unfold kidsN
            rw [hx']
            simp only
            rw [if_neg (by omega), if_neg (by omega), if_neg (by omega), if_neg (by omega), if_neg (by omega), if_neg (by omega), if_neg (by omega), if_pos h4]
        unfold palinoderef11_Ways_j4
        refine split_ (fun h2 => ?_) fun h2 => ?_
        · simp only [Bool.and_eq_true, decide_eq_true_eq] at h2
          have hkd : kidsM re tx (x4, x5, c :: tl) = if c.2.2.1 ≤ n.2.2.2.1 then [(x4, x5, tl)] else [] := by
            simp only [kidsM]
            rw [if_neg h1, if_pos h2.1, if_pos h2.2, hx']
          refine split_ (fun h3 => ?_) fun h3 => ?_
          · rw [if_pos h3] at hkd
            refine ⟨_, call (s.1, s.2 + 1) (x4, x5, tl) (by rw [hkd]; exact List.mem_singleton.2 rfl) (Int.le_refl _) (by show s.2 + 1 ≤ _; omega) (by show (tl.length : Int) ≤ _; omega), ?_⟩
            rw [hkd]; rfl
          · rw [if_neg h3] at hkd
            rw [hkd]; rfl
        · simp only [Bool.and_eq_true, decide_eq_true_eq] at h2
          refine split_ (fun h4 => ?_) fun h4 => ?_
          · have hkd := tim h4 h2
            unfold kidsT at hkd
            rw [hx'] at hkd
            simp only at hkd
            have hk0 : 0 ≤ c.2.2.1 ∧ c.2.2.1 ≤ 200000000 := by
              have w2 : x4 ≤ tx.length := hw.1.2.1
              rcases ht with h | h | ⟨_, _, _, _, q5, q6, q7⟩
              · rw [hc0 h.1]; omega
              · exact absurd h.1 h1
              · omega
            have j5 : ∀ s' : Bst × Int, s.2 + 1 ≤ s'.2 → s'.2 ≤ 2 * most + 2 → (∀ v ∈ (if n.2.2.2.1 ≤ c.2.2.1 then [(x4, x5, tl)] else []), v ∈ kidsM re tx (x4, x5, c :: tl)) →
                palinoderef11_Ways_j5 n.2.2.2.1 c (fun a0_1 a1 a2 a3 a4 a5 r => ∃ m', m' < 2 * (k' + 1) + 1 ∧ RS1 re g tx a0 most m' a0_1 a1 a2 a3 a4 a5 r) (re, g) tx x4 x5 (c :: tl) s'.1.1 s'.1.2 s'.2 most a0
                  (FDof a0 most ((if n.2.2.2.1 ≤ c.2.2.1 then [((x4, x5, tl) : Wy)] else []).foldl (waysF re tx a0 most k') s')) := by
              intro s' q1 q2 q3
              refine split_ (fun h => ?_) fun h => ?_
              · rw [if_pos h] at q3 ⊢
                exact ⟨_, call s' (x4, x5, tl) (q3 _ (List.mem_singleton.2 rfl)) q1 q2 (by show (tl.length : Int) ≤ _; omega), rfl⟩
              · rw [if_neg h]; rfl
            unfold palinoderef11_Ways_j6
            refine split_ (fun h5 => ?_) fun h5 => ?_
            · simp only [Bool.or_eq_true, decide_eq_true_eq] at h5
              rw [if_pos h5] at hkd
              have hv1 : ((x4, x5, (0, n.2.1, 0, 0) :: (2, c.2.1, c.2.2.1 + 1, x4) :: tl) : Wy) ∈ kidsM re tx (x4, x5, c :: tl) := by rw [hkd]; exact List.mem_append_left _ (List.mem_singleton.2 rfl)
              have nx := ways_next (re := re) (tx := tx) (a0 := a0) (most := most) (k := k') (s := (s.1, s.2 + 1)) (x4, x5, (0, n.2.1, 0, 0) :: (2, c.2.1, c.2.2.1 + 1, x4) :: tl) (by show 0 ≤ s.2 + 1; omega) (by show s.2 + 1 ≤ most; omega) (by omega)
              refine inR_ (by omega) ⟨_, row_ok tl _ (by omega) (by simp), _, call (s.1, s.2 + 1) _ hv1 (Int.le_refl _) (by show s.2 + 1 ≤ _; omega) (by simp only [List.length_cons]; omega), ?_⟩
              have := j5 _ nx.1 nx.2 (fun v hv => by rw [hkd]; exact List.mem_append_right _ hv)
              rw [hkd, List.foldl_append]
              exact this
            · simp only [Bool.or_eq_true, decide_eq_true_eq] at h5
              rw [if_neg h5, List.nil_append] at hkd
              have := j5 (s.1, s.2 + 1) (Int.le_refl _) (by show s.2 + 1 ≤ _; omega) (fun v hv => by rw [hkd]; exact hv)
              rw [hkd]
              exact this
          · have hc2 : ¬ c.1 = 2 := fun q => by
              rcases ht with h | h | h
              · omega
              · omega
              · exact h4 (h.2.1 n hx')
            have hkd : kidsM re tx (x4, x5, c :: tl) = kidsN re tx (x4, x5, tl) c.2.1 := by
              simp only [kidsM]
              rw [if_neg h1, if_neg hc2]
            rw [hkd]
            exact ⟨_, ⟨2 * k' + 2, by omega, k', (s.1, s.2 + 1), c.2.1, rfl, rfl, rfl, rfl, hw', hi.1, hi.2, hx', h4, by show most - (s.2 + 1) ≤ _; omega, by omega, by show 0 ≤ s.2 + 1; omega, by show s.2 + 1 ≤ most; omega, by show (tl.length : Int) + k' ≤ most + 2; omega, rfl⟩, rfl⟩
      · exact one (Classical.not_not.1 h1) ..
  · rintro m o x2 x3 x4 x5 n x7 r ⟨k, s, i, rfl, rfl, rfl, rfl, hw, hi0, hi, hx, h4, hk, hkm, hs0, hs1, hlen, rfl⟩
    have hkids := kidsN_ok hn ha hw hi0 hi
    have w1 := hw.1.1
    have w2 : x4 ≤ tx.length := hw.1.2.1
    have w1' : a0 ≤ x4 := w1
    have call : ∀ (s' : Bst × Int) (v : Wy), v ∈ kidsN re tx (x4, x5, x7) i → s.2 ≤ s'.2 → s'.2 ≤ 2 * most + 2 → (v.2.2.length : Int) ≤ x7.length + 2 →
        ∃ m', m' < 2 * k + 2 ∧ RS1 re g tx a0 most m' (FDof a0 most s') (re, g) tx v.1 v.2.1 v.2.2 (FDof a0 most (waysF re tx a0 most k s' v)) := by
      intro s' v hv h1 h2 h3
      exact ⟨2 * k + 1, by omega, k, s', rfl, rfl, rfl, rfl, hkids v hv, by omega, by omega, by omega, h2, by omega, rfl⟩
    have lone : ∀ v : Wy, kidsN re tx (x4, x5, x7) i = [v] → (v.2.2.length : Int) ≤ x7.length + 2 → ∃ y, (∃ m', m' < 2 * k + 2 ∧ RS1 re g tx a0 most m' (FDof a0 most s) (re, g) tx v.1 v.2.1 v.2.2 y) ∧ FDof a0 most ((kidsN re tx (x4, x5, x7) i).foldl (waysF re tx a0 most k) s) = y := by
      intro v hv hl
      refine ⟨_, call s v (by rw [hv]; exact List.mem_singleton.2 rfl) (Int.le_refl _) (by omega) hl, ?_⟩
      rw [hv]; rfl
    have nol : kidsN re tx (x4, x5, x7) i = [] → FDof a0 most ((kidsN re tx (x4, x5, x7) i).foldl (waysF re tx a0 most k) s) = FDof a0 most s := fun q => by rw [q]; rfl
    obtain ⟨n1, n2, n3⟩ := hn _ _ hx
    have hkn := kidsN_eq (tx := tx) (w := (x4, x5, x7)) hx
    simp only at hkn
    unfold palinoderef11_node_B
    refine split_ (fun k1 => ?_) fun k1 => ?_
    · rw [if_pos k1] at hkn
      refine split_ (fun h => ?_) fun h => ?_
      · rw [if_neg (by omega)] at hkn
        refine at_ (by omega) h fun c hc => ⟨_, rhas_ok _ _, ?_⟩
        rw [hc] at hkn
        unfold palinoderef11_node_j1
        refine split_ (fun hm => ?_) fun hm => ?_
        · simp only [if_pos hm] at hkn
          exact inR_ (by omega) (lone _ hkn (by show (x7.length : Int) ≤ _; omega))
        · simp only [if_neg hm] at hkn
          exact nol hkn
      · rw [if_pos (by omega)] at hkn
        exact split_ (fun q => by cases q) fun _ => nol hkn
    rw [if_neg k1] at hkn
    refine split_ (fun k2 => ?_) fun k2 => ?_
    · rw [if_pos k2] at hkn
      exact ⟨_, row_ok _ _ (by omega) (by simp), lone _ hkn (by simp only [List.length_cons]; omega)⟩
    rw [if_neg k2] at hkn
    refine split_ (fun k3 => ?_) fun k3 => ?_
    · rw [if_pos k3] at hkn
      have nx := ways_next (re := re) (tx := tx) (a0 := a0) (most := most) (k := k) (s := s) (x4, x5, (0, n.2.1, 0, 0) :: x7) hs0 hs1 hkm
      refine ⟨_, row_ok _ _ (by omega) (by simp), _, call s (x4, x5, (0, n.2.1, 0, 0) :: x7) (by rw [hkn]; exact List.mem_cons_self ..) (Int.le_refl _) (by omega) (by simp only [List.length_cons]; omega), _, row_ok _ _ (by omega) (by simp), _, call _ (x4, x5, (0, n.2.2.1, 0, 0) :: x7) (by rw [hkn]; exact List.mem_cons_of_mem _ (List.mem_cons_self ..)) nx.1 nx.2 (by simp only [List.length_cons]; omega), ?_⟩
      rw [hkn]; rfl
    rw [if_neg k3] at hkn
    refine split_ (fun k5 => ?_) fun k5 => ?_
    · rw [if_pos k5] at hkn
      exact ⟨_, row_ok _ _ (by omega) (by simp), lone _ hkn (by simp only [List.length_cons]; omega)⟩
    rw [if_neg k5] at hkn
    refine split_ (fun k6 => ?_) fun k6 => ?_
    · rw [if_pos k6] at hkn
      have hgr := n2 (.inr k6)
      refine atA (by omega) (by omega) fun x hxx => ?_
      rw [hxx] at hkn
      simp only at hkn
      have hsp := hw.1.2.2.1 _ x (by omega) hxx
      refine ⟨_, rsame_ok tx x x4 (by omega) (by omega) w2 (hsp.imp id fun ⟨_, q2, q3, q4⟩ => ⟨by omega, q3, by show x.2 ≤ _; have : x.2 ≤ x4 := q4; omega⟩), ?_⟩
      unfold sameM
      by_cases hf : x.1 < 0
      · rw [if_pos hf] at hkn ⊢
        exact split_ (fun q => absurd q (by decide)) fun _ => nol hkn
      rw [if_neg hf] at hkn ⊢
      obtain ⟨_, p2, p3, p4⟩ := hsp.resolve_left fun e => by rw [e] at hf; exact hf (by decide)
      split at hkn
      · rename_i hp
        rw [if_pos hp]
        refine split_ (fun _ => ?_) fun q => absurd (by omega) q
        rw [show x4 + x.2 - x.1 = x4 + (x.2 - x.1) by omega]
        exact lone _ hkn (by show (x7.length : Int) ≤ _; omega)
      · rename_i hp
        rw [if_neg hp]
        exact split_ (fun q => absurd q (by decide)) fun _ => nol hkn
    rw [if_neg k6] at hkn
    have self : (((x4, x5, x7) : Wy).2.2.length : Int) ≤ x7.length + 2 := by show (x7.length : Int) ≤ _; omega
    refine split_ (fun k7 => ?_) fun k7 => ?_
    · rw [if_pos k7] at hkn
      refine split_ (fun h => ?_) fun h => ?_
      · rw [if_pos h] at hkn; exact lone _ hkn self
      · rw [if_neg h] at hkn; exact nol hkn
    rw [if_neg k7] at hkn
    refine split_ (fun k8 => ?_) fun k8 => ?_
    · rw [if_pos k8] at hkn
      refine split_ (fun h => ?_) fun h => ?_
      · rw [if_pos h] at hkn; exact lone _ hkn self
      · rw [if_neg h] at hkn; exact nol hkn
    rw [if_neg k8, if_neg h4] at hkn
    exact lone _ hkn self
theorem rat_ok (re : List ND) (g : Int) (tx : List UInt8) (a f : Int) (hr : rightB re g = true) (htx : tx.length ≤ 100000000) (h0 : 0 ≤ a) (h1 : a ≤ tx.length) (hf : 0 ≤ f) (hf2 : f ≤ 100000000) : palinoderef11_At_R (re, g) tx a f (refAt re tx a f) := by
  obtain ⟨hn, g0, g9, hl⟩ := right_nodes hr
  have hlen : re.length ≤ 1000 := by
    unfold rightB at hr
    simp only [Bool.and_eq_true, decide_eq_true_eq] at hr
    exact hr.1.1.1.1.1.2
  refine ⟨_, none_ok, inR_ (by show _ ≤ (re.length : Int) - 1 ∧ (re.length : Int) - 1 ≤ _; omega) ⟨FDof a f (waysF re tx a f (f.toNat + 1) ((false, Arr.rep 10 (0, 0)), 0) (a, sp0, [(0, (re.length : Int) - 1, 0, 0)])), ?_, ?_⟩⟩
  · exact ⟨_, _, rec_ok re g tx a f hn g9 h0 htx hf hf2, 2 * (f.toNat + 1) + 1, f.toNat + 1, ((false, Arr.rep 10 (0, 0)), 0), rfl, rfl, rfl, rfl, start_k hl h0 h1, by show f - 0 ≤ _; omega, by omega, by show (0 : Int) ≤ 0; omega, by show (0 : Int) ≤ _; omega, by simp only [List.length_cons, List.length_nil]; omega, rfl⟩
  · unfold refAt FDof
    simp only
    have := ways_cost (re := re) (tx := tx) (a0 := a) (most := f) (f.toNat + 1) ((false, Arr.rep 10 (0, 0)), 0) (a, sp0, [(0, (re.length : Int) - 1, 0, 0)])
    have hup := ways_up (re := re) (tx := tx) (a0 := a) (most := f) (f.toNat + 1) ((false, Arr.rep 10 (0, 0)), 0) (a, sp0, [(0, (re.length : Int) - 1, 0, 0)])
    have hup' : 0 ≤ (waysF re tx a f (f.toNat + 1) ((false, Arr.rep 10 (0, 0)), 0) (a, sp0, [(0, (re.length : Int) - 1, 0, 0)])).2 := hup
    generalize waysF re tx a f (f.toNat + 1) ((false, Arr.rep 10 (0, 0)), 0) (a, sp0, [(0, (re.length : Int) - 1, 0, 0)]) = y at *
    refine split_ (fun h => by rw [if_pos h]) fun h => ?_
    rw [if_neg h]
    exact inR_ (by omega) rfl
end Go.Proofs.Ytncnfohhjbadgaa
