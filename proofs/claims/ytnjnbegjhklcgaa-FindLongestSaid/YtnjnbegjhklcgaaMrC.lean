
/- The reference's relation does what it says. -/
import Derived.Test.YtnjnbegjhklcgaaMrB
namespace Go.Proofs.Ytnjnbegjhklcgaa
theorem foldl_at {α β : Type} {f : β → α → β} {s : β} {l : List α} {j : Nat} {x : α} (h : l[j]? = some x) : (l.take (j + 1)).foldl f s = f ((l.take j).foldl f s) x := by
  rw [List.take_add_one, h, List.foldl_append]; rfl
theorem with_ok (l : List Pt) (p : Pt) (hl : l.length ≤ 700000000000) : palinoderef11_with_R l p (withM l p) := by
  refine loop_ (fun s m => ∃ i : Nat, s = (i : Int) ∧ i ≤ l.length ∧ m = l.length - i ∧ ∀ j, j < i → l[j]? ≠ some p) _ ⟨0, rfl, by omega, rfl, fun j hj => by omega⟩ ?_
  rintro _ m ⟨i, rfl, hi, rfl, hall⟩
  unfold palinoderef11_with_l1
  refine split_ (fun h => ?_) fun h => ?_
  · refine at_ (by omega) (by omega) fun y hy => ?_
    have hy' : l[i]? = some y := hy
    refine split_ (fun he => ?_) fun he => ?_
    · unfold withM
      have hm : p ∈ l := he ▸ List.mem_of_getElem? hy'
      rw [if_pos hm]
    · refine inR_ (by omega) ⟨l.length - (i + 1), by omega, i + 1, by omega, by omega, rfl, fun j hj e => ?_⟩
      rcases Nat.lt_or_ge j i with h1 | h1
      · exact hall j h1 e
      · obtain rfl : j = i := by omega
        rw [hy'] at e; injection e with e; exact he e
  · have hm : p ∉ l := fun hm => by
      obtain ⟨j, hj⟩ := List.getElem?_of_mem hm
      exact hall j (by have := (List.getElem?_eq_some_iff.1 hj).1; omega) hj
    refine ⟨⟨by simp; unfold maxLen; omega, by simp; omega⟩, ⟨by simp; unfold maxLen; omega, by simp; omega⟩, ?_⟩
    unfold withM
    rw [if_neg hm]; rfl
theorem nod_with {l : List Pt} {p : Pt} (h : l.Nodup) : (withM l p).Nodup := by
  unfold withM
  split
  · exact h
  · rename_i hne
    rw [List.nodup_append]
    exact ⟨h, by simp, fun a ha b hb => by rw [List.mem_singleton.1 hb]; exact fun e => hne (e ▸ ha)⟩
theorem nod_join {m : List Pt} : ∀ {l : List Pt}, l.Nodup → (joinM l m).Nodup := by
  induction m with
  | nil => exact fun h => h
  | cons p m ih => exact fun h => ih (nod_with h)
theorem nod_seq {f : Pt → List Pt} {l : List Pt} : ∀ {o : List Pt}, o.Nodup → (seqM f o l).Nodup := by
  induction l with
  | nil => exact fun h => h
  | cons p m ih => exact fun h => ih (nod_join h)
theorem nod_split {k lo : Int} {p : Pt} {l : List Pt} : ∀ {s : List Pt × List Pt}, s.1.Nodup → s.2.Nodup → (splitM k lo p l s).1.Nodup ∧ (splitM k lo p l s).2.Nodup := by
  induction l with
  | nil => exact fun h1 h2 => ⟨h1, h2⟩
  | cons q l ih =>
    intro s h1 h2
    show (splitM k lo p l (oneM k lo p s q)).1.Nodup ∧ (splitM k lo p l (oneM k lo p s q)).2.Nodup
    refine ih ?_ ?_
    · unfold oneM
      split
      · split
        · exact nod_with h1
        · exact h1
      · exact h1
    · unfold oneM
      split
      · split
        · exact h2
        · exact h2
      · exact nod_with h2
theorem nod_round {f : Pt → List Pt} {k lo : Int} {now : List Pt} : ∀ {s : List Pt × List Pt}, s.1.Nodup → s.2.Nodup → (roundM f k lo now s).1.Nodup ∧ (roundM f k lo now s).2.Nodup := by
  induction now with
  | nil => exact fun h1 h2 => ⟨h1, h2⟩
  | cons q l ih => exact fun h1 h2 => ih (nod_split h1 h2).1 (nod_split h1 h2).2
theorem nod_times {f : Pt → List Pt} {lo hi : Int} : ∀ (R : Nat) (k : Int) (out now : List Pt), out.Nodup → (timesR f lo hi R k out now).Nodup
  | 0, _, _, _, h => h
  | R + 1, k, out, now, h => by
    have h1 : (if lo ≤ k then joinM out now else out).Nodup := by
      split
      · exact nod_join h
      · exact h
    unfold timesR
    split
    · exact h
    · split
      · exact h1
      · exact nod_times R _ _ _ (nod_round h1 List.nodup_nil).1
theorem nod_reach {re : List ND} {tx : List UInt8} : ∀ (k : Nat) (i : Int) (p : Pt), (reachM re tx k i p).Nodup
  | 0, _, _ => List.nodup_nil
  | k + 1, i, p => by
    have n1 : ∀ q : Pt, [q].Nodup := fun q => by simp
    unfold reachM
    cases re[i.toNat]? with
    | none => exact List.nodup_nil
    | some n =>
      simp only
      split
      · split
        · exact List.nodup_nil
        · split
          · exact List.nodup_nil
          · split
            · exact n1 _
            · exact List.nodup_nil
      split
      · exact nod_seq List.nodup_nil
      split
      · exact nod_join (nod_reach k _ _)
      split
      · exact nod_times _ _ _ _ List.nodup_nil
      split
      · exact nod_join List.nodup_nil
      split
      · split
        · exact List.nodup_nil
        · split
          · exact List.nodup_nil
          · exact n1 _
      split
      · split
        · exact n1 _
        · exact List.nodup_nil
      split
      · split
        · exact n1 _
        · exact List.nodup_nil
      · exact n1 _
section
variable {re : List ND} {tx : List UInt8} {a0 : Int} {g : Int} {w0 : Wy}
/-- Points of a kind, each once. -/
def GP (P : Pt → Prop) (l : List Pt) : Prop := l.Nodup ∧ ∀ q ∈ l, P q
theorem gp_with {P : Pt → Prop} {l : List Pt} {p : Pt} (h : GP P l) (hp : P p) : GP P (withM l p) := ⟨nod_with h.1, fun q hq => (mem_with.1 hq).elim (h.2 q) fun e => e ▸ hp⟩
def TP (re : List ND) (tx : List UInt8) (w0 : Wy) (i : Int) (q : Pt) : Prop := ∃ kk P tl, Seen re tx w0 (q.1, q.2, (2, i, kk, P) :: tl)
/-- How many points there are at most. -/
def HR (re : List ND) (g : Int) (tx : List UInt8) (a0 : Int) (w0 : Wy) : Prop := ∀ (k : Nat) (i : Int) (p : Pt) tl, i < k → KOk re g tx a0 (p.1, p.2, (0, i, 0, 0) :: tl) → Seen re tx w0 (p.1, p.2, (0, i, 0, 0) :: tl) → ∀ l, GP (fun q => q ∈ reachM re tx k i p) l → l.length ≤ 700000000000
def HT (re : List ND) (tx : List UInt8) (w0 : Wy) : Prop := ∀ (i : Int) n, re[i.toNat]? = some n → n.1 = 4 → ∀ l, GP (TP re tx w0 i) l → l.length ≤ 700000000000
def QS1 (re : List ND) (g : Int) (tx : List UInt8) (a0 : Int) (w0 : Wy) (m : Nat) (x1 : List ND × Int) (x2 : List UInt8) (i : Int) (p : Pt) (r : List Pt) : Prop :=
  ∃ (k : Nat) (tl : List (Int × Int × Int × Int)), m = 2 * k ∧ x1 = (re, g) ∧ x2 = tx ∧ i < k ∧ KOk re g tx a0 (p.1, p.2, (0, i, 0, 0) :: tl) ∧ Seen re tx w0 (p.1, p.2, (0, i, 0, 0) :: tl) ∧ r = reachM re tx k i p
def QS2 (re : List ND) (g : Int) (tx : List UInt8) (a0 : Int) (w0 : Wy) (m : Nat) (x1 : List ND × Int) (x2 : List UInt8) (n : ND) (p : Pt) (r : List Pt) : Prop :=
  ∃ (k : Nat) (i : Int) (tl : List (Int × Int × Int × Int)), m = 2 * k + 1 ∧ x1 = (re, g) ∧ x2 = tx ∧ i < k + 1 ∧ KOk re g tx a0 (p.1, p.2, (0, i, 0, 0) :: tl) ∧ Seen re tx w0 (p.1, p.2, (0, i, 0, 0) :: tl) ∧ re[i.toNat]? = some n ∧ n.1 = 4 ∧
    r = timesR (reachM re tx k n.2.1) n.2.2.2.1 n.2.2.2.2.1 (tx.length + 2) 0 [] [p]
theorem mm_at {α : Type} {l : List α} {i : Nat} {x : α} (h : l[i]? = some x) : x ∈ l := List.mem_of_getElem? h
/-- Points joined one by one. -/
theorem join_at {l m : List Pt} {j : Nat} {x : Pt} (h : m[j]? = some x) : joinM l (m.take (j + 1)) = withM (joinM l (m.take j)) x := foldl_at h
theorem set_take {α : Type} {l : List α} {f : α → α} {j : Nat} {x : α} (h : l[j]? = some x) : ((l.take j).map f ++ l.drop j).set j (f x) = (l.take (j + 1)).map f ++ l.drop (j + 1) := by
  have hj := (List.getElem?_eq_some_iff.1 h).1
  have e : ((l.take j).map f).length = j := by rw [List.length_map, List.length_take]; omega
  rw [List.set_append_right _ _ (by omega), e, Nat.sub_self, List.take_add_one, h]
  have hd : l.drop j = x :: l.drop (j + 1) := by
    rw [List.drop_eq_getElem_cons hj, (List.getElem?_eq_some_iff.1 h).2]
  rw [hd]; simp
theorem at_take {α : Type} {l : List α} {f : α → α} {j : Nat} : ((l.take j).map f ++ l.drop j)[j]? = l[j]? := by
  by_cases hj : j < l.length
  · have e : ((l.take j).map f).length = j := by rw [List.length_map, List.length_take]; omega
    rw [List.getElem?_append_right (by omega), e, Nat.sub_self, List.getElem?_drop, Nat.add_zero]
  · rw [List.getElem?_eq_none (by simp; omega), List.getElem?_eq_none (by omega)]
theorem len_take {α : Type} {l : List α} {f : α → α} {j : Nat} : ((l.take j).map f ++ l.drop j).length = l.length := by simp; omega
theorem qrec1 (hn : NOk re g) (hh : HiOk re) (hg : g ≤ 9) (ha : 0 ≤ a0) (htx : tx.length ≤ 100000000) (hR : HR re g tx a0 w0) (k : Nat) (i : Int) (p : Pt) (tl : List (Int × Int × Int × Int)) (hik : i < ((k + 1 : Nat) : Int)) (hk : KOk re g tx a0 (p.1, p.2, (0, i, 0, 0) :: tl)) (hs : Seen re tx w0 (p.1, p.2, (0, i, 0, 0) :: tl)) :
    palinoderef11_Reach_B (fun x1 x2 i p r => ∃ m', m' < 2 * (k + 1) ∧ QS1 re g tx a0 w0 m' x1 x2 i p r) (fun x1 x2 n p r => ∃ m', m' < 2 * (k + 1) ∧ QS2 re g tx a0 w0 m' x1 x2 n p r) (re, g) tx i p (reachM re tx (k + 1) i p) := by
  have hi := node_in hk
  have hk' : KOk re g tx a0 (p.1, p.2, tl) := hk.tail rfl
  have hp0 : a0 ≤ p.1 := hk.1.1
  have hp1 : p.1 ≤ tx.length := hk.1.2.1
  unfold palinoderef11_Reach_B
  refine at_ hi.1 hi.2 fun n hx => ?_
  have hx' : re[i.toNat]? = some n := hx
  obtain ⟨n1, n2, n3⟩ := hn _ _ hx'
  have er := reach_eq (tx := tx) (k := k) (p := p) hx'
  have hG : ∀ l, GP (fun q => q ∈ reachM re tx (k + 1) i p) l → l.length ≤ 700000000000 := hR (k + 1) i p tl hik hk hs
  have kn := kidsN_eq (tx := tx) (w := (p.1, p.2, tl)) hx'
  have go : kidsM re tx (p.1, p.2, (0, i, 0, 0) :: tl) = kidsN re tx (p.1, p.2, tl) i := rfl
  have pk : ∀ c ∈ partsL n, c < k := fun c hc => by have := n1 c hc; omega
  have pc : ∀ c ∈ partsL n, ∀ b, TOk re g a0 b (0, c, 0, 0) := fun c hc b => tnode (by have := n1 c hc; omega)
  have sp : ∀ c ∈ partsL n, Spec re g tx a0 c (reachM re tx k c) := fun c hc => reach_spec hn hh ha k c (pk c hc)
  have call : ∀ c ∈ partsL n, ∀ (p' : Pt) tl', KOk re g tx a0 (p'.1, p'.2, (0, c, 0, 0) :: tl') → Seen re tx w0 (p'.1, p'.2, (0, c, 0, 0) :: tl') → ∃ m', m' < 2 * (k + 1) ∧ QS1 re g tx a0 w0 m' (re, g) tx c p' (reachM re tx k c p') := fun c hc p' tl' h1 h2 => ⟨2 * k, by omega, k, tl', rfl, rfl, rfl, pk c hc, h1, h2, rfl⟩
  have gd : ∀ c ∈ partsL n, ∀ (p' : Pt) tl', KOk re g tx a0 (p'.1, p'.2, (0, c, 0, 0) :: tl') → Seen re tx w0 (p'.1, p'.2, (0, c, 0, 0) :: tl') → (reachM re tx k c p').length ≤ 700000000000 := fun c hc p' tl' h1 h2 => hR k c p' tl' (pk c hc) h1 h2 _ ⟨nod_reach k c p', fun q h => h⟩
  rw [er] at hG ⊢
  clear er
  refine split_ (fun k1 => ?_) fun k1 => ?_
  · rw [if_pos k1]
    refine split_ (fun h => ?_) fun h => ?_
    · rw [if_neg (by omega)]
      refine at_ (by omega) h fun c hc => ⟨_, rhas_ok _ _, ?_⟩
      rw [hc]
      unfold palinoderef11_Reach_j2
      refine split_ (fun hm => ?_) fun hm => ?_
      · simp only [if_pos hm]; exact inR_ (by omega) (by first | rfl | trivial)
      · simp only [if_neg hm]
    · rw [if_pos (by omega)]
      unfold palinoderef11_Reach_j2
      exact split_ (fun q => by cases q) fun _ => rfl
  rw [if_neg k1] at hG ⊢
  refine split_ (fun k2 => ?_) fun k2 => ?_
  · rw [if_pos k2] at hG ⊢
    have p1 := parts1 (.inl k2)
    have p2 := parts2 (n := n) (.inl k2)
    have ok1 : KOk re g tx a0 (p.1, p.2, (0, n.2.1, 0, 0) :: (0, n.2.2.1, 0, 0) :: tl) := KOk.row hk' (KOk.row hk' hk' (pc _ p2 _) (fun _ => rfl)) (pc _ p1 _) (fun _ => rfl)
    have s1 : Seen re tx w0 (p.1, p.2, (0, n.2.1, 0, 0) :: (0, n.2.2.1, 0, 0) :: tl) := hs.trans (.one (by rw [go, kn, if_neg k1, if_pos k2]; exact List.mem_singleton.2 rfl))
    have sA := (sp _ p1 p _ ok1).1
    have hL9 := gd _ p1 p _ ok1 s1
    refine ⟨_, call _ p1 p _ ok1 s1, ?_⟩
    generalize reachM re tx k n.2.1 p = L at *
    have hB : ∀ q ∈ L, KOk re g tx a0 (q.1, q.2, (0, n.2.2.1, 0, 0) :: tl) ∧ Seen re tx w0 (q.1, q.2, (0, n.2.2.1, 0, 0) :: tl) := fun q hq => ⟨(sA q hq).ok hn ha ok1, s1.trans (sA q hq)⟩
    refine loop_ (fun s m => ∃ j : Nat, s = (seqM (reachM re tx k n.2.2.1) [] (L.take j), (j : Int)) ∧ j ≤ L.length ∧ m = L.length - j) _ ⟨0, rfl, by omega, rfl⟩ ?_
    rintro _ m ⟨j, rfl, hj, rfl⟩
    unfold palinoderef11_Reach_l3
    refine split_ (fun h => ?_) fun h => ?_
    · refine at_ (by omega) h fun q hq => ?_
      have hq' : L[j]? = some q := hq
      have hqm := mm_at hq'
      refine ⟨_, call _ p2 q tl (hB q hqm).1 (hB q hqm).2, ?_⟩
      have hsn : seqM (reachM re tx k n.2.2.1) [] (L.take (j + 1)) = joinM (seqM (reachM re tx k n.2.2.1) [] (L.take j)) (reachM re tx k n.2.2.1 q) := foldl_at hq'
      have hM9 := gd _ p2 q tl (hB q hqm).1 (hB q hqm).2
      have hgd : ∀ jj, (joinM (seqM (reachM re tx k n.2.2.1) [] (L.take j)) ((reachM re tx k n.2.2.1 q).take jj)).length ≤ 700000000000 := fun jj => hG _ ⟨nod_join (nod_seq List.nodup_nil), fun u hu => by
        refine mem_seq.2 (.inr ?_)
        rcases mem_join.1 hu with hu | hu
        · obtain ⟨v, hv, hv2⟩ := (mem_seq.1 hu).resolve_left (fun h => by cases h)
          exact ⟨v, List.mem_of_mem_take hv, hv2⟩
        · exact ⟨q, hqm, List.mem_of_mem_take hu⟩⟩
      generalize seqM (reachM re tx k n.2.2.1) [] (L.take j) = o at *
      generalize hz2 : seqM (reachM re tx k n.2.2.1) [] (L.take (j + 1)) = o2 at *
      generalize reachM re tx k n.2.2.1 q = M at *
      refine loop_ (fun s m => ∃ jj : Nat, s = (joinM o (M.take jj), (jj : Int)) ∧ jj ≤ M.length ∧ m = M.length - jj) _ ⟨0, rfl, by omega, rfl⟩ ?_
      rintro _ m' ⟨jj, rfl, hjj, rfl⟩
      unfold palinoderef11_Reach_l4
      refine split_ (fun h1 => ?_) fun h1 => ?_
      · refine at_ (by omega) h1 fun u hu => ⟨_, with_ok _ _ (hgd jj), inR_ (by show _ ≤ (jj : Int) + 1 ∧ (jj : Int) + 1 ≤ _; omega) ?_⟩
        have hu' : M[jj]? = some u := hu
        exact ⟨M.length - (jj + 1), by omega, jj + 1, by rw [join_at hu']; rfl, by omega, rfl⟩
      · obtain rfl : jj = M.length := by omega
        rw [List.take_length]
        refine inR_ (by omega) ⟨L.length - (j + 1), by omega, j + 1, ?_, by omega, rfl⟩
        rw [← hsn, ← hz2]; rfl
    · obtain rfl : j = L.length := by omega
      rw [List.take_length]
  rw [if_neg k2] at hG ⊢
  refine split_ (fun k3 => ?_) fun k3 => ?_
  · rw [if_pos k3] at hG ⊢
    have p1 := parts1 (n := n) (.inr (.inl k3))
    have p2 := parts2 (n := n) (.inr k3)
    have ok1 : KOk re g tx a0 (p.1, p.2, (0, n.2.1, 0, 0) :: tl) := KOk.row hk' hk' (pc _ p1 _) (fun _ => rfl)
    have ok2 : KOk re g tx a0 (p.1, p.2, (0, n.2.2.1, 0, 0) :: tl) := KOk.row hk' hk' (pc _ p2 _) (fun _ => rfl)
    have ek : kidsN re tx (p.1, p.2, tl) i = [(p.1, p.2, (0, n.2.1, 0, 0) :: tl), (p.1, p.2, (0, n.2.2.1, 0, 0) :: tl)] := by rw [kn, if_neg k1, if_neg k2, if_pos k3]
    have s1 : Seen re tx w0 (p.1, p.2, (0, n.2.1, 0, 0) :: tl) := hs.trans (.one (by rw [go, ek]; exact List.mem_cons_self ..))
    have s2 : Seen re tx w0 (p.1, p.2, (0, n.2.2.1, 0, 0) :: tl) := hs.trans (.one (by rw [go, ek]; exact List.mem_cons_of_mem _ (List.mem_cons_self ..)))
    refine ⟨_, call _ p1 p tl ok1 s1, _, call _ p2 p tl ok2 s2, ?_⟩
    have hM9 := gd _ p2 p tl ok2 s2
    have hgd : ∀ jj, (joinM (reachM re tx k n.2.1 p) ((reachM re tx k n.2.2.1 p).take jj)).length ≤ 700000000000 := fun jj => hG _ ⟨nod_join (nod_reach _ _ _), fun u hu => mem_join.2 ((mem_join.1 hu).imp id fun h => List.mem_of_mem_take h)⟩
    generalize reachM re tx k n.2.1 p = o at *
    generalize reachM re tx k n.2.2.1 p = M at *
    refine loop_ (fun s m => ∃ jj : Nat, s = (joinM o (M.take jj), (jj : Int)) ∧ jj ≤ M.length ∧ m = M.length - jj) _ ⟨0, rfl, by omega, rfl⟩ ?_
    rintro _ m' ⟨jj, rfl, hjj, rfl⟩
    unfold palinoderef11_Reach_l5
    refine split_ (fun h1 => ?_) fun h1 => ?_
    · refine at_ (by omega) h1 fun u hu => ⟨_, with_ok _ _ (hgd jj), inR_ (by show _ ≤ (jj : Int) + 1 ∧ (jj : Int) + 1 ≤ _; omega) ?_⟩
      have hu' : M[jj]? = some u := hu
      exact ⟨M.length - (jj + 1), by omega, jj + 1, by rw [join_at hu']; rfl, by omega, rfl⟩
    · obtain rfl : jj = M.length := by omega
      rw [List.take_length]
  rw [if_neg k3] at hG ⊢
  refine split_ (fun k4 => ?_) fun k4 => ?_
  · rw [if_pos k4]
    exact ⟨_, ⟨2 * k + 1, by omega, k, i, tl, rfl, rfl, rfl, by omega, hk, hs, hx', k4, rfl⟩, rfl⟩
  rw [if_neg k4] at hG ⊢
  refine split_ (fun k5 => ?_) fun k5 => ?_
  · rw [if_pos k5] at hG ⊢
    have p1 := parts1 (n := n) (.inr (.inr (.inr k5)))
    have hgr := n2 (.inl k5)
    have ek : kidsN re tx (p.1, p.2, tl) i = [(p.1, p.2, (0, n.2.1, 0, 0) :: (1, n.2.2.2.2.2.1, 0, p.1) :: tl)] := by rw [kn, if_neg k1, if_neg k2, if_neg k3, if_pos k5]
    have ok1 : KOk re g tx a0 (p.1, p.2, (0, n.2.1, 0, 0) :: (1, n.2.2.2.2.2.1, 0, p.1) :: tl) := KOk.row hk' (KOk.row hk' hk' (.inr (.inl ⟨rfl, hgr.1, hgr.2, hk'.1.1, Int.le_refl _⟩)) (fun e => by cases e)) (pc _ p1 _) (fun _ => rfl)
    have s1 : Seen re tx w0 (p.1, p.2, (0, n.2.1, 0, 0) :: (1, n.2.2.2.2.2.1, 0, p.1) :: tl) := hs.trans (.one (by rw [go, ek]; exact List.mem_singleton.2 rfl))
    refine ⟨_, call _ p1 p _ ok1 s1, ?_⟩
    have hL9 := gd _ p1 p _ ok1 s1
    generalize reachM re tx k n.2.1 p = L at *
    refine loop_ (fun s m => ∃ j : Nat, s = (joinM [] ((L.map fun q => (q.1, Arr.set q.2 n.2.2.2.2.2.1.toNat (p.1, q.1))).take j), (j : Int), ((L.take j).map fun q => (q.1, Arr.set q.2 n.2.2.2.2.2.1.toNat (p.1, q.1))) ++ L.drop j) ∧ j ≤ L.length ∧ m = L.length - j) _ ⟨0, rfl, by omega, rfl⟩ ?_
    rintro _ m ⟨j, rfl, hj, rfl⟩
    unfold palinoderef11_Reach_l6
    dsimp only
    have hgd2 : (joinM [] ((L.map fun q => (q.1, Arr.set q.2 n.2.2.2.2.2.1.toNat (p.1, q.1))).take j)).length ≤ 700000000000 := hG _ ⟨nod_join List.nodup_nil, fun q hq => mem_join.2 (.inr (List.mem_of_mem_take ((mem_join.1 hq).resolve_left fun h => by cases h)))⟩
    rw [len_take]
    refine split_ (fun h => ?_) fun h => ?_
    · have hq : L[j]? = some L[j] := List.getElem?_eq_getElem (by omega)
      generalize L[j] = q at hq
      have hq2 : (((L.take j).map fun q => (q.1, Arr.set q.2 n.2.2.2.2.2.1.toNat (p.1, q.1))) ++ L.drop j)[((j : Nat) : Int).toNat]? = some q := by rw [Int.toNat_natCast, at_take]; exact hq
      refine ⟨by omega, q, hq2, by omega, q, hq2, ?_⟩
      refine atA (by omega) (by omega) fun z hz => ⟨by omega, (q.1, Arr.set q.2 n.2.2.2.2.2.1.toNat (p.1, q.1)), ?_, ?_⟩
      · rw [Int.toNat_natCast, set_take hq, List.getElem?_append_left (by simp; omega), List.getElem?_map, List.getElem?_take, if_pos (by omega), hq]; rfl
      · have hm : (L.map fun q => (q.1, Arr.set q.2 n.2.2.2.2.2.1.toNat (p.1, q.1)))[j]? = some (q.1, Arr.set q.2 n.2.2.2.2.2.1.toNat (p.1, q.1)) := map_at hq
        refine ⟨_, with_ok _ _ hgd2, inR_ (by show _ ≤ (j : Int) + 1 ∧ (j : Int) + 1 ≤ _; omega) ⟨L.length - (j + 1), by omega, j + 1, ?_, by omega, rfl⟩⟩
        rw [join_at hm, Int.toNat_natCast, set_take hq]; rfl
    · obtain rfl : j = L.length := by omega
      rw [List.take_of_length_le (by simp)]
  rw [if_neg k5] at hG ⊢
  refine split_ (fun k6 => ?_) fun k6 => ?_
  · rw [if_pos k6]
    have hgr := n2 (.inr k6)
    refine atA (by omega) (by omega) fun x hxx => ?_
    rw [hxx]
    have hsp := hk'.1.2.2.1 _ x (by omega) hxx
    refine ⟨_, rsame_ok tx x p.1 (by omega) (by omega) hp1 (hsp.imp id fun ⟨_, q2, q3, q4⟩ => ⟨by omega, q3, by have : x.2 ≤ p.1 := q4; omega⟩), ?_⟩
    simp only
    refine split_ (fun h => by rw [if_pos h]) fun h => by rw [if_neg h]
  rw [if_neg k6]
  unfold palinoderef11_Reach_j1
  refine split_ (fun k7 => ?_) fun k7 => ?_
  · rw [if_pos k7]
    exact split_ (fun h => by rw [if_neg h]) fun h => by rw [if_pos (Classical.not_not.1 h)]
  rw [if_neg k7]
  refine split_ (fun k8 => ?_) fun k8 => ?_
  · rw [if_pos k8]
    exact split_ (fun h => by rw [if_neg h]) fun h => by rw [if_pos (Classical.not_not.1 h)]
  rw [if_neg k8]
theorem qrec2 (hn : NOk re g) (hh : HiOk re) (ha : 0 ≤ a0) (htx : tx.length ≤ 100000000) (hR : HR re g tx a0 w0) (hT : HT re tx w0) (k : Nat) (i : Int) (n : ND) (p0 : Pt) (tl : List (Int × Int × Int × Int)) (hik : i < (k : Int) + 1) (hk : KOk re g tx a0 (p0.1, p0.2, (0, i, 0, 0) :: tl)) (hs : Seen re tx w0 (p0.1, p0.2, (0, i, 0, 0) :: tl)) (hx : re[i.toNat]? = some n) (h4 : n.1 = 4) :
    palinoderef11_times_B (fun x1 x2 i p r => ∃ m', m' < 2 * k + 1 ∧ QS1 re g tx a0 w0 m' x1 x2 i p r) (fun x1 x2 n p r => ∃ m', m' < 2 * k + 1 ∧ QS2 re g tx a0 w0 m' x1 x2 n p r) (re, g) tx n p0 (timesR (reachM re tx k n.2.1) n.2.2.2.1 n.2.2.2.2.1 (tx.length + 2) 0 [] [p0]) := by
  have hi := node_in hk
  have hk' : KOk re g tx a0 (p0.1, p0.2, tl) := hk.tail rfl
  have hp0 : a0 ≤ p0.1 := hk.1.1
  obtain ⟨n1, n2, n3⟩ := hn _ _ hx
  have pA : n.2.1 ∈ partsL n := parts1 (.inr (.inr (.inl h4)))
  have hAk : n.2.1 < k := by have := n1 _ pA; omega
  have hf : Spec re g tx a0 n.2.1 (reachM re tx k n.2.1) := reach_spec hn hh ha k n.2.1 hAk
  have hhi := hh _ _ hx h4
  have hki : ∀ (w : Wy) kk, kidsT re w i kk = _ := fun w kk => kidsT_eq hx
  have ek : kidsM re tx (p0.1, p0.2, (0, i, 0, 0) :: tl) = kidsT re (p0.1, p0.2, tl) i 0 := by
    show kidsN re tx (p0.1, p0.2, tl) i = _
    rw [kidsN_eq hx, if_neg (by omega), if_neg (by omega), if_neg (by omega), if_neg (by omega), if_neg (by omega), if_neg (by omega), if_neg (by omega), if_pos h4]
  have eX : reachM re tx (k + 1) i p0 = timesR (reachM re tx k n.2.1) n.2.2.2.1 n.2.2.2.2.1 (tx.length + 2) 0 [] [p0] := by
    rw [reach_eq hx, if_neg (by omega), if_neg (by omega), if_neg (by omega), if_pos h4]
  have hX : ∀ l, GP (fun q => q ∈ timesR (reachM re tx k n.2.1) n.2.2.2.1 n.2.2.2.2.1 (tx.length + 2) 0 [] [p0]) l → l.length ≤ 700000000000 := fun l hl => hR (k + 1) i p0 tl (by omega) hk hs l (by rw [eX]; exact hl)
  have hT := hT i n hx h4
  have hRk := hR
  generalize hXe : timesR (reachM re tx k n.2.1) n.2.2.2.1 n.2.2.2.2.1 (tx.length + 2) 0 [] [p0] = X at *
  refine loop_ (fun s R => ∃ (out now : List Pt) (kk : Int), s = (out, now, kk) ∧ 0 ≤ kk ∧ kk ≤ 200000000 ∧ X = timesR (reachM re tx k n.2.1) n.2.2.2.1 n.2.2.2.2.1 R kk out now ∧ out.Nodup ∧ now.length ≤ 700000000000 ∧
    ∀ p ∈ now, KOk re g tx a0 (p.1, p.2, tl) ∧ kk ≤ p.1 ∧ (tx.length : Int) - p.1 < R ∧ ∀ v ∈ kidsT re (p.1, p.2, tl) i kk, Seen re tx w0 v) (tx.length + 2) ⟨[], [p0], 0, rfl, Int.le_refl _, by omega, hXe.symm, List.nodup_nil, by simp, fun q hq => by
      rw [List.mem_singleton.1 hq]; exact ⟨hk', by omega, by push_cast; omega, fun v hv => hs.trans (.one (by rw [ek]; exact hv))⟩⟩ ?_
  rintro _ R ⟨out, now, kk, rfl, hkk, hkk2, hR, hgo, hn9, hnow⟩
  unfold palinoderef11_times_l1
  dsimp only
  refine split_ (fun h0 => ?_) fun h0 => ?_
  rotate_left
  · have : now = [] := List.eq_nil_of_length_eq_zero (by omega)
    subst this
    rw [hR]
    cases R <;> rfl
  have hne : now ≠ [] := fun e => by rw [e] at h0; simp at h0
  obtain ⟨R, rfl⟩ : ∃ R', R = R' + 1 := by
    obtain ⟨p, hp⟩ := List.exists_mem_of_ne_nil _ hne
    have h1 := hnow p hp
    have : p.1 ≤ tx.length := h1.1.1.2.1
    exact ⟨R - 1, by omega⟩
  have hTR : timesR (reachM re tx k n.2.1) n.2.2.2.1 n.2.2.2.2.1 (R + 1) kk out now = if 0 ≤ n.2.2.2.2.1 ∧ n.2.2.2.2.1 ≤ kk then (if n.2.2.2.1 ≤ kk then joinM out now else out) else
      timesR (reachM re tx k n.2.1) n.2.2.2.1 n.2.2.2.2.1 R (kk + 1) (roundM (reachM re tx k n.2.1) kk n.2.2.2.1 now (if n.2.2.2.1 ≤ kk then joinM out now else out, [])).1 (roundM (reachM re tx k n.2.1) kk n.2.2.2.1 now (if n.2.2.2.1 ≤ kk then joinM out now else out, [])).2 := by
    conv => lhs; unfold timesR
    rw [if_neg hne]
  have hR2 := hR.trans hTR
  have go1 : (if n.2.2.2.1 ≤ kk then joinM out now else out).Nodup := by
    split
    · exact nod_join hgo
    · exact hgo
  have upX : ∀ q ∈ (if n.2.2.2.1 ≤ kk then joinM out now else out), q ∈ X := fun q hq => by
    rw [hR2]
    split
    · exact hq
    · exact times_up R _ _ _ (mem_round1.2 (.inl hq))
  have fin : ∀ o : List Pt, o = (if n.2.2.2.1 ≤ kk then joinM out now else out) → palinoderef11_times_j2 now (fun x1 x2 i p r => ∃ m', m' < 2 * k + 1 ∧ QS1 re g tx a0 w0 m' x1 x2 i p r) (re, g) tx n kk
      (fun s' => ∃ m', m' < R + 1 ∧ ∃ (out now : List Pt) (kk : Int), s' = (out, now, kk) ∧ 0 ≤ kk ∧ kk ≤ 200000000 ∧ X = timesR (reachM re tx k n.2.1) n.2.2.2.1 n.2.2.2.2.1 m' kk out now ∧ out.Nodup ∧ now.length ≤ 700000000000 ∧
        ∀ p ∈ now, KOk re g tx a0 (p.1, p.2, tl) ∧ kk ≤ p.1 ∧ (tx.length : Int) - p.1 < m' ∧ ∀ v ∈ kidsT re (p.1, p.2, tl) i kk, Seen re tx w0 v) o X := by
    intro o ho
    unfold palinoderef11_times_j2 palinoderef11_times_j4
    rw [← ho] at go1 upX hR2
    refine split_ (fun hb => ?_) fun hb => ?_
    · simp only [Bool.and_eq_true, decide_eq_true_eq] at hb
      rw [if_pos hb] at hR2; exact hR2
    simp only [Bool.and_eq_true, decide_eq_true_eq] at hb
    rw [if_neg hb] at hR2
    have inX : ∀ q ∈ (roundM (reachM re tx k n.2.1) kk n.2.2.2.1 now (o, [])).1, q ∈ X := fun q hq => by rw [hR2]; exact times_up R _ _ _ hq
    have hgo' : n.2.2.2.2.1 = -1 ∨ kk < n.2.2.2.2.1 := by omega
    have kin : ∀ p : Pt, ((p.1, p.2, (0, n.2.1, 0, 0) :: (2, i, kk + 1, p.1) :: tl) : Wy) ∈ kidsT re (p.1, p.2, tl) i kk := fun p => by
      rw [hki, if_pos hgo']; exact List.mem_append_left _ (List.mem_singleton.2 rfl)
    have kok : ∀ p ∈ now, KOk re g tx a0 (p.1, p.2, (0, n.2.1, 0, 0) :: (2, i, kk + 1, p.1) :: tl) := fun p hp =>
      kidsT_ok (w := (p.1, p.2, tl)) hn (hnow p hp).1 (fun m hm => by rw [hx] at hm; injection hm with e; rw [← e]; exact h4) hi.1 hi.2 ⟨hkk, (hnow p hp).2.1⟩ _ (kin p)
    have ksn : ∀ p ∈ now, Seen re tx w0 (p.1, p.2, (0, n.2.1, 0, 0) :: (2, i, kk + 1, p.1) :: tl) := fun p hp => (hnow p hp).2.2.2 _ (kin p)
    have two : ∀ p ∈ now, ∀ q ∈ reachM re tx k n.2.1 p, Seen re tx w0 (q.1, q.2, (2, i, kk + 1, p.1) :: tl) ∧ KOk re g tx a0 (q.1, q.2, (2, i, kk + 1, p.1) :: tl) ∧ p.1 ≤ q.1 := fun p hp q hq =>
      ⟨(ksn p hp).trans ((hf p _ (kok p hp)).1 q hq), ((hf p _ (kok p hp)).1 q hq).ok hn ha (kok p hp), ((hf p _ (kok p hp)).1 q hq).pos hn ha (kok p hp)⟩
    refine loop_ (fun s m => ∃ j : Nat, s = ((roundM (reachM re tx k n.2.1) kk n.2.2.2.1 (now.take j) (o, [])).1, (roundM (reachM re tx k n.2.1) kk n.2.2.2.1 (now.take j) (o, [])).2, (j : Int)) ∧ j ≤ now.length ∧ m = now.length - j) _ ⟨0, rfl, by omega, rfl⟩ ?_
    rintro _ m ⟨j, rfl, hj, rfl⟩
    have hg1 : GP (fun q => q ∈ X) (roundM (reachM re tx k n.2.1) kk n.2.2.2.1 (now.take j) (o, [])).1 := ⟨(nod_round go1 List.nodup_nil).1, fun q hq => inX q (mem_round1.2 ((mem_round1.1 hq).imp id fun ⟨p, h1, h2⟩ => ⟨p, List.mem_of_mem_take h1, h2⟩))⟩
    have hg2 : GP (TP re tx w0 i) (roundM (reachM re tx k n.2.1) kk n.2.2.2.1 (now.take j) (o, [])).2 := ⟨(nod_round go1 List.nodup_nil).2, fun q hq => by
      obtain ⟨p, hp, h1, h2⟩ := (mem_round2.1 hq).resolve_left (fun h => by cases h)
      exact ⟨_, _, _, (two p (List.mem_of_mem_take hp) q h1).1⟩⟩
    unfold palinoderef11_times_l5
    dsimp only
    refine split_ (fun h1 => ?_) fun h1 => ?_
    · refine at_ (by omega) h1 fun q hq => ?_
      have hq' : now[j]? = some q := hq
      have hqm := mm_at hq'
      refine ⟨_, ⟨2 * k, by omega, k, _, rfl, rfl, rfl, hAk, kok q hqm, ksn q hqm, rfl⟩, ?_⟩
      have hsn : roundM (reachM re tx k n.2.1) kk n.2.2.2.1 (now.take (j + 1)) (o, []) = splitM kk n.2.2.2.1 q (reachM re tx k n.2.1 q) (roundM (reachM re tx k n.2.1) kk n.2.2.2.1 (now.take j) (o, [])) := foldl_at hq'
      have hMs : ∀ u ∈ reachM re tx k n.2.1 q, TP re tx w0 i u := fun u hu => ⟨_, _, _, (two q hqm u hu).1⟩
      have hMx : ∀ u ∈ reachM re tx k n.2.1 q, kk < n.2.2.2.1 → u.1 = q.1 → u ∈ X := fun u hu h1 h2 => inX u (mem_round1.2 (.inr ⟨q, hqm, h1, hu, h2⟩))
      have hM9 := hRk k n.2.1 q _ hAk (kok q hqm) (ksn q hqm) _ ⟨nod_reach k _ q, fun q h => h⟩
      generalize roundM (reachM re tx k n.2.1) kk n.2.2.2.1 (now.take j) (o, []) = z at *
      generalize hz2 : roundM (reachM re tx k n.2.1) kk n.2.2.2.1 (now.take (j + 1)) (o, []) = z2 at *
      generalize reachM re tx k n.2.1 q = M at *
      refine loop_ (fun s m => ∃ jj : Nat, s = ((splitM kk n.2.2.2.1 q (M.take jj) z).1, (splitM kk n.2.2.2.1 q (M.take jj) z).2, (jj : Int)) ∧ jj ≤ M.length ∧ m = M.length - jj ∧ GP (fun q => q ∈ X) s.1 ∧ GP (TP re tx w0 i) s.2.1) _ ⟨0, rfl, by omega, rfl, hg1, hg2⟩ ?_
      rintro _ m' ⟨jj, rfl, hjj, rfl, hs1, hs2⟩
      have hs1 : GP (fun q => q ∈ X) (splitM kk n.2.2.2.1 q (M.take jj) z).1 := hs1
      have hs2 : GP (TP re tx w0 i) (splitM kk n.2.2.2.1 q (M.take jj) z).2 := hs2
      unfold palinoderef11_times_l6
      dsimp only
      refine split_ (fun h2 => ?_) fun h2 => ?_
      · refine at_ (by omega) h2 fun u hu => ⟨by omega, q, hq, ?_⟩
        have hu' : M[jj]? = some u := hu
        have hsn2 : splitM kk n.2.2.2.1 q (M.take (jj + 1)) z = oneM kk n.2.2.2.1 q (splitM kk n.2.2.2.1 q (M.take jj) z) u := foldl_at hu'
        have hsu := hMs u (mm_at hu')
        have j7 : ∀ s2 : List Pt × List Pt, splitM kk n.2.2.2.1 q (M.take (jj + 1)) z = s2 → GP (fun q => q ∈ X) s2.1 → GP (TP re tx w0 i) s2.2 → palinoderef11_times_j7 ((jj : Nat) : Int) (fun s' => ∃ m', m' < M.length - jj ∧ ∃ jj : Nat, s' = ((splitM kk n.2.2.2.1 q (M.take jj) z).1, (splitM kk n.2.2.2.1 q (M.take jj) z).2, (jj : Int)) ∧ jj ≤ M.length ∧ m' = M.length - jj ∧ GP (fun q => q ∈ X) s'.1 ∧ GP (TP re tx w0 i) s'.2.1) s2.1 s2.2 X := by
          intro s2 e k1 k2
          unfold palinoderef11_times_j7
          exact inR_ (by omega) ⟨M.length - (jj + 1), by omega, jj + 1, by rw [e]; rfl, by omega, rfl, k1, k2⟩
        refine split_ (fun h3 => ?_) fun h3 => ?_
        · have e : oneM kk n.2.2.2.1 q (splitM kk n.2.2.2.1 q (M.take jj) z) u = ((splitM kk n.2.2.2.1 q (M.take jj) z).1, withM (splitM kk n.2.2.2.1 q (M.take jj) z).2 u) := by unfold oneM; rw [if_neg h3]
          exact ⟨by omega, u, hu, _, with_ok _ _ (hT _ hs2), j7 (_, _) (hsn2.trans e) hs1 (gp_with hs2 hsu)⟩
        · have h3 := Classical.not_not.1 h3
          refine split_ (fun h5 => ?_) fun h5 => ?_
          · have e : oneM kk n.2.2.2.1 q (splitM kk n.2.2.2.1 q (M.take jj) z) u = (withM (splitM kk n.2.2.2.1 q (M.take jj) z).1 u, (splitM kk n.2.2.2.1 q (M.take jj) z).2) := by unfold oneM; rw [if_pos h3, if_pos h5]
            exact ⟨by omega, u, hu, _, with_ok _ _ (hX _ hs1), j7 (_, _) (hsn2.trans e) (gp_with hs1 (hMx u (mm_at hu') h5 h3)) hs2⟩
          · have e : oneM kk n.2.2.2.1 q (splitM kk n.2.2.2.1 q (M.take jj) z) u = splitM kk n.2.2.2.1 q (M.take jj) z := by unfold oneM; rw [if_pos h3, if_neg h5]
            exact j7 (splitM kk n.2.2.2.1 q (M.take jj) z) (hsn2.trans e) hs1 hs2
      · obtain rfl : jj = M.length := by omega
        rw [List.take_length, ← hsn]
        exact inR_ (by omega) ⟨now.length - (j + 1), by omega, j + 1, by rw [hz2]; rfl, by omega, rfl⟩
    · obtain rfl : j = now.length := by omega
      rw [List.take_length] at hg1 hg2 ⊢
      have hkb : kk + 1 ≤ 200000000 := by
        obtain ⟨p, hp⟩ := List.exists_mem_of_ne_nil _ hne
        have h1 := hnow p hp
        have : p.1 ≤ tx.length := h1.1.1.2.1
        omega
      refine inR_ (by omega) ⟨R, by omega, _, _, kk + 1, rfl, by omega, hkb, hR2, hg1.1, hT _ hg2, fun q hq => ?_⟩
      obtain ⟨p, hp, q1, q2⟩ := (mem_round2.1 hq).resolve_left (fun h => by cases h)
      obtain ⟨t1, t2, t3⟩ := two p hp q q1
      have h1 := hnow p hp
      refine ⟨t2.tail rfl, by omega, by omega, fun v hv => t1.trans (.one ?_)⟩
      rw [kids_two hx, if_neg q2]; exact hv
  refine loop_ (fun s m => ∃ j : Nat, s = (if n.2.2.2.1 ≤ kk then joinM out (now.take j) else out, (j : Int)) ∧ j ≤ now.length ∧ m = now.length - j) _ ⟨0, by simp only [List.take_zero]; show _ = (if _ then out else out, _); rw [ite_self]; rfl, by omega, rfl⟩ ?_
  rintro _ m ⟨j, rfl, hj, rfl⟩
  unfold palinoderef11_times_l3
  refine split_ (fun h1 => ?_) fun h1 => ?_
  · refine split_ (fun h2 => ?_) fun h2 => ?_
    · refine at_ (by omega) h1 fun q hq => ?_
      have hq' : now[j]? = some q := hq
      rw [if_pos h2]
      have hgt : (joinM out (now.take j)).length ≤ 700000000000 := hX _ ⟨nod_join hgo, fun q hq => upX q (by rw [if_pos h2]; exact mem_join.2 ((mem_join.1 hq).imp id fun h => List.mem_of_mem_take h))⟩
      exact ⟨_, with_ok _ _ hgt, inR_ (by show _ ≤ (j : Int) + 1 ∧ (j : Int) + 1 ≤ _; omega) ⟨now.length - (j + 1), by omega, j + 1, by rw [if_pos h2, join_at hq']; rfl, by omega, rfl⟩⟩
    · exact fin _ (by rw [if_neg h2, if_neg h2])
  · obtain rfl : j = now.length := by omega
    exact fin _ (by rw [List.take_length])
theorem qrec_ok (hn : NOk re g) (hh : HiOk re) (hg : g ≤ 9) (ha : 0 ≤ a0) (htx : tx.length ≤ 100000000) (hR : HR re g tx a0 w0) (hT : HT re tx w0) : rec_palinoderef11_Reach_H (QS1 re g tx a0 w0) (QS2 re g tx a0 w0) := by
  constructor
  · rintro m _ _ i p r ⟨k, tl, rfl, rfl, rfl, hik, hk, hs, rfl⟩
    have hi := node_in hk
    obtain ⟨k, rfl⟩ : ∃ k', k = k' + 1 := ⟨k - 1, by omega⟩
    exact qrec1 hn hh hg ha htx hR k i p tl hik hk hs
  · rintro m _ _ n p r ⟨k, i, tl, rfl, rfl, rfl, hik, hk, hs, hx, h4, rfl⟩
    exact qrec2 hn hh ha htx hR hT k i n p tl hik hk hs hx h4
end
end Go.Proofs.Ytnjnbegjhklcgaa
