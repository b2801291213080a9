
/- The relation tells the matches of the ways. -/
import Derived.Test.YtnjnbegjhklcgaaMrA
namespace Go.Proofs.Ytnjnbegjhklcgaa
section
variable {re : List ND} {tx : List UInt8} {a0 : Int} {g : Int}
/-- Of a repetition: no end, or one. -/
def HiOk (re : List ND) : Prop := ∀ (i : Nat) x, re[i]? = some x → x.1 = 4 → x.2.2.2.2.1 = -1 ∨ 0 ≤ x.2.2.2.2.1
theorem right_hi (h : rightB re g = true) : HiOk re := by
  intro i x hx h4
  unfold rightB at h
  simp only [Bool.and_eq_true, decide_eq_true_eq] at h
  obtain ⟨⟨⟨⟨⟨⟨h1, h2⟩, h3⟩, _⟩, h5⟩, h6⟩, h7⟩ := h
  have hb := nodes_at h5 hx
  unfold isNodeB at hb
  simp only [Bool.and_eq_true, Bool.or_eq_true, Bool.not_eq_true', decide_eq_true_eq, decide_eq_false_iff_not, List.all_eq_true, isTimesB] at hb
  obtain ⟨⟨⟨⟨⟨q1, q2⟩, q3⟩, q4⟩, q5⟩, q6⟩ := hb
  have := q5.resolve_left (fun q => q h4)
  exact this.2.2.imp id fun h => by omega
theorem KOk.tail {w : Wy} {t : Int × Int × Int × Int} {tl : List (Int × Int × Int × Int)} (h : KOk re g tx a0 w) (e : w.2.2 = t :: tl) : KOk re g tx a0 (w.1, w.2.1, tl) :=
  ⟨h.1.row fun u hu => h.1.2.2.2 u (by rw [e]; exact List.mem_cons_of_mem _ hu), fun u hu => h.2 u (by rw [e]; exact List.mem_cons_of_mem _ hu)⟩
theorem node_in {a : Int} {sp : Sp} {i : Int} {tl : List (Int × Int × Int × Int)} (hk : KOk re g tx a0 (a, sp, (0, i, 0, 0) :: tl)) : 0 ≤ i ∧ i < re.length := by
  rcases hk.1.2.2.2 _ (List.mem_cons_self ..) with h | h | h
  · exact h.2
  · have : (0 : Int) = 1 := h.1
    omega
  · have : (0 : Int) = 2 := h.1
    omega
theorem reach_eq {k : Nat} {i : Int} {p : Pt} {n : ND} (hx : re[i.toNat]? = some n) : reachM re tx (k + 1) i p = (
      if n.1 = 1 then (if (tx.length : Int) ≤ p.1 then [] else match tx[p.1.toNat]? with
        | none => []
        | some c => if memS n.2.2.2.2.2.2 c.toNat = true then [(p.1 + 1, p.2)] else [])
      else if n.1 = 2 then seqM (reachM re tx k n.2.2.1) [] (reachM re tx k n.2.1 p)
      else if n.1 = 3 then joinM (reachM re tx k n.2.1 p) (reachM re tx k n.2.2.1 p)
      else if n.1 = 4 then timesR (reachM re tx k n.2.1) n.2.2.2.1 n.2.2.2.2.1 (tx.length + 2) 0 [] [p]
      else if n.1 = 5 then joinM [] ((reachM re tx k n.2.1 p).map fun q => (q.1, Arr.set q.2 n.2.2.2.2.2.1.toNat (p.1, q.1)))
      else if n.1 = 6 then match p.2.l[n.2.2.2.2.2.1.toNat]? with
        | none => []
        | some x => if sameM tx x p.1 < 0 then [] else [(sameM tx x p.1, p.2)]
      else if n.1 = 7 then (if p.1 = 0 then [p] else [])
      else if n.1 = 8 then (if p.1 = (tx.length : Int) then [p] else [])
      else [p]) := by rw [reachM, hx]; rfl
theorem spec_one {i : Int} {f : Pt → List Pt} (p : Pt) (tl : List (Int × Int × Int × Int)) (h : kidsN re tx (p.1, p.2, tl) i = (f p).map fun q => (q.1, q.2, tl)) :
    (∀ q ∈ f p, Seen re tx (p.1, p.2, (0, i, 0, 0) :: tl) (q.1, q.2, tl)) ∧ ∀ h, Hits re tx a0 (p.1, p.2, (0, i, 0, 0) :: tl) h → ∃ q ∈ f p, Hits re tx a0 (q.1, q.2, tl) h := by
  refine ⟨fun q hq => .one ?_, fun x hx => ?_⟩
  · rw [kids_node, h]; exact List.mem_map.2 ⟨q, hq, rfl⟩
  · obtain ⟨v, hv, hh⟩ := hx.inv (by simp)
    rw [kids_node, h] at hv
    obtain ⟨q, hq, rfl⟩ := List.mem_map.1 hv
    exact ⟨q, hq, hh⟩
theorem reach_spec (hn : NOk re g) (hh : HiOk re) (ha : 0 ≤ a0) : ∀ (k : Nat) (i : Int), i < k → Spec re g tx a0 i (reachM re tx k i)
  | 0, i, h => fun p tl hk => by
    have := node_in hk
    omega
  | k + 1, i, h => fun p tl hk => by
    have hi := node_in hk
    have hx : re[i.toNat]? = some re[i.toNat] := List.getElem?_eq_getElem (by omega)
    generalize re[i.toNat] = n at hx
    obtain ⟨n1, n2, n3⟩ := hn _ _ hx
    have hk' : KOk re g tx a0 (p.1, p.2, tl) := hk.tail rfl
    have pc : ∀ c ∈ partsL n, ∀ b, TOk re g a0 b (0, c, 0, 0) := fun c hc b => tnode (by have := n1 c hc; omega)
    have ps : ∀ c ∈ partsL n, Spec re g tx a0 c (reachM re tx k c) := fun c hc => reach_spec hn hh ha k c (by have := n1 c hc; omega)
    have kn := kidsN_eq (tx := tx) (w := (p.1, p.2, tl)) hx
    have go : kidsM re tx (p.1, p.2, (0, i, 0, 0) :: tl) = kidsN re tx (p.1, p.2, tl) i := rfl
    by_cases k2 : n.1 = 2
    · have e : reachM re tx (k + 1) i p = seqM (reachM re tx k n.2.2.1) [] (reachM re tx k n.2.1 p) := by
        rw [reach_eq hx, if_neg (by omega), if_pos k2]
      have ek : kidsN re tx (p.1, p.2, tl) i = [(p.1, p.2, (0, n.2.1, 0, 0) :: (0, n.2.2.1, 0, 0) :: tl)] := by
        rw [kn, if_neg (by omega), if_pos k2]
      have ok1 : KOk re g tx a0 (p.1, p.2, (0, n.2.1, 0, 0) :: (0, n.2.2.1, 0, 0) :: tl) := KOk.row hk' (KOk.row hk' hk' (pc _ (parts2 (.inl k2)) _) (fun _ => rfl)) (pc _ (parts1 (.inl k2)) _) (fun _ => rfl)
      have s1 := ps _ (parts1 (.inl k2)) p _ ok1
      rw [e]
      constructor
      · intro q hq
        obtain ⟨p1, h1, h2⟩ := (mem_seq.1 hq).resolve_left (fun h => by cases h)
        have t1 := s1.1 p1 h1
        have s2 := ps _ (parts2 (.inl k2)) p1 tl (t1.ok hn ha ok1)
        exact .step (by rw [go, ek]; exact List.mem_singleton.2 rfl) (t1.trans (s2.1 q h2))
      · intro x hx'
        obtain ⟨v, hv, hv2⟩ := hx'.inv (by simp)
        rw [go, ek] at hv
        rw [List.mem_singleton.1 hv] at hv2
        obtain ⟨p1, h1, h2⟩ := s1.2 x hv2
        obtain ⟨q, q1, q2⟩ := (ps _ (parts2 (.inl k2)) p1 tl ((s1.1 p1 h1).ok hn ha ok1)).2 x h2
        exact ⟨q, mem_seq.2 (.inr ⟨p1, h1, q1⟩), q2⟩
    by_cases k3 : n.1 = 3
    · have e : reachM re tx (k + 1) i p = joinM (reachM re tx k n.2.1 p) (reachM re tx k n.2.2.1 p) := by
        rw [reach_eq hx, if_neg (by omega), if_neg (by omega), if_pos k3]
      have ek : kidsN re tx (p.1, p.2, tl) i = [(p.1, p.2, (0, n.2.1, 0, 0) :: tl), (p.1, p.2, (0, n.2.2.1, 0, 0) :: tl)] := by
        rw [kn, if_neg (by omega), if_neg (by omega), if_pos k3]
      have s1 := ps _ (parts1 (.inr (.inl k3))) p tl (KOk.row hk' hk' (pc _ (parts1 (.inr (.inl k3))) _) (fun _ => rfl))
      have s2 := ps _ (parts2 (.inr k3)) p tl (KOk.row hk' hk' (pc _ (parts2 (.inr k3)) _) (fun _ => rfl))
      rw [e]
      constructor
      · intro q hq
        rcases mem_join.1 hq with hq | hq
        · exact .step (by rw [go, ek]; exact List.mem_cons_self ..) (s1.1 q hq)
        · exact .step (by rw [go, ek]; exact List.mem_cons_of_mem _ (List.mem_cons_self ..)) (s2.1 q hq)
      · intro x hx'
        obtain ⟨v, hv, hv2⟩ := hx'.inv (by simp)
        rw [go, ek] at hv
        rcases List.mem_cons.1 hv with rfl | hv
        · obtain ⟨q, q1, q2⟩ := s1.2 x hv2
          exact ⟨q, mem_join.2 (.inl q1), q2⟩
        · rw [List.mem_singleton.1 hv] at hv2
          obtain ⟨q, q1, q2⟩ := s2.2 x hv2
          exact ⟨q, mem_join.2 (.inr q1), q2⟩
    by_cases k4 : n.1 = 4
    · have e : reachM re tx (k + 1) i p = timesR (reachM re tx k n.2.1) n.2.2.2.1 n.2.2.2.2.1 (tx.length + 2) 0 [] [p] := by
        rw [reach_eq hx, if_neg (by omega), if_neg (by omega), if_neg (by omega), if_pos k4]
      have ek : kidsN re tx (p.1, p.2, tl) i = kidsT re (p.1, p.2, tl) i 0 := by
        rw [kn, if_neg (by omega), if_neg (by omega), if_neg (by omega), if_neg (by omega), if_neg (by omega), if_neg (by omega), if_neg (by omega), if_pos k4]
      have p0 : a0 ≤ p.1 := hk'.1.1
      obtain ⟨t1, t2⟩ := times_in (tl := tl) hn ha hx k4 rfl (hh _ _ hx k4) hi.1 hi.2 (ps _ (parts1 (.inr (.inr (.inl k4))))) (tx.length + 2) 0 [] [p] (Int.le_refl _) (fun q hq => by
        rw [List.mem_singleton.1 hq]; exact ⟨hk', by omega, by push_cast; omega⟩)
      rw [e]
      constructor
      · intro q hq
        obtain ⟨p', hp', v, hv, hs⟩ := (t1 q hq).resolve_left (fun h => by cases h)
        rw [List.mem_singleton.1 hp'] at hv
        exact .step (by rw [go, ek]; exact hv) hs
      · intro x hx'
        obtain ⟨v, hv, hv2⟩ := hx'.inv (by simp)
        rw [go, ek] at hv
        exact t2 p (List.mem_singleton.2 rfl) v hv x hv2
    by_cases k5 : n.1 = 5
    · have e : reachM re tx (k + 1) i p = joinM [] ((reachM re tx k n.2.1 p).map fun q => (q.1, Arr.set q.2 n.2.2.2.2.2.1.toNat (p.1, q.1))) := by
        rw [reach_eq hx, if_neg (by omega), if_neg (by omega), if_neg (by omega), if_neg (by omega), if_pos k5]
      have ek : kidsN re tx (p.1, p.2, tl) i = [(p.1, p.2, (0, n.2.1, 0, 0) :: (1, n.2.2.2.2.2.1, 0, p.1) :: tl)] := by
        rw [kn, if_neg (by omega), if_neg (by omega), if_neg (by omega), if_pos k5]
      have ok1 : KOk re g tx a0 (p.1, p.2, (0, n.2.1, 0, 0) :: (1, n.2.2.2.2.2.1, 0, p.1) :: tl) := KOk.row hk' (KOk.row hk' hk' (.inr (.inl ⟨rfl, (n2 (.inl k5)).1, (n2 (.inl k5)).2, hk'.1.1, Int.le_refl _⟩)) (fun e => by cases e)) (pc _ (parts1 (.inr (.inr (.inr k5)))) _) (fun _ => rfl)
      have s1 := ps _ (parts1 (.inr (.inr (.inr k5)))) p _ ok1
      have eg : ∀ q : Pt, kidsM re tx (q.1, q.2, (1, n.2.2.2.2.2.1, 0, p.1) :: tl) = [(q.1, Arr.set q.2 n.2.2.2.2.2.1.toNat (p.1, q.1), tl)] := fun q => by simp only [kidsM]; rw [if_pos trivial]
      rw [e]
      constructor
      · intro q hq
        obtain ⟨p1, h1, rfl⟩ := List.mem_map.1 ((mem_join.1 hq).resolve_left (fun h => by cases h))
        exact .step (by rw [go, ek]; exact List.mem_singleton.2 rfl) ((s1.1 p1 h1).trans (.one (by rw [eg]; exact List.mem_singleton.2 rfl)))
      · intro x hx'
        obtain ⟨v, hv, hv2⟩ := hx'.inv (by simp)
        rw [go, ek] at hv
        rw [List.mem_singleton.1 hv] at hv2
        obtain ⟨p1, h1, h2⟩ := s1.2 x hv2
        obtain ⟨v, hv, hv3⟩ := h2.inv (by simp)
        rw [eg] at hv
        rw [List.mem_singleton.1 hv] at hv3
        exact ⟨_, mem_join.2 (.inr (List.mem_map.2 ⟨p1, h1, rfl⟩)), hv3⟩
    refine spec_one p tl ?_
    rw [kn]
    rw [reach_eq hx]
    by_cases k1 : n.1 = 1
    · rw [if_pos k1, if_pos k1]
      split
      · rfl
      · cases tx[p.1.toNat]? with
        | none => rfl
        | some c => simp only; split <;> rfl
    simp only [if_neg k1, if_neg k2, if_neg k3, if_neg k4, if_neg k5]
    by_cases k6 : n.1 = 6
    · rw [if_pos k6, if_pos k6]
      cases hg : p.2.l[n.2.2.2.2.2.1.toNat]? with
      | none => rfl
      | some x =>
        have hgr := n2 (.inr k6)
        have hsp := hk'.1.2.2.1 _ x (by omega) hg
        have w1 : a0 ≤ p.1 := hk'.1.1
        simp only
        unfold sameM
        by_cases hf : x.1 < 0
        · rw [if_pos hf, if_pos hf, if_pos (by decide : (-1 : Int) < 0)]; rfl
        · rw [if_neg hf, if_neg hf]
          obtain ⟨p1, p2, p3, p4⟩ := hsp.resolve_left (fun e => by rw [e] at hf; exact hf (by decide))
          by_cases hp : prefixM (tx.drop p.1.toNat) ((tx.take x.2.toNat).drop x.1.toNat) = true
          · have hnn : ¬ (p.1 + x.2 - x.1 < 0) := by omega
            rw [if_pos hp, if_pos hp, if_neg hnn, show p.1 + x.2 - x.1 = p.1 + (x.2 - x.1) by omega]; rfl
          · rw [if_neg hp, if_neg hp, if_pos (by decide : (-1 : Int) < 0)]; rfl
    rw [if_neg k6, if_neg k6]
    by_cases k7 : n.1 = 7
    · rw [if_pos k7, if_pos k7]; split <;> rfl
    rw [if_neg k7, if_neg k7]
    by_cases k8 : n.1 = 8
    · rw [if_pos k8, if_pos k8]; split <;> rfl
    rw [if_neg k8, if_neg k8]; rfl
/-- The matches of ways are those that were collected. -/
theorem coll_hits (f : Nat) : ∀ (a : List Wy) r, coll re tx a0 f a = some r → ∀ h, h ∈ r.2 ↔ ∃ w ∈ a, Hits re tx a0 w h := by
  have hit : ∀ (f : Nat) (w : Wy) (a : List Wy), w.2.2 = [] → (∀ r, coll re tx a0 f a = some r → ∀ h, h ∈ r.2 ↔ ∃ w ∈ a, Hits re tx a0 w h) → ∀ r, coll re tx a0 f (w :: a) = some r → ∀ h, h ∈ r.2 ↔ ∃ v ∈ w :: a, Hits re tx a0 v h := by
    intro f w a hw ih r hr h
    rw [coll_hit hw] at hr
    obtain ⟨q, h1, rfl⟩ := Option.map_eq_some_iff.1 hr
    show h ∈ hitW a0 w :: q.2 ↔ _
    rw [List.mem_cons, ih q h1 h]
    constructor
    · rintro (rfl | ⟨v, hv, hh⟩)
      · exact ⟨w, List.mem_cons_self .., .done hw⟩
      · exact ⟨v, List.mem_cons_of_mem _ hv, hh⟩
    · rintro ⟨v, hv, hh⟩
      rcases List.mem_cons.1 hv with rfl | hv
      · cases hh with
        | done _ => exact .inl rfl
        | step h1 _ => rw [kids_none hw] at h1; cases h1
      · exact .inr ⟨v, hv, hh⟩
  have nil : ∀ f r, coll re tx a0 f [] = some r → ∀ h, h ∈ r.2 ↔ ∃ w ∈ ([] : List Wy), Hits re tx a0 w h := by
    intro f r hr h
    rw [coll_nil] at hr; injection hr with hr; rw [← hr]
    exact ⟨fun h => (by cases h), fun ⟨w, h, _⟩ => (by cases h)⟩
  induction f with
  | zero =>
    intro a
    induction a with
    | nil => exact nil 0
    | cons w a ih =>
      intro r hr
      by_cases hw : w.2.2 = []
      · exact hit 0 w a hw ih r hr
      · rw [coll_zero hw] at hr; cases hr
  | succ f ihf =>
    intro a
    induction a with
    | nil => exact nil (f + 1)
    | cons w a ih =>
      intro r hr
      by_cases hw : w.2.2 = []
      · exact hit (f + 1) w a hw ih r hr
      · rw [coll_succ hw] at hr
        intro h
        rw [ihf _ r hr h]
        constructor
        · rintro ⟨v, hv, hh⟩
          rcases List.mem_append.1 hv with hv | hv
          · exact ⟨w, List.mem_cons_self .., .step hv hh⟩
          · exact ⟨v, List.mem_cons_of_mem _ hv, hh⟩
        · rintro ⟨v, hv, hh⟩
          rcases List.mem_cons.1 hv with rfl | hv
          · obtain ⟨u, hu, hh⟩ := hh.inv hw
            exact ⟨u, List.mem_append_left _ hu, hh⟩
          · exact ⟨v, List.mem_append_right _ hv, hh⟩
/-- All ways that are seen, and how many they are. -/
theorem coll_seen (f : Nat) : ∀ (a : List Wy) r, coll re tx a0 f a = some r → ∃ V : List Wy, V.length + 2 * r.1 ≤ a.length + 2 * f ∧ ∀ w ∈ a, ∀ v, Seen re tx w v → v ∈ V := by
  have hit : ∀ (f : Nat) (w : Wy) (a : List Wy), w.2.2 = [] → (∀ r, coll re tx a0 f a = some r → ∃ V : List Wy, V.length + 2 * r.1 ≤ a.length + 2 * f ∧ ∀ w ∈ a, ∀ v, Seen re tx w v → v ∈ V) →
      ∀ r, coll re tx a0 f (w :: a) = some r → ∃ V : List Wy, V.length + 2 * r.1 ≤ (w :: a).length + 2 * f ∧ ∀ u ∈ w :: a, ∀ v, Seen re tx u v → v ∈ V := by
    intro f w a hw ih r hr
    rw [coll_hit hw] at hr
    obtain ⟨q, h1, rfl⟩ := Option.map_eq_some_iff.1 hr
    obtain ⟨V, v1, v2⟩ := ih q h1
    refine ⟨w :: V, by show V.length + 1 + 2 * q.1 ≤ _; rw [List.length_cons]; omega, fun u hu v hv => ?_⟩
    rcases List.mem_cons.1 hu with rfl | hu
    · cases hv with
      | refl _ => exact List.mem_cons_self ..
      | step h1 _ => rw [kids_none hw] at h1; cases h1
    · exact List.mem_cons_of_mem _ (v2 u hu v hv)
  have nil : ∀ f r, coll re tx a0 f [] = some r → ∃ V : List Wy, V.length + 2 * r.1 ≤ ([] : List Wy).length + 2 * f ∧ ∀ u ∈ ([] : List Wy), ∀ v, Seen re tx u v → v ∈ V := by
    intro f r hr
    rw [coll_nil] at hr; injection hr with hr; rw [← hr]
    exact ⟨[], Nat.le_refl _, fun u hu => by cases hu⟩
  induction f with
  | zero =>
    intro a
    induction a with
    | nil => exact nil 0
    | cons w a ih =>
      intro r hr
      by_cases hw : w.2.2 = []
      · exact hit 0 w a hw ih r hr
      · rw [coll_zero hw] at hr; cases hr
  | succ f ihf =>
    intro a
    induction a with
    | nil => exact nil (f + 1)
    | cons w a ih =>
      intro r hr
      by_cases hw : w.2.2 = []
      · exact hit (f + 1) w a hw ih r hr
      · rw [coll_succ hw] at hr
        obtain ⟨V, v1, v2⟩ := ihf _ r hr
        have hl := kids_len re tx w
        rw [List.length_append] at v1
        refine ⟨w :: V, by rw [List.length_cons, List.length_cons]; omega, fun u hu v hv => ?_⟩
        rcases List.mem_cons.1 hu with rfl | hu
        · cases hv with
          | refl _ => exact List.mem_cons_self ..
          | step h1 h2 => exact List.mem_cons_of_mem _ (v2 _ (List.mem_append_left _ h1) v h2)
        · exact List.mem_cons_of_mem _ (v2 u (List.mem_append_right _ hu) v hv)
theorem nodup_le {α : Type} [DecidableEq α] : ∀ (l m : List α), l.Nodup → (∀ x ∈ l, x ∈ m) → l.length ≤ m.length
  | [], _, _, _ => Nat.zero_le _
  | x :: l, m, hd, hs => by
    have h1 := nodup_le l (m.erase x) (List.nodup_cons.1 hd).2 (fun y hy => (List.mem_erase_of_ne (fun (e : y = x) => (List.nodup_cons.1 hd).1 (e ▸ hy))).2 (hs y (List.mem_cons_of_mem _ hy)))
    have h2 := List.length_erase_of_mem (hs x (List.mem_cons_self ..))
    have h3 := List.length_pos_of_mem (hs x (List.mem_cons_self ..))
    rw [List.length_cons]
    omega
theorem seen_len {w0 : Wy} {f : Nat} {r : Nat × List Sp} (h : coll re tx a0 f [w0] = some r) {l : List Pt} (h1 : l.Nodup) (h2 : ∀ q ∈ l, ∃ row, Seen re tx w0 (q.1, q.2, row)) : l.length ≤ 2 * f + 1 := by
  obtain ⟨V, v1, v2⟩ := coll_seen f [w0] r h
  have := nodup_le l (V.map fun w => (w.1, w.2.1)) h1 (fun q hq => by
    obtain ⟨row, hs⟩ := h2 q hq
    exact List.mem_map.2 ⟨_, v2 w0 (List.mem_singleton.2 rfl) _ hs, rfl⟩)
  rw [List.length_map] at this
  rw [List.length_singleton] at v1
  omega
theorem notes_max {tx : List UInt8} {a0 : Int} (htx : tx.length ≤ 1000000000) (h0 : 0 ≤ a0) : ∀ (l : List Sp) (b : Bst), (b.1 = true → HOk g tx a0 b.2) → (∀ h ∈ l, HOk g tx a0 h) →
    ((l.foldl note b).1 = true ↔ b.1 = true ∨ l ≠ []) ∧ ((l.foldl note b).1 = true → ((b.1 = true ∧ (l.foldl note b).2 = b.2) ∨ (l.foldl note b).2 ∈ l) ∧ (b.1 = true → ¬ keyL (l.foldl note b).2 < keyL b.2) ∧ ∀ x ∈ l, ¬ keyL (l.foldl note b).2 < keyL x) ∧ ((l.foldl note b).1 = false → (l.foldl note b).2 = b.2)
  | [], b, _, _ => ⟨⟨.inl, fun h => h.elim id fun h => absurd rfl h⟩, fun h => ⟨.inl ⟨h, rfl⟩, fun _ => List.lt_irrefl _, fun x hx => by cases hx⟩, fun _ => rfl⟩
  | y :: l, b, hb, hl => by
    have hy := hl y (List.mem_cons_self ..)
    have n1 : (note b y).1 = true := by
      unfold note
      split
      · rename_i h; exact h.1
      · rfl
    obtain ⟨i1, i2, i3⟩ := notes_max htx h0 l (note b y) (note_ok hb hy) (fun h hh => hl h (List.mem_cons_of_mem _ hh))
    show (((l.foldl note (note b y)).1 = true) ↔ _) ∧ (((l.foldl note (note b y)).1 = true) → _) ∧ (((l.foldl note (note b y)).1 = false) → _)
    have e1 : (l.foldl note (note b y)).1 = true := i1.2 (.inl n1)
    refine ⟨⟨fun _ => .inr (by simp), fun _ => e1⟩, fun _ => ?_, fun h => by rw [e1] at h; cases h⟩
    obtain ⟨j1, j2, j3⟩ := i2 e1
    have j4 := j2 n1
    clear j2
    show ((b.1 = true ∧ (l.foldl note (note b y)).2 = b.2) ∨ (l.foldl note (note b y)).2 ∈ y :: l) ∧ (b.1 = true → ¬ keyL (l.foldl note (note b y)).2 < keyL b.2) ∧ ∀ x ∈ y :: l, ¬ keyL (l.foldl note (note b y)).2 < keyL x
    generalize (l.foldl note (note b y)).2 = z at *
    by_cases hc : b.1 = true ∧ betterM y b.2 = false
    · have e : note b y = b := by unfold note; rw [if_pos hc]
      rw [e] at j1 j4
      refine ⟨j1.imp id fun h => List.mem_cons_of_mem _ h, fun _ => j4, fun x hx => ?_⟩
      rcases List.mem_cons.1 hx with rfl | hx
      · intro hlt
        have h1 : ¬ keyL b.2 < keyL x := fun q => by
          have := (better_lt (hok_v htx h0 hy) (hok_v htx h0 (hb hc.1))).2 q
          rw [hc.2] at this; cases this
        rcases Classical.em (keyL z < keyL b.2) with h2 | h2
        · exact j4 h2
        · exact h1 (List.lt_of_le_of_lt (List.not_lt.1 h2) hlt)
      · exact j3 x hx
    · have e : note b y = (true, y) := by unfold note; rw [if_neg hc]
      rw [e] at j1 j4
      refine ⟨.inr (j1.elim (fun h => h.2 ▸ List.mem_cons_self ..) fun h => List.mem_cons_of_mem _ h), fun hbt hlt => ?_, fun x hx => ?_⟩
      · have hbt' : betterM y b.2 = true := by
          cases h : betterM y b.2 with
          | true => rfl
          | false => exact absurd ⟨hbt, h⟩ hc
        have h1 := (better_lt (hok_v htx h0 hy) (hok_v htx h0 (hb hbt))).1 hbt'
        exact j4 (List.lt_trans hlt h1)
      · rcases List.mem_cons.1 hx with rfl | hx
        · exact j4
        · exact j3 x hx
/-- The best of the same matches is the same. -/
theorem notes_set {tx : List UInt8} {a0 : Int} (htx : tx.length ≤ 1000000000) (h0 : 0 ≤ a0) {l m : List Sp} (z : Sp) (hl : ∀ h ∈ l, HOk g tx a0 h) (hlm : ∀ h, h ∈ l ↔ h ∈ m) : l.foldl note (false, z) = m.foldl note (false, z) := by
  obtain ⟨a1, a2, a3⟩ := notes_max (g := g) htx h0 l (false, z) (fun h => by cases h) hl
  obtain ⟨b1, b2, b3⟩ := notes_max (g := g) htx h0 m (false, z) (fun h => by cases h) (fun h hh => hl h ((hlm h).2 hh))
  generalize l.foldl note (false, z) = p at *
  generalize m.foldl note (false, z) = q at *
  have hnil : l ≠ [] ↔ m ≠ [] := by
    constructor
    · intro h e; subst e
      obtain ⟨x, hx⟩ := List.exists_mem_of_ne_nil _ h
      have := (hlm x).1 hx
      cases this
    · intro h e; subst e
      obtain ⟨x, hx⟩ := List.exists_mem_of_ne_nil _ h
      have := (hlm x).2 hx
      cases this
  obtain ⟨p1, p2⟩ := p
  obtain ⟨q1, q2⟩ := q
  cases p1 with
  | true =>
    have hq : q1 = true := b1.2 (.inr (hnil.1 ((a1.1 rfl).resolve_left (fun h => by cases h))))
    subst hq
    obtain ⟨a4, _, a5⟩ := a2 rfl
    obtain ⟨b4, _, b5⟩ := b2 rfl
    have a4 := a4.resolve_left (fun h => by cases h.1)
    have b4 := b4.resolve_left (fun h => by cases h.1)
    have h1 := a5 _ ((hlm _).2 b4)
    have h2 := b5 _ ((hlm _).1 a4)
    have : keyL p2 = keyL q2 := List.le_antisymm (List.not_lt.1 h2) (List.not_lt.1 h1)
    have e : p2 = q2 := key_inj htx h0 (hl _ a4) (hl _ ((hlm _).2 b4)) this
    rw [e]
  | false =>
    cases q1 with
    | true => exact absurd (a1.2 (.inr (hnil.2 ((b1.1 rfl).resolve_left (fun h => by cases h))))) (fun h => by cases h)
    | false => rw [show p2 = z from a3 rfl, show q2 = z from b3 rfl]
end
end Go.Proofs.Ytnjnbegjhklcgaa
