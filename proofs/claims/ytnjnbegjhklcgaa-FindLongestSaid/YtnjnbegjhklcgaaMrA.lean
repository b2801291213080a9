
/- All points to which a node may come: the relation, in plain terms. -/
import Derived.Test.YtnjnbegjhklcgaaMtK
namespace Go.Proofs.Ytnjnbegjhklcgaa
abbrev Pt := Int × Sp
def withM (l : List Pt) (p : Pt) : List Pt := if p ∈ l then l else l ++ [p]
def joinM (l m : List Pt) : List Pt := m.foldl withM l
def seqM (f : Pt → List Pt) (out l : List Pt) : List Pt := l.foldl (fun o q => joinM o (f q)) out
def oneM (k lo : Int) (p : Pt) (s : List Pt × List Pt) (q : Pt) : List Pt × List Pt := if q.1 = p.1 then (if k < lo then (withM s.1 q, s.2) else s) else (s.1, withM s.2 q)
def splitM (k lo : Int) (p : Pt) (l : List Pt) (s : List Pt × List Pt) : List Pt × List Pt := l.foldl (oneM k lo p) s
def roundM (f : Pt → List Pt) (k lo : Int) (now : List Pt) (s : List Pt × List Pt) : List Pt × List Pt := now.foldl (fun s p => splitM k lo p (f p) s) s
def timesR (f : Pt → List Pt) (lo hi : Int) : Nat → Int → List Pt → List Pt → List Pt
  | 0, _, out, _ => out
  | R + 1, k, out, now => if now = [] then out else
    if 0 ≤ hi ∧ hi ≤ k then (if lo ≤ k then joinM out now else out) else
    timesR f lo hi R (k + 1) (roundM f k lo now (if lo ≤ k then joinM out now else out, [])).1 (roundM f k lo now (if lo ≤ k then joinM out now else out, [])).2
def reachM (re : List ND) (tx : List UInt8) : Nat → Int → Pt → List Pt
  | 0, _, _ => []
  | k + 1, i, p => match re[i.toNat]? with
    | none => []
    | some n =>
      if n.1 = 1 then (if (tx.length : Int) ≤ p.1 then [] else match tx[p.1.toNat]? with
        | none => []
        | some c => if memS n.2.2.2.2.2.2 c.toNat = true then [(p.1 + 1, p.2)] else [])
      else if n.1 = 2 then seqM (reachM re tx k n.2.2.1) [] (reachM re tx k n.2.1 p)
      else if n.1 = 3 then joinM (reachM re tx k n.2.1 p) (reachM re tx k n.2.2.1 p)
      else if n.1 = 4 then timesR (reachM re tx k n.2.1) n.2.2.2.1 n.2.2.2.2.1 (tx.length + 2) 0 [] [p]
      else if n.1 = 5 then joinM [] ((reachM re tx k n.2.1 p).map fun q => (q.1, Arr.set q.2 n.2.2.2.2.2.1.toNat (p.1, q.1)))
      else if n.1 = 6 then match p.2.l[n.2.2.2.2.2.1.toNat]? with
        | none => []
        | some x => if sameM tx x p.1 < 0 then [] else [(sameM tx x p.1, p.2)]
      else if n.1 = 7 then (if p.1 = 0 then [p] else [])
      else if n.1 = 8 then (if p.1 = (tx.length : Int) then [p] else [])
      else [p]
theorem mem_with {l : List Pt} {p q : Pt} : q ∈ withM l p ↔ q ∈ l ∨ q = p := by
  unfold withM
  split
  · rename_i h
    exact ⟨.inl, fun h' => h'.elim id fun e => e ▸ h⟩
  · rw [List.mem_append, List.mem_singleton]
theorem mem_join {m : List Pt} {q : Pt} : ∀ {l : List Pt}, q ∈ joinM l m ↔ q ∈ l ∨ q ∈ m := by
  induction m with
  | nil => intro l; exact ⟨.inl, fun h => h.elim id fun h => by cases h⟩
  | cons p m ih =>
    intro l
    show q ∈ joinM (withM l p) m ↔ _
    rw [ih, mem_with, List.mem_cons, or_assoc]
theorem mem_seq {f : Pt → List Pt} {l : List Pt} {q : Pt} : ∀ {o : List Pt}, q ∈ seqM f o l ↔ q ∈ o ∨ ∃ p ∈ l, q ∈ f p := by
  induction l with
  | nil => intro o; exact ⟨.inl, fun h => h.elim id fun ⟨p, h, _⟩ => by cases h⟩
  | cons p l ih =>
    intro o
    show q ∈ seqM f (joinM o (f p)) l ↔ _
    rw [ih, mem_join, or_assoc]
    refine or_congr_right ⟨fun h => h.elim (fun h => ⟨p, List.mem_cons_self .., h⟩) fun ⟨x, h1, h2⟩ => ⟨x, List.mem_cons_of_mem _ h1, h2⟩, fun ⟨x, h1, h2⟩ => ?_⟩
    rcases List.mem_cons.1 h1 with rfl | h1
    · exact .inl h2
    · exact .inr ⟨x, h1, h2⟩
theorem mem_one1 {k lo : Int} {p q y : Pt} {s : List Pt × List Pt} : y ∈ (oneM k lo p s q).1 ↔ y ∈ s.1 ∨ (k < lo ∧ y = q ∧ q.1 = p.1) := by
  unfold oneM
  split
  · split
    · rename_i h1 h2
      rw [mem_with]
      exact or_congr_right ⟨fun e => ⟨h2, e, h1⟩, fun e => e.2.1⟩
    · rename_i h1 h2
      exact ⟨.inl, fun h => h.elim id fun h => absurd h.1 h2⟩
  · rename_i h1
    exact ⟨.inl, fun h => h.elim id fun h => absurd h.2.2 h1⟩
theorem mem_one2 {k lo : Int} {p q y : Pt} {s : List Pt × List Pt} : y ∈ (oneM k lo p s q).2 ↔ y ∈ s.2 ∨ (y = q ∧ q.1 ≠ p.1) := by
  unfold oneM
  split
  · rename_i h1
    have e : ∀ z : List Pt × List Pt, z.2 = s.2 → (y ∈ z.2 ↔ y ∈ s.2 ∨ (y = q ∧ q.1 ≠ p.1)) := fun z hz => by
      rw [hz]; exact ⟨.inl, fun h => h.elim id fun h => absurd h1 h.2⟩
    split
    · exact e _ rfl
    · exact e _ rfl
  · rename_i h1
    rw [mem_with]
    exact or_congr_right ⟨fun e => ⟨e, h1⟩, fun e => e.1⟩
theorem mem_split1 {k lo : Int} {p y : Pt} {l : List Pt} : ∀ {s : List Pt × List Pt}, y ∈ (splitM k lo p l s).1 ↔ y ∈ s.1 ∨ (k < lo ∧ y ∈ l ∧ y.1 = p.1) := by
  induction l with
  | nil => intro s; exact ⟨.inl, fun h => h.elim id fun h => by cases h.2.1⟩
  | cons q l ih =>
    intro s
    show y ∈ (splitM k lo p l (oneM k lo p s q)).1 ↔ _
    rw [ih, mem_one1, or_assoc, List.mem_cons]
    refine or_congr_right ⟨fun h => h.elim (fun h => ⟨h.1, .inl h.2.1, h.2.1 ▸ h.2.2⟩) fun h => ⟨h.1, .inr h.2.1, h.2.2⟩, fun h => ?_⟩
    rcases h.2.1 with rfl | h2
    · exact .inl ⟨h.1, rfl, h.2.2⟩
    · exact .inr ⟨h.1, h2, h.2.2⟩
theorem mem_split2 {k lo : Int} {p y : Pt} {l : List Pt} : ∀ {s : List Pt × List Pt}, y ∈ (splitM k lo p l s).2 ↔ y ∈ s.2 ∨ (y ∈ l ∧ y.1 ≠ p.1) := by
  induction l with
  | nil => intro s; exact ⟨.inl, fun h => h.elim id fun h => by cases h.1⟩
  | cons q l ih =>
    intro s
    show y ∈ (splitM k lo p l (oneM k lo p s q)).2 ↔ _
    rw [ih, mem_one2, or_assoc, List.mem_cons]
    refine or_congr_right ⟨fun h => h.elim (fun h => ⟨.inl h.1, h.1 ▸ h.2⟩) fun h => ⟨.inr h.1, h.2⟩, fun h => ?_⟩
    rcases h.1 with rfl | h2
    · exact .inl ⟨rfl, h.2⟩
    · exact .inr ⟨h2, h.2⟩
theorem mem_round1 {f : Pt → List Pt} {k lo : Int} {y : Pt} {now : List Pt} : ∀ {s : List Pt × List Pt}, y ∈ (roundM f k lo now s).1 ↔ y ∈ s.1 ∨ (∃ p ∈ now, k < lo ∧ y ∈ f p ∧ y.1 = p.1) := by
  induction now with
  | nil => intro s; exact ⟨.inl, fun h => h.elim id fun ⟨p, h, _⟩ => by cases h⟩
  | cons p now ih =>
    intro s
    show y ∈ (roundM f k lo now (splitM k lo p (f p) s)).1 ↔ _
    rw [ih, mem_split1, or_assoc]
    refine or_congr_right ⟨fun h => h.elim (fun h => ⟨p, List.mem_cons_self .., h⟩) fun ⟨x, h1, h2⟩ => ⟨x, List.mem_cons_of_mem _ h1, h2⟩, fun ⟨x, h1, h2⟩ => ?_⟩
    rcases List.mem_cons.1 h1 with rfl | h1
    · exact .inl h2
    · exact .inr ⟨x, h1, h2⟩
theorem mem_round2 {f : Pt → List Pt} {k lo : Int} {y : Pt} {now : List Pt} : ∀ {s : List Pt × List Pt}, y ∈ (roundM f k lo now s).2 ↔ y ∈ s.2 ∨ (∃ p ∈ now, y ∈ f p ∧ y.1 ≠ p.1) := by
  induction now with
  | nil => intro s; exact ⟨.inl, fun h => h.elim id fun ⟨p, h, _⟩ => by cases h⟩
  | cons p now ih =>
    intro s
    show y ∈ (roundM f k lo now (splitM k lo p (f p) s)).2 ↔ _
    rw [ih, mem_split2, or_assoc]
    refine or_congr_right ⟨fun h => h.elim (fun h => ⟨p, List.mem_cons_self .., h⟩) fun ⟨x, h1, h2⟩ => ⟨x, List.mem_cons_of_mem _ h1, h2⟩, fun ⟨x, h1, h2⟩ => ?_⟩
    rcases List.mem_cons.1 h1 with rfl | h1
    · exact .inl h2
    · exact .inr ⟨x, h1, h2⟩
/-- A way comes to another one; a way's matches. -/
inductive Seen (re : List ND) (tx : List UInt8) : Wy → Wy → Prop
  | refl (w : Wy) : Seen re tx w w
  | step {w v u : Wy} : v ∈ kidsM re tx w → Seen re tx v u → Seen re tx w u
inductive Hits (re : List ND) (tx : List UInt8) (o8 : Int) : Wy → Sp → Prop
  | done {w : Wy} : w.2.2 = [] → Hits re tx o8 w (hitW o8 w)
  | step {w v : Wy} {h : Sp} : v ∈ kidsM re tx w → Hits re tx o8 v h → Hits re tx o8 w h
section
variable {re : List ND} {tx : List UInt8} {a0 : Int} {g : Int}
theorem Seen.trans {w v u : Wy} (h : Seen re tx w v) (k : Seen re tx v u) : Seen re tx w u := by
  induction h with
  | refl _ => exact k
  | step h1 _ ih => exact .step h1 (ih k)
theorem Seen.one {w v : Wy} (h : v ∈ kidsM re tx w) : Seen re tx w v := .step h (.refl _)
theorem Seen.hits {w v : Wy} (h : Seen re tx w v) {x : Sp} (k : Hits re tx a0 v x) : Hits re tx a0 w x := by
  induction h with
  | refl _ => exact k
  | step h1 _ ih => exact .step h1 (ih k)
theorem kids_none {w : Wy} (h : w.2.2 = []) : kidsM re tx w = [] := by
  obtain ⟨a, s, r⟩ := w
  have : r = [] := h
  subst this; rfl
theorem Hits.inv {w : Wy} {h : Sp} (hh : Hits re tx a0 w h) (hw : w.2.2 ≠ []) : ∃ v ∈ kidsM re tx w, Hits re tx a0 v h := by
  cases hh with
  | done e => exact absurd e hw
  | step h1 h2 => exact ⟨_, h1, h2⟩
theorem Seen.ok (hn : NOk re g) (ha : 0 ≤ a0) {w v : Wy} (h : Seen re tx w v) (hw : KOk re g tx a0 w) : KOk re g tx a0 v := by
  induction h with
  | refl _ => exact hw
  | step h1 _ ih => exact ih (kids_ok hn ha hw _ h1)
theorem kidsT_pos {w v : Wy} {i k : Int} (h : v ∈ kidsT re w i k) : v.1 = w.1 := by
  unfold kidsT at h
  split at h
  · cases h
  · rcases List.mem_append.1 h with h | h
    · split at h
      · rw [List.mem_singleton.1 h]
      · cases h
    · split at h
      · rw [List.mem_singleton.1 h]
      · cases h
theorem kidsN_pos {w v : Wy} {i : Int} (hn : NOk re g) (hw : SpOk g a0 w.1 w.2.1) (h : v ∈ kidsN re tx w i) : w.1 ≤ v.1 := by
  unfold kidsN at h
  cases hx : re[i.toNat]? with
  | none => rw [hx] at h; cases h
  | some n =>
  rw [hx] at h
  simp only at h
  by_cases k1 : n.1 = 1
  · rw [if_pos k1] at h
    split at h
    · cases h
    · split at h
      · cases h
      · split at h
        · rw [List.mem_singleton.1 h]; show w.1 ≤ w.1 + 1; omega
        · cases h
  rw [if_neg k1] at h
  by_cases k2 : n.1 = 2
  · rw [if_pos k2] at h; rw [List.mem_singleton.1 h]; exact Int.le_refl _
  rw [if_neg k2] at h
  by_cases k3 : n.1 = 3
  · rw [if_pos k3] at h
    rcases List.mem_cons.1 h with rfl | h
    · exact Int.le_refl _
    · rw [List.mem_singleton.1 h]; exact Int.le_refl _
  rw [if_neg k3] at h
  by_cases k5 : n.1 = 5
  · rw [if_pos k5] at h; rw [List.mem_singleton.1 h]; exact Int.le_refl _
  rw [if_neg k5] at h
  by_cases k6 : n.1 = 6
  · rw [if_pos k6] at h
    split at h
    · cases h
    · rename_i x hxx
      split at h
      · cases h
      · rename_i hf
        split at h
        · have hgr := (hn _ _ hx).2.1 (.inr k6)
          obtain ⟨p1, p2, p3, p4⟩ := (hw _ x (by omega) hxx).resolve_left (fun e => by rw [e] at hf; exact hf (by decide))
          rw [List.mem_singleton.1 h]; show w.1 ≤ w.1 + (x.2 - x.1); omega
        · cases h
  rw [if_neg k6] at h
  have self : ∀ {c : Prop} [Decidable c], v ∈ (if c then [w] else []) → w.1 ≤ v.1 := by
    intro c _ h
    split at h
    · rw [List.mem_singleton.1 h]; exact Int.le_refl _
    · cases h
  by_cases k7 : n.1 = 7
  · rw [if_pos k7] at h; exact self h
  rw [if_neg k7] at h
  by_cases k8 : n.1 = 8
  · rw [if_pos k8] at h; exact self h
  rw [if_neg k8] at h
  by_cases k4 : n.1 = 4
  · rw [if_pos k4] at h; rw [kidsT_pos h]; exact Int.le_refl _
  · rw [if_neg k4] at h; rw [List.mem_singleton.1 h]; exact Int.le_refl _
theorem kids_pos {w v : Wy} (hn : NOk re g) (hw : SpOk g a0 w.1 w.2.1) (h : v ∈ kidsM re tx w) : w.1 ≤ v.1 := by
  obtain ⟨a, sp, row⟩ := w
  cases row with
  | nil => cases h
  | cons c tl =>
    simp only [kidsM] at h
    by_cases h1 : c.1 = 1
    · rw [if_pos h1] at h; rw [List.mem_singleton.1 h]; exact Int.le_refl _
    rw [if_neg h1] at h
    by_cases h2 : c.1 = 2
    · rw [if_pos h2] at h
      split at h
      · split at h
        · cases h
        · split at h
          · rw [List.mem_singleton.1 h]; exact Int.le_refl _
          · cases h
      · rw [kidsT_pos h]; exact Int.le_refl _
    · rw [if_neg h2] at h
      exact kidsN_pos (w := (a, sp, tl)) hn hw h
theorem Seen.pos (hn : NOk re g) (ha : 0 ≤ a0) {w v : Wy} (h : Seen re tx w v) (hw : KOk re g tx a0 w) : w.1 ≤ v.1 := by
  induction h with
  | refl _ => exact Int.le_refl _
  | step h1 _ ih => exact Int.le_trans (kids_pos hn hw.1.2.2.1 h1) (ih (kids_ok hn ha hw _ h1))
theorem kids_node {p : Pt} {i : Int} {tl : List (Int × Int × Int × Int)} : kidsM re tx (p.1, p.2, (0, i, 0, 0) :: tl) = kidsN re tx (p.1, p.2, tl) i := rfl
/-- What the points of a node's task are. -/
def Spec (re : List ND) (g : Int) (tx : List UInt8) (a0 : Int) (i : Int) (f : Pt → List Pt) : Prop :=
  ∀ (p : Pt) tl, KOk re g tx a0 (p.1, p.2, (0, i, 0, 0) :: tl) → (∀ q ∈ f p, Seen re tx (p.1, p.2, (0, i, 0, 0) :: tl) (q.1, q.2, tl)) ∧ ∀ h, Hits re tx a0 (p.1, p.2, (0, i, 0, 0) :: tl) h → ∃ q ∈ f p, Hits re tx a0 (q.1, q.2, tl) h
theorem kids_two {q : Pt} {i k P : Int} {tl : List (Int × Int × Int × Int)} {n : ND} (hx : re[i.toNat]? = some n) : kidsM re tx (q.1, q.2, (2, i, k, P) :: tl) = if q.1 = P then (if k ≤ n.2.2.2.1 then [(q.1, q.2, tl)] else []) else kidsT re (q.1, q.2, tl) i k := by
  simp only [kidsM]
  rw [if_neg (by decide), if_pos trivial, hx]
theorem kidsT_eq {w : Wy} {i k : Int} {n : ND} (hx : re[i.toNat]? = some n) : kidsT re w i k = (if n.2.2.2.2.1 = -1 ∨ k < n.2.2.2.2.1 then [(w.1, w.2.1, (0, n.2.1, 0, 0) :: (2, i, k + 1, w.1) :: w.2.2)] else []) ++ (if n.2.2.2.1 ≤ k then [w] else []) := by
  unfold kidsT; rw [hx]
theorem times_up {f : Pt → List Pt} {lo hi : Int} {q : Pt} : ∀ (R : Nat) (k : Int) (out now : List Pt), q ∈ out → q ∈ timesR f lo hi R k out now
  | 0, _, _, _, h => h
  | R + 1, k, out, now, h => by
    have h1 : q ∈ (if lo ≤ k then joinM out now else out) := by
      split
      · exact mem_join.2 (.inl h)
      · exact h
    unfold timesR
    split
    · exact h
    · split
      · exact h1
      · exact times_up R _ _ _ (mem_round1.2 (.inl h1))
theorem times_in {f : Pt → List Pt} {i A : Int} {n : ND} {tl : List (Int × Int × Int × Int)} (hn : NOk re g) (ha : 0 ≤ a0) (hx : re[i.toNat]? = some n) (h4 : n.1 = 4) (hA : A = n.2.1) (hhi : n.2.2.2.2.1 = -1 ∨ 0 ≤ n.2.2.2.2.1) (hi0 : 0 ≤ i) (hi1 : i < re.length) (hf : Spec re g tx a0 A f) :
    ∀ (R : Nat) (k : Int) (out now : List Pt), 0 ≤ k → (∀ p ∈ now, KOk re g tx a0 (p.1, p.2, tl) ∧ k ≤ p.1 ∧ (tx.length : Int) - p.1 < R) →
      (∀ q ∈ timesR f n.2.2.2.1 n.2.2.2.2.1 R k out now, q ∈ out ∨ ∃ p ∈ now, ∃ v ∈ kidsT re (p.1, p.2, tl) i k, Seen re tx v (q.1, q.2, tl)) ∧
      (∀ p ∈ now, ∀ v ∈ kidsT re (p.1, p.2, tl) i k, ∀ h, Hits re tx a0 v h → ∃ q ∈ timesR f n.2.2.2.1 n.2.2.2.2.1 R k out now, Hits re tx a0 (q.1, q.2, tl) h)
  | 0, k, out, now, _, hnow => by
    refine ⟨fun q hq => .inl hq, fun p hp => ?_⟩
    obtain ⟨h1, _, h3⟩ := hnow p hp
    have : p.1 ≤ tx.length := h1.1.2.1
    omega
  | R + 1, k, out, now, hk, hnow => by
    have hki : ∀ w : Wy, kidsT re w i k = _ := fun w => kidsT_eq hx
    have out1 : ∀ q, q ∈ (if n.2.2.2.1 ≤ k then joinM out now else out) ↔ q ∈ out ∨ (n.2.2.2.1 ≤ k ∧ q ∈ now) := by
      intro q
      split
      · rename_i h; rw [mem_join]; exact or_congr_right ⟨fun e => ⟨h, e⟩, fun e => e.2⟩
      · rename_i h; exact ⟨.inl, fun e => e.elim id fun e => absurd e.1 h⟩
    unfold timesR
    split
    · rename_i h0
      exact ⟨fun q hq => .inl hq, fun p hp => by rw [h0] at hp; cases hp⟩
    rename_i h0
    have exit1 : ∀ p ∈ now, n.2.2.2.1 ≤ k → ((p.1, p.2, tl) : Wy) ∈ kidsT re (p.1, p.2, tl) i k := fun p _ h => by
      rw [hki, if_pos h]; exact List.mem_append_right _ (List.mem_singleton.2 rfl)
    split
    · rename_i hs
      refine ⟨fun q hq => ((out1 q).1 hq).imp id fun ⟨h1, h2⟩ => ⟨q, h2, _, exit1 q h2 h1, .refl _⟩, fun p hp v hv h hh => ?_⟩
      rw [hki, if_neg (by omega), List.nil_append] at hv
      split at hv
      · rename_i hl
        rw [List.mem_singleton.1 hv] at hh
        exact ⟨p, (out1 p).2 (.inr ⟨hl, hp⟩), hh⟩
      · cases hv
    · rename_i hs
      have hgo : n.2.2.2.2.1 = -1 ∨ k < n.2.2.2.2.1 := by omega
      have kin : ∀ p : Pt, ((p.1, p.2, (0, A, 0, 0) :: (2, i, k + 1, p.1) :: tl) : Wy) ∈ kidsT re (p.1, p.2, tl) i k := fun p => by
        rw [hki, if_pos hgo, hA]; exact List.mem_append_left _ (List.mem_singleton.2 rfl)
      have kok : ∀ p ∈ now, KOk re g tx a0 (p.1, p.2, (0, A, 0, 0) :: (2, i, k + 1, p.1) :: tl) := fun p hp =>
        kidsT_ok (w := (p.1, p.2, tl)) hn (hnow p hp).1 (fun m hm => by rw [hx] at hm; injection hm with e; rw [← e]; exact h4) hi0 hi1 ⟨hk, (hnow p hp).2.1⟩ _ (kin p)
      have two : ∀ p ∈ now, ∀ q ∈ f p, KOk re g tx a0 (q.1, q.2, (2, i, k + 1, p.1) :: tl) ∧ p.1 ≤ q.1 := fun p hp q hq =>
        ⟨((hf p _ (kok p hp)).1 q hq).ok hn ha (kok p hp), ((hf p _ (kok p hp)).1 q hq).pos hn ha (kok p hp)⟩
      have nx : ∀ q ∈ (roundM f k n.2.2.2.1 now (if n.2.2.2.1 ≤ k then joinM out now else out, [])).2, ∃ p ∈ now, q ∈ f p ∧ q.1 ≠ p.1 := fun q hq =>
        (mem_round2.1 hq).elim (fun h => by cases h) id
      have inv : ∀ q ∈ (roundM f k n.2.2.2.1 now (if n.2.2.2.1 ≤ k then joinM out now else out, [])).2, KOk re g tx a0 (q.1, q.2, tl) ∧ k + 1 ≤ q.1 ∧ (tx.length : Int) - q.1 < R := by
        intro q hq
        obtain ⟨p, hp, h1, h2⟩ := nx q hq
        obtain ⟨t1, t2⟩ := two p hp q h1
        obtain ⟨n1, n2, n3⟩ := hnow p hp
        refine ⟨⟨t1.1.row fun t ht => t1.1.2.2.2 t (List.mem_cons_of_mem _ ht), fun t ht => t1.2 t (List.mem_cons_of_mem _ ht)⟩, by omega, by omega⟩
      obtain ⟨ih1, ih2⟩ := times_in hn ha hx h4 hA hhi hi0 hi1 hf R (k + 1) (roundM f k n.2.2.2.1 now (if n.2.2.2.1 ≤ k then joinM out now else out, [])).1 _ (by omega) inv
      constructor
      · intro q hq
        rcases ih1 q hq with h | ⟨p', hp', v, hv, hs'⟩
        · rcases mem_round1.1 h with h | ⟨p, hp, h1, h2, h3⟩
          · exact ((out1 q).1 h).imp id fun ⟨h1, h2⟩ => ⟨q, h2, _, exit1 q h2 h1, .refl _⟩
          · refine .inr ⟨p, hp, _, kin p, ((hf p _ (kok p hp)).1 q h2).trans (.one ?_)⟩
            rw [kids_two hx, if_pos h3, if_pos (by omega)]; exact List.mem_singleton.2 rfl
        · obtain ⟨p, hp, h1, h2⟩ := nx p' hp'
          refine .inr ⟨p, hp, _, kin p, ((hf p _ (kok p hp)).1 p' h1).trans (.step ?_ hs')⟩
          rw [kids_two hx, if_neg h2]; exact hv
      · intro p hp v hv h hh
        rw [hki] at hv
        rcases List.mem_append.1 hv with hv | hv
        · rw [if_pos hgo] at hv
          rw [List.mem_singleton.1 hv] at hh
          obtain ⟨q, hq, hq2⟩ := (hf p ((2, i, k + 1, p.1) :: tl) (kok p hp)).2 h (by rw [hA]; exact hh)
          obtain ⟨v', hv', hh'⟩ := hq2.inv (by simp)
          rw [kids_two hx] at hv'
          split at hv'
          · rename_i he
            split at hv'
            · rename_i hl
              rw [List.mem_singleton.1 hv'] at hh'
              exact ⟨q, times_up R _ _ _ (mem_round1.2 (.inr ⟨p, hp, by omega, hq, he⟩)), hh'⟩
            · cases hv'
          · rename_i he
            exact ih2 q (mem_round2.2 (.inr ⟨p, hp, hq, he⟩)) v' hv' h hh'
        · split at hv
          · rename_i hl
            rw [List.mem_singleton.1 hv] at hh
            exact ⟨p, times_up R _ _ _ (mem_round1.2 (.inl ((out1 p).2 (.inr ⟨hl, hp⟩)))), hh⟩
          · cases hv
end
end Go.Proofs.Ytnjnbegjhklcgaa
