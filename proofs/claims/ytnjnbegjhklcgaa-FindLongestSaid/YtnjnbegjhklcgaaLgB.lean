
/- How many points there are, without fuel. -/
import Derived.Test.YtnjnbegjhklcgaaLgA
namespace Go.Proofs.Ytnjnbegjhklcgaa
abbrev T4 := Int × Int × Int × Int
/-- Two groups, the one round the other. -/
def Pair (re : List ND) (o c go gc : Int) : Prop :=
  (∃ n, re[o.toNat]? = some n ∧ n.1 = 5 ∧ n.2.1 = c ∧ n.2.2.2.2.2.1 = go) ∧ (∃ n, re[c.toNat]? = some n ∧ n.1 = 5 ∧ n.2.2.2.2.2.1 = gc) ∧ 0 ≤ c ∧ c < o ∧
  (∀ (i : Nat) n, re[i]? = some n → c ∈ partsL n → (i : Int) = o) ∧ (∀ (i : Nat) n, re[i]? = some n → n.1 = 5 → n.2.2.2.2.2.1 = go → (i : Int) = o) ∧ (∀ (i : Nat) n, re[i]? = some n → n.1 = 5 → n.2.2.2.2.2.1 = gc → (i : Int) = c) ∧ go ≠ gc ∧ 1 ≤ go ∧ go ≤ 9 ∧ 1 ≤ gc ∧ gc ≤ 9
inductive Fine (c go gc : Int) : List T4 → Prop
  | nil : Fine c go gc []
  | cons {t : T4} {tl : List T4} : ¬ (t.1 = 0 ∧ t.2.1 = c) → (t.1 = 1 → t.2.1 ≠ gc ∧ t.2.1 ≠ go) → Fine c go gc tl → Fine c go gc (t :: tl)
  | pair {P : Int} {tl : List T4} : Fine c go gc tl → Fine c go gc ((1, gc, 0, P) :: (1, go, 0, P) :: tl)
def WI (c go gc : Int) (w : Wy) : Prop :=
  (Fine c go gc w.2.2 ∧ w.2.1.l[go.toNat]? = w.2.1.l[gc.toNat]?) ∨ (∃ tl, w.2.2 = (0, c, 0, 0) :: (1, go, 0, w.1) :: tl ∧ Fine c go gc tl ∧ w.2.1.l[go.toNat]? = w.2.1.l[gc.toNat]?) ∨
  (∃ P tl, w.2.2 = (1, go, 0, P) :: tl ∧ Fine c go gc tl ∧ w.2.1.l[gc.toNat]? = some (P, w.1))
section
variable {re : List ND} {tx : List UInt8} {a0 : Int} {g o c go gc : Int}
theorem arr_ne {sp : Sp} {i j : Int} {x : Int × Int} (h : i ≠ j) (hi : 0 ≤ i) (hj : 0 ≤ j) : (Arr.set sp i.toNat x).l[j.toNat]? = sp.l[j.toNat]? := by
  show (sp.l.set i.toNat x)[j.toNat]? = _
  rw [List.getElem?_set_ne (by omega)]
theorem arr_eq {sp : Sp} {i : Int} {x : Int × Int} (h0 : 0 ≤ i) (h9 : i ≤ 9) : (Arr.set sp i.toNat x).l[i.toNat]? = some x := by
  show (sp.l.set i.toNat x)[i.toNat]? = _
  rw [List.getElem?_set_self (by rw [sp.len]; omega)]
theorem kidsT_mem {w v : Wy} {i k : Int} {n : ND} (hx : re[i.toNat]? = some n) (h : v ∈ kidsT re w i k) : v = (w.1, w.2.1, (0, n.2.1, 0, 0) :: (2, i, k + 1, w.1) :: w.2.2) ∨ v = w := by
  rw [kidsT_eq hx] at h
  rcases List.mem_append.1 h with h | h
  · split at h
    · exact .inl (List.mem_singleton.1 h)
    · cases h
  · split at h
    · exact .inr (List.mem_singleton.1 h)
    · cases h
/-- What comes of a node's task: the same spans; what is put ahead. -/
theorem kidsN_mem {w v : Wy} {i : Int} {n : ND} (hx : re[i.toNat]? = some n) (h : v ∈ kidsN re tx w i) : v.2.1 = w.2.1 ∧ (v.2.2 = w.2.2 ∨
    (n.1 = 5 ∧ v = (w.1, w.2.1, (0, n.2.1, 0, 0) :: (1, n.2.2.2.2.2.1, 0, w.1) :: w.2.2)) ∨
    (n.1 ≠ 5 ∧ ((∃ x ∈ partsL n, v.2.2 = (0, x, 0, 0) :: w.2.2) ∨ (∃ x ∈ partsL n, ∃ y ∈ partsL n, v.2.2 = (0, x, 0, 0) :: (0, y, 0, 0) :: w.2.2) ∨ ∃ x ∈ partsL n, ∃ k, v.2.2 = (0, x, 0, 0) :: (2, i, k, w.1) :: w.2.2))) := by
  rw [kidsN_eq hx] at h
  by_cases k1 : n.1 = 1
  · rw [if_pos k1] at h
    split at h
    · cases h
    · split at h
      · cases h
      · split at h
        · rw [List.mem_singleton.1 h]; exact ⟨rfl, .inl rfl⟩
        · cases h
  rw [if_neg k1] at h
  by_cases k2 : n.1 = 2
  · rw [if_pos k2] at h; rw [List.mem_singleton.1 h]
    exact ⟨rfl, .inr (.inr ⟨by omega, .inr (.inl ⟨_, parts1 (.inl k2), _, parts2 (.inl k2), rfl⟩)⟩)⟩
  rw [if_neg k2] at h
  by_cases k3 : n.1 = 3
  · rw [if_pos k3] at h
    rcases List.mem_cons.1 h with rfl | h
    · exact ⟨rfl, .inr (.inr ⟨by omega, .inl ⟨_, parts1 (.inr (.inl k3)), rfl⟩⟩)⟩
    · rw [List.mem_singleton.1 h]; exact ⟨rfl, .inr (.inr ⟨by omega, .inl ⟨_, parts2 (.inr k3), rfl⟩⟩)⟩
  rw [if_neg k3] at h
  by_cases k5 : n.1 = 5
  · rw [if_pos k5] at h; rw [List.mem_singleton.1 h]; exact ⟨rfl, .inr (.inl ⟨k5, rfl⟩)⟩
  rw [if_neg k5] at h
  by_cases k6 : n.1 = 6
  · rw [if_pos k6] at h
    split at h
    · cases h
    · split at h
      · cases h
      · split at h
        · rw [List.mem_singleton.1 h]; exact ⟨rfl, .inl rfl⟩
        · cases h
  rw [if_neg k6] at h
  have self : ∀ {p : Prop} [Decidable p], v ∈ (if p then [w] else []) → v = w := by
    intro p _ h
    split at h
    · exact List.mem_singleton.1 h
    · cases h
  by_cases k7 : n.1 = 7
  · rw [if_pos k7] at h; rw [self h]; exact ⟨rfl, .inl rfl⟩
  rw [if_neg k7] at h
  by_cases k8 : n.1 = 8
  · rw [if_pos k8] at h; rw [self h]; exact ⟨rfl, .inl rfl⟩
  rw [if_neg k8] at h
  by_cases k4 : n.1 = 4
  · rw [if_pos k4] at h
    rcases kidsT_mem hx h with rfl | rfl
    · exact ⟨rfl, .inr (.inr ⟨k5, .inr (.inr ⟨_, parts1 (.inr (.inr (.inl k4))), _, rfl⟩)⟩)⟩
    · exact ⟨rfl, .inl rfl⟩
  · rw [if_neg k4] at h; rw [List.mem_singleton.1 h]; exact ⟨rfl, .inl rfl⟩
theorem zero_kids {w v : Wy} (hw : KOk re g tx a0 w) (h : v ∈ kidsM re tx w) : v.2.1.l[0]? = w.2.1.l[0]? := by
  obtain ⟨a, sp, row⟩ := w
  cases row with
  | nil => cases h
  | cons t tl =>
    have ht := hw.1.2.2.2 t (List.mem_cons_self ..)
    simp only [kidsM] at h
    by_cases h1 : t.1 = 1
    · rw [if_pos h1] at h; rw [List.mem_singleton.1 h]
      have h2 : 1 ≤ t.2.1 := ht.elim (fun h => absurd h.1 (by omega)) fun h => h.elim (fun h => h.2.1) fun h => absurd h.1 (by omega)
      exact arr_ne (j := 0) (by omega) (by omega) (Int.le_refl _)
    rw [if_neg h1] at h
    have hin : 0 ≤ t.2.1 ∧ t.2.1 < re.length := ht.elim (fun h => h.2) fun h => h.elim (fun h => absurd h.1 h1) fun h => ⟨h.2.2.1, h.2.2.2.1⟩
    have hx : re[t.2.1.toNat]? = some re[t.2.1.toNat] := List.getElem?_eq_getElem (by omega)
    generalize re[t.2.1.toNat] = n at hx
    by_cases h2 : t.1 = 2
    · rw [if_pos h2] at h
      split at h
      · rw [hx] at h; simp only at h
        split at h
        · rw [List.mem_singleton.1 h]
        · cases h
      · rcases kidsT_mem hx h with rfl | rfl <;> rfl
    · rw [if_neg h2] at h
      rw [(kidsN_mem hx h).1]
theorem wi_kids (hn : NOk re g) (hp : Pair re o c go gc) {w v : Wy} (hw : KOk re g tx a0 w) (hi : WI c go gc w) (h : v ∈ kidsM re tx w) : WI c go gc v := by
  obtain ⟨⟨no, ho1, ho2, ho3, ho4⟩, ⟨nc, hc1, hc2, hc3⟩, hc0, hco, hup, huo, huc, hne, o1, o9, c1, c9⟩ := hp
  have pne : ∀ (j : Int) n, 0 ≤ j → re[j.toNat]? = some n → j ≠ o → ∀ x ∈ partsL n, x ≠ c := fun j n h0 hx hj x hxx e => hj (by have := hup _ n hx (e ▸ hxx); omega)
  have o0 : 0 ≤ o := by omega
  obtain ⟨a, sp, row⟩ := w
  rcases hi with ⟨hf, he⟩ | ⟨tl, e, hf, he⟩ | ⟨P, tl, e, hf, he⟩
  · have hf : Fine c go gc row := hf
    have he : sp.l[go.toNat]? = sp.l[gc.toNat]? := he
    cases hf with
    | nil => cases h
    | @cons t tl f1 f2 f3 =>
      have ht := hw.1.2.2.2 t (List.mem_cons_self ..)
      simp only [kidsM] at h
      by_cases h1 : t.1 = 1
      · rw [if_pos h1] at h; rw [List.mem_singleton.1 h]
        have h2 : 1 ≤ t.2.1 := ht.elim (fun h => absurd h.1 (by omega)) fun h => h.elim (fun h => h.2.1) fun h => absurd h.1 (by omega)
        obtain ⟨q1, q2⟩ := f2 h1
        refine .inl ⟨f3, ?_⟩
        show (Arr.set sp t.2.1.toNat _).l[go.toNat]? = (Arr.set sp t.2.1.toNat _).l[gc.toNat]?
        rw [arr_ne q2 (by omega) (by omega), arr_ne q1 (by omega) (by omega)]; exact he
      rw [if_neg h1] at h
      have hin : 0 ≤ t.2.1 ∧ t.2.1 < re.length := ht.elim (fun h => h.2) fun h => h.elim (fun h => absurd h.1 h1) fun h => ⟨h.2.2.1, h.2.2.2.1⟩
      have hx : re[t.2.1.toNat]? = some re[t.2.1.toNat] := List.getElem?_eq_getElem (by omega)
      generalize re[t.2.1.toNat] = n at hx
      have z0 : ∀ x : Int, x ≠ c → ∀ {l : List T4}, Fine c go gc l → Fine c go gc ((0, x, 0, 0) :: l) := fun x hx _ hl => .cons (fun q => hx q.2) (fun q => absurd q (by simp)) hl
      have z2 : ∀ (x y z : Int) {l : List T4}, Fine c go gc l → Fine c go gc ((2, x, y, z) :: l) := fun x y z _ hl => .cons (fun q => absurd q.1 (by simp)) (fun q => absurd q (by simp)) hl
      by_cases h2 : t.1 = 2
      · have h4 : n.1 = 4 := ht.elim (fun h => absurd h.1 (by omega)) fun h => h.elim (fun h => absurd h.1 h1) fun h => h.2.1 n hx
        have hjo : t.2.1 ≠ o := fun e => by
          rw [e, ho1] at hx; injection hx with hx; rw [← hx] at h4; omega
        rw [if_pos h2] at h
        split at h
        · rw [hx] at h; simp only at h
          split at h
          · rw [List.mem_singleton.1 h]; exact .inl ⟨f3, he⟩
          · cases h
        · rcases kidsT_mem hx h with rfl | rfl
          · exact .inl ⟨z0 _ (pne _ n hin.1 hx hjo _ (parts1 (.inr (.inr (.inl h4))))) (z2 _ _ _ f3), he⟩
          · exact .inl ⟨f3, he⟩
      · rw [if_neg h2] at h
        have h0 : t.1 = 0 := ht.elim (fun h => h.1) fun h => h.elim (fun h => absurd h.1 h1) fun h => absurd h.1 h2
        obtain ⟨e1, e2⟩ := kidsN_mem hx h
        have he' : v.2.1.l[go.toNat]? = v.2.1.l[gc.toNat]? := by rw [e1]; exact he
        by_cases hjo : t.2.1 = o
        · have hno : n = no := by rw [hjo, ho1] at hx; injection hx with hx; exact hx.symm
          subst hno
          rcases e2 with e2 | ⟨_, rfl⟩ | ⟨q, _⟩
          · exact .inl ⟨by rw [e2]; exact f3, he'⟩
          · refine .inr (.inl ⟨tl, ?_, f3, he'⟩)
            show (0, n.2.1, 0, 0) :: (1, n.2.2.2.2.2.1, 0, a) :: tl = _
            rw [ho3, ho4]
          · exact absurd ho2 q
        · have pn := pne _ n hin.1 hx hjo
          rcases e2 with e2 | ⟨q, rfl⟩ | ⟨_, ⟨x, x1, e2⟩ | ⟨x, x1, y, y1, e2⟩ | ⟨x, x1, k, e2⟩⟩
          · exact .inl ⟨by rw [e2]; exact f3, he'⟩
          · refine .inl ⟨z0 _ (pn _ (parts1 (.inr (.inr (.inr q))))) (.cons (fun q => absurd q.1 (by simp)) (fun _ => ⟨fun e => ?_, fun e => ?_⟩) f3), he'⟩
            · have := huc _ n hx q e
              exact f1 ⟨h0, by omega⟩
            · have := huo _ n hx q e
              omega
          · exact .inl ⟨by rw [e2]; exact z0 _ (pn _ x1) f3, he'⟩
          · exact .inl ⟨by rw [e2]; exact z0 _ (pn _ x1) (z0 _ (pn _ y1) f3), he'⟩
          · exact .inl ⟨by rw [e2]; exact z0 _ (pn _ x1) (z2 _ _ _ f3), he'⟩
    | @pair P tl f3 =>
      have e : kidsM re tx (a, sp, (1, gc, 0, P) :: (1, go, 0, P) :: tl) = [(a, Arr.set sp gc.toNat (P, a), (1, go, 0, P) :: tl)] := by simp only [kidsM]; rw [if_pos trivial]
      rw [e] at h; rw [List.mem_singleton.1 h]
      exact .inr (.inr ⟨P, tl, rfl, f3, arr_eq (by omega) c9⟩)
  · have e : row = (0, c, 0, 0) :: (1, go, 0, a) :: tl := e
    subst e
    have h' : v ∈ kidsN re tx (a, sp, (1, go, 0, a) :: tl) c := h
    rw [kidsN_eq hc1, if_neg (by omega), if_neg (by omega), if_neg (by omega), if_pos hc2] at h'
    rw [List.mem_singleton.1 h', hc3]
    have hy : nc.2.1 ≠ c := by have := (hn _ _ hc1).1 _ (parts1 (.inr (.inr (.inr hc2)))); omega
    exact .inl ⟨.cons (fun q => hy q.2) (fun q => absurd q (by simp)) (.pair hf), he⟩
  · have e : row = (1, go, 0, P) :: tl := e
    subst e
    have e : kidsM re tx (a, sp, (1, go, 0, P) :: tl) = [(a, Arr.set sp go.toNat (P, a), tl)] := by simp only [kidsM]; rw [if_pos trivial]
    rw [e] at h; rw [List.mem_singleton.1 h]
    refine .inl ⟨hf, ?_⟩
    show (Arr.set sp go.toNat (P, a)).l[go.toNat]? = (Arr.set sp go.toNat (P, a)).l[gc.toNat]?
    rw [arr_eq (by omega) o9, arr_ne hne (by omega) (by omega)]
    exact Eq.symm he
theorem seen_inv (hn : NOk re g) (ha : 0 ≤ a0) {w v : Wy} (h : Seen re tx w v) (hw : KOk re g tx a0 w) : v.2.1.l[0]? = w.2.1.l[0]? ∧ (Pair re o c go gc → WI c go gc w → WI c go gc v) := by
  induction h with
  | refl _ => exact ⟨rfl, fun _ h => h⟩
  | step h1 _ ih =>
    have := ih (kids_ok hn ha hw _ h1)
    exact ⟨this.1.trans (zero_kids hw h1), fun hp hi => this.2 hp (wi_kids hn hp hw hi h1)⟩
end
/- Counting. -/
def enc6 (x : Int × Int) : Nat := if x.1 < 0 then 0 else 1 + (x.2.toNat * (x.2.toNat + 1) / 2 + x.1.toNat)
def Sp6 (x : Int × Int) : Prop := x = (-1, -1) ∨ (0 ≤ x.1 ∧ x.1 ≤ x.2 ∧ x.2 ≤ 5)
def encTab : Bool := (List.range 6).all fun t => (List.range 6).all fun f => (List.range 6).all fun t2 => (List.range 6).all fun f2 => !(decide (f ≤ t) && decide (f2 ≤ t2) && decide (t * (t + 1) / 2 + f = t2 * (t2 + 1) / 2 + f2)) || (decide (t = t2) && decide (f = f2))
theorem encTab_t : encTab = true := by kernel_rfl
theorem enc6_tab (t : Nat) (ht : t < 6) (f : Nat) (hf : f < 6) (t2 : Nat) (ht2 : t2 < 6) (f2 : Nat) (hf2 : f2 < 6) (h1 : f ≤ t) (h2 : f2 ≤ t2) (h3 : t * (t + 1) / 2 + f = t2 * (t2 + 1) / 2 + f2) : t = t2 ∧ f = f2 := by
  have h := encTab_t
  unfold encTab at h
  simp only [List.all_eq_true, List.mem_range] at h
  have := h t ht f hf t2 ht2 f2 hf2
  rw [decide_eq_true h1, decide_eq_true h2, decide_eq_true h3] at this
  simpa using this
def encLe : Bool := (List.range 6).all fun t => (List.range 6).all fun f => !decide (f ≤ t) || decide (t * (t + 1) / 2 + f < 21)
theorem encLe_t : encLe = true := by kernel_rfl
theorem enc6_le (t : Nat) (ht : t < 6) (f : Nat) (hf : f < 6) (h1 : f ≤ t) : t * (t + 1) / 2 + f < 21 := by
  have h := encLe_t
  unfold encLe at h
  simp only [List.all_eq_true, List.mem_range] at h
  have := h t ht f hf
  rw [decide_eq_true h1] at this
  simpa using this
theorem len_filter {α : Type} (p : α → Bool) : ∀ l : List α, l.length = (l.filter p).length + (l.filter fun x => !p x).length
  | [] => rfl
  | x :: l => by
    have ih := len_filter p l
    cases h : p x <;> simp [List.filter_cons, h] <;> omega
theorem enc6_lt {x : Int × Int} (h : Sp6 x) : enc6 x < 22 := by
  unfold enc6
  split
  · omega
  · obtain ⟨h1, h2, h3⟩ := h.resolve_left (fun e => by rename_i q; rw [e] at q; exact q (by decide))
    have := enc6_le x.2.toNat (by omega) x.1.toNat (by omega) (by omega)
    omega
theorem enc6_inj {x y : Int × Int} (hx : Sp6 x) (hy : Sp6 y) (h : enc6 x = enc6 y) : x = y := by
  unfold enc6 at h
  rcases hx with hx | ⟨a1, a2, a3⟩ <;> rcases hy with hy | ⟨b1, b2, b3⟩
  · rw [hx, hy]
  · rw [if_pos (by rw [hx]; decide), if_neg (by omega)] at h; omega
  · rw [if_neg (by omega), if_pos (by rw [hy]; decide)] at h; omega
  · rw [if_neg (by omega), if_neg (by omega)] at h
    obtain ⟨e1, e2⟩ := enc6_tab x.2.toNat (by omega) x.1.toNat (by omega) y.2.toNat (by omega) y.1.toNat (by omega) (by omega) (by omega) (by omega)
    obtain ⟨x1, x2⟩ := x
    obtain ⟨y1, y2⟩ := y
    simp only at a1 a2 b1 b2 e1 e2
    rw [show x1 = y1 by omega, show x2 = y2 by omega]
def codeL : List (Int × Int) → Nat
  | [] => 0
  | x :: r => enc6 x + 22 * codeL r
theorem codeL_lt : ∀ l : List (Int × Int), (∀ x ∈ l, Sp6 x) → codeL l < 22 ^ l.length
  | [], _ => by decide
  | x :: r, h => by
    have h1 := enc6_lt (h x (List.mem_cons_self ..))
    have h2 := codeL_lt r fun y hy => h y (List.mem_cons_of_mem _ hy)
    rw [codeL, List.length_cons, Nat.pow_succ]
    omega
theorem codeL_inj : ∀ l m : List (Int × Int), l.length = m.length → (∀ x ∈ l, Sp6 x) → (∀ x ∈ m, Sp6 x) → codeL l = codeL m → l = m
  | [], [], _, _, _, _ => rfl
  | [], _ :: _, h, _, _, _ => by simp at h
  | _ :: _, [], h, _, _, _ => by simp at h
  | x :: r, y :: s, hl, hx, hy, h => by
    have h1 := enc6_lt (hx x (List.mem_cons_self ..))
    have h2 := enc6_lt (hy y (List.mem_cons_self ..))
    rw [codeL, codeL] at h
    have e1 : enc6 x = enc6 y := by omega
    have e2 : codeL r = codeL s := by omega
    rw [enc6_inj (hx x (List.mem_cons_self ..)) (hy y (List.mem_cons_self ..)) e1, codeL_inj r s (by simpa using hl) (fun z hz => hx z (List.mem_cons_of_mem _ hz)) (fun z hz => hy z (List.mem_cons_of_mem _ hz)) e2]
theorem count_le {α : Type} (code : α → Nat) (N : Nat) (l : List α) (hd : l.Nodup) (hlt : ∀ x ∈ l, code x < N) (hi : ∀ x ∈ l, ∀ y ∈ l, code x = code y → x = y) : l.length ≤ N := by
  have h1 : (l.map code).Nodup := by
    unfold List.Nodup
    rw [List.pairwise_map]
    exact List.Pairwise.imp_of_mem (fun ha hb hne e => hne (hi _ ha _ hb e)) hd
  have h2 := nodup_le (l.map code) (List.range N) h1 (fun x hx => by
    obtain ⟨y, hy, rfl⟩ := List.mem_map.1 hx
    exact List.mem_range.2 (hlt y hy))
  rwa [List.length_map, List.length_range] at h2
/-- Points of few places. -/
def P6 (q : Pt) : Prop := 0 ≤ q.1 ∧ q.1 ≤ 5 ∧ q.2.l[0]? = some (-1, -1) ∧ ∀ (i : Nat) x, 1 ≤ i → q.2.l[i]? = some x → Sp6 x
def codeP (s : Nat) (q : Pt) : Nat := q.1.toNat + 6 * codeL ((q.2.l.drop 1).eraseIdx s)
theorem p6_all {q : Pt} (h : P6 q) {s : Nat} (x : Int × Int) (hx : x ∈ (q.2.l.drop 1).eraseIdx s) : Sp6 x := by
  have hx := (List.eraseIdx_sublist _ _).subset hx
  obtain ⟨j, hj⟩ := List.getElem?_of_mem hx
  rw [List.getElem?_drop] at hj
  exact h.2.2.2 (1 + j) x (by omega) hj
theorem p6_len (q : Pt) {s : Nat} (hs : s < 9) : ((q.2.l.drop 1).eraseIdx s).length = 8 := by
  rw [List.length_eraseIdx, if_pos (by rw [List.length_drop, q.2.len]; omega), List.length_drop, q.2.len]
theorem few_of (s : Nat) (hs : s < 9) (l : List Pt) (hd : l.Nodup) (h6 : ∀ q ∈ l, P6 q) (hdet : ∀ p ∈ l, ∀ q ∈ l, p.1 = q.1 → (∀ i : Nat, i ≠ s + 1 → p.2.l[i]? = q.2.l[i]?) → p.2.l[s + 1]? = q.2.l[s + 1]?) : l.length ≤ 329255241216 := by
  refine count_le (codeP s) _ l hd (fun q hq => ?_) fun p hp q hq he => ?_
  · have h1 := codeL_lt _ (p6_all (h6 q hq) (s := s))
    rw [p6_len q hs] at h1
    have h2 := h6 q hq
    have h3 := h2.1
    have h4 := h2.2.1
    have : (22 : Nat) ^ 8 = 54875873536 := by decide
    unfold codeP
    omega
  · have hp6 := h6 p hp
    have hq6 := h6 q hq
    obtain ⟨a1, a2, a3, _⟩ := hp6
    obtain ⟨b1, b2, b3, _⟩ := hq6
    unfold codeP at he
    have e1 : p.1 = q.1 := by omega
    have e2 : codeL ((p.2.l.drop 1).eraseIdx s) = codeL ((q.2.l.drop 1).eraseIdx s) := by omega
    have e3 := codeL_inj _ _ (by rw [p6_len p hs, p6_len q hs]) (p6_all (h6 p hp)) (p6_all (h6 q hq)) e2
    have e4 : ∀ i : Nat, i ≠ s + 1 → p.2.l[i]? = q.2.l[i]? := by
      intro i hi
      rcases Nat.eq_zero_or_pos i with rfl | h0
      · rw [a3, b3]
      · rcases Nat.lt_or_ge (i - 1) s with h | h
        · have : ((p.2.l.drop 1).eraseIdx s)[i - 1]? = ((q.2.l.drop 1).eraseIdx s)[i - 1]? := by rw [e3]
          rw [List.getElem?_eraseIdx_of_lt h, List.getElem?_eraseIdx_of_lt h, List.getElem?_drop, List.getElem?_drop, show 1 + (i - 1) = i by omega] at this
          exact this
        · have : ((p.2.l.drop 1).eraseIdx s)[i - 2]? = ((q.2.l.drop 1).eraseIdx s)[i - 2]? := by rw [e3]
          rw [List.getElem?_eraseIdx_of_ge (by omega), List.getElem?_eraseIdx_of_ge (by omega), List.getElem?_drop, List.getElem?_drop, show 1 + (i - 2 + 1) = i by omega] at this
          exact this
    have e5 := hdet p hp q hq e1 e4
    obtain ⟨p1, p2⟩ := p
    obtain ⟨q1, q2⟩ := q
    have e6 : p2 = q2 := by
      apply Arr.ext
      apply List.ext_getElem?
      intro i
      by_cases hi : i = s + 1
      · rw [hi]; exact e5
      · exact e4 i hi
    rw [show p1 = q1 from e1, e6]
section
variable {re : List ND} {tx : List UInt8} {a0 : Int} {g : Int}
theorem count_two {α : Type} {f : α → List Int} {l : List α} {i j : Nat} {x y : α} {k : Int} (hij : i < j) (hx : l[i]? = some x) (hy : l[j]? = some y) (h1 : k ∈ f x) (h2 : k ∈ f y) : 2 ≤ (l.flatMap f).count k := by
  rw [← List.take_append_drop j l, List.flatMap_append, List.count_append]
  have a1 : 0 < ((l.take j).flatMap f).count k := List.count_pos_iff.2 (List.mem_flatMap.2 ⟨x, List.mem_of_getElem? (by rw [List.getElem?_take, if_pos hij]; exact hx), h1⟩)
  have a2 : 0 < ((l.drop j).flatMap f).count k := List.count_pos_iff.2 (List.mem_flatMap.2 ⟨y, List.mem_of_getElem? (i := 0) (by rw [List.getElem?_drop]; exact hy), h2⟩)
  omega
theorem one_of {α : Type} {f : α → List Int} {l : List α} {i j : Nat} {x y : α} {k : Int} (hc : (l.flatMap f).count k ≤ 1) (hx : l[i]? = some x) (hy : l[j]? = some y) (h1 : k ∈ f x) (h2 : k ∈ f y) : i = j := by
  rcases Nat.lt_trichotomy i j with h | h | h
  · have := count_two h hx hy h1 h2; omega
  · exact h
  · have := count_two h hy hx h2 h1; omega
/-- Nine groups of twelve nodes: one stands round another one. -/
theorem pair_of (hr : rightB re g = true) (h12 : re.length ≤ 12) (h9 : g = 9) : ∃ o c go gc, Pair re o c go gc := by
  obtain ⟨hn, g0, g9, hlen⟩ := right_nodes hr
  unfold rightB at hr
  simp only [Bool.and_eq_true, decide_eq_true_eq, List.all_eq_true, List.mem_range] at hr
  obtain ⟨⟨_, hu⟩, hg⟩ := hr
  have hgrp : ∀ z : Int, 1 ≤ z → z ≤ 9 → (grpL re).count z = 1 := fun z z1 z9 => by
    have := hg (z.toNat - 1) (by omega)
    rwa [show ((z.toNat - 1 : Nat) : Int) + 1 = z by omega] at this
  have hgm : ∀ n : ND, n.1 = 5 → n.2.2.2.2.2.1 ∈ (fun n : ND => if n.1 = 5 then [n.2.2.2.2.2.1] else []) n := fun n h => by simp [h]
  have hlast : ∀ (i : Nat) n, re[i]? = some n → ∀ k ∈ partsL n, 0 ≤ k ∧ k < (re.length : Int) - 1 := fun i n hx k hk => by
    have := (hn i n hx).1 k hk
    have := (List.getElem?_eq_some_iff.1 hx).1
    omega
  have huse : ∀ k : Int, 0 ≤ k → k < (re.length : Int) - 1 → (usesL re).count k = 1 := fun k k0 k1 => by
    have := hu k.toNat (by omega)
    rwa [show ((k.toNat : Nat) : Int) = k by omega] at this
  by_cases hex : ∃ (i : Nat) (n m : ND), re[i]? = some n ∧ n.1 = 5 ∧ re[n.2.1.toNat]? = some m ∧ m.1 = 5
  · obtain ⟨i, n, m, hx, h5, hy, hm5⟩ := hex
    have hpn : n.2.1 ∈ partsL n := parts1 (.inr (.inr (.inr h5)))
    have hc := (hn i n hx).1 _ hpn
    have hg1 := (hn i n hx).2.1 (.inl h5)
    have hg2 := (hn _ m hy).2.1 (.inl hm5)
    have uo : ∀ (j : Nat) x, re[j]? = some x → x.1 = 5 → x.2.2.2.2.2.1 = n.2.2.2.2.2.1 → j = i := fun j x hj h h2 => one_of (f := fun n : ND => if n.1 = 5 then [n.2.2.2.2.2.1] else []) (Nat.le_of_eq (hgrp _ hg1.1 (by omega))) hj hx (h2 ▸ hgm x h) (hgm n h5)
    have uc : ∀ (j : Nat) x, re[j]? = some x → x.1 = 5 → x.2.2.2.2.2.1 = m.2.2.2.2.2.1 → j = n.2.1.toNat := fun j x hj h h2 => one_of (f := fun n : ND => if n.1 = 5 then [n.2.2.2.2.2.1] else []) (Nat.le_of_eq (hgrp _ hg2.1 (by omega))) hj hy (h2 ▸ hgm x h) (hgm m hm5)
    refine ⟨(i : Int), n.2.1, n.2.2.2.2.2.1, m.2.2.2.2.2.1, ⟨n, by rw [Int.toNat_natCast]; exact hx, h5, rfl, rfl⟩, ⟨m, hy, hm5, rfl⟩, hc.1, by omega, fun j x hj hk => ?_, fun j x hj h h2 => by rw [uo j x hj h h2], fun j x hj h h2 => by have := uc j x hj h h2; omega, fun e => ?_, hg1.1, by omega, hg2.1, by omega⟩
    · rw [one_of (f := partsL) (Nat.le_of_eq (huse _ hc.1 (hlast i n hx _ hpn).2)) hj hx hk hpn]
    · have := uo _ m hy hm5 e.symm
      omega
  · exfalso
    have hno : ∀ (i : Nat) n m, re[i]? = some n → n.1 = 5 → re[n.2.1.toNat]? = some m → m.1 ≠ 5 := fun i n m hx h hy hm => hex ⟨i, n, m, hx, h, hy, hm⟩
    -- the groups' places, and their parts' places
    have isG : Nat → Bool := fun i => match re[i]? with | some n => decide (n.1 = 5) | none => false
    let G := (List.range re.length).filter fun i => match re[i]? with | some n => decide (n.1 = 5) | none => false
    let H := (List.range re.length).filter fun i => !(match re[i]? with | some n => decide (n.1 = 5) | none => false)
    have hGH : G.length + H.length = re.length := by
      have := len_filter (fun i => match re[i]? with | some n => decide (n.1 = 5) | none => false) (List.range re.length)
      rw [List.length_range] at this
      exact this.symm
    have hGn : G.Nodup := List.nodup_range.sublist List.filter_sublist
    have memG : ∀ i, i ∈ G → ∃ n, re[i]? = some n ∧ n.1 = 5 := fun i hi => by
      have := (List.mem_filter.1 hi).2
      cases hx : re[i]? with
      | none => rw [hx] at this; cases this
      | some n => rw [hx] at this; exact ⟨n, rfl, by simpa using this⟩
    have toG : ∀ (i : Nat) n, re[i]? = some n → n.1 = 5 → i ∈ G := fun i n hx h => List.mem_filter.2 ⟨List.mem_range.2 (List.getElem?_eq_some_iff.1 hx).1, by rw [hx]; simpa using h⟩
    -- nine of them at least
    have h1 : 9 ≤ G.length := by
      have := nodup_le (List.range 9) (G.map fun i => match re[i]? with | some n => n.2.2.2.2.2.1.toNat - 1 | none => 0) List.nodup_range (fun z hz => by
        have hz := List.mem_range.1 hz
        have hc := hgrp ((z : Int) + 1) (by omega) (by omega)
        have hmem : ((z : Int) + 1) ∈ grpL re := List.count_pos_iff.1 (by omega)
        obtain ⟨n, hn1, hn2⟩ := List.mem_flatMap.1 hmem
        obtain ⟨i, hi⟩ := List.getElem?_of_mem hn1
        split at hn2
        · rename_i h5
          have e := List.mem_singleton.1 hn2
          exact List.mem_map.2 ⟨i, toG i n hi h5, by rw [hi]; simp only; rw [← e]; omega⟩
        · cases hn2)
      rwa [List.length_range, List.length_map] at this
    -- their parts are no groups
    have h2 : G.length ≤ H.length := by
      have hmn : (G.map fun i => match re[i]? with | some n => n.2.1.toNat | none => 0).Nodup := by
        unfold List.Nodup
        rw [List.pairwise_map]
        refine List.Pairwise.imp_of_mem (fun {a b} ha hb hne e => hne ?_) hGn
        obtain ⟨n, hx, h5⟩ := memG a ha
        obtain ⟨m, hy, hm5⟩ := memG b hb
        rw [hx, hy] at e
        have e : n.2.1.toNat = m.2.1.toNat := e
        have p1 := parts1 (n := n) (.inr (.inr (.inr h5)))
        have p2 := parts1 (n := m) (.inr (.inr (.inr hm5)))
        have c1 := hlast a n hx _ p1
        have c2 := hlast b m hy _ p2
        exact one_of (f := partsL) (Nat.le_of_eq (huse _ c1.1 c1.2)) hx hy p1 (by rw [show n.2.1 = m.2.1 by omega]; exact p2)
      have := nodup_le _ H hmn (fun z hz => by
        obtain ⟨i, hi, rfl⟩ := List.mem_map.1 hz
        obtain ⟨n, hx, h5⟩ := memG i hi
        rw [hx]
        have p1 := parts1 (n := n) (.inr (.inr (.inr h5)))
        have c1 := hlast i n hx _ p1
        have hlt : n.2.1.toNat < re.length := by omega
        refine List.mem_filter.2 ⟨List.mem_range.2 hlt, ?_⟩
        have hy : re[n.2.1.toNat]? = some re[n.2.1.toNat] := List.getElem?_eq_getElem hlt
        show (!(match re[n.2.1.toNat]? with | some n => decide (n.1 = 5) | none => false)) = true
        rw [hy]
        have := hno i n _ hx h5 hy
        simpa using this)
      rwa [List.length_map] at this
    omega
theorem seen_p6 (hn : NOk re g) (ha : 0 ≤ a0) (h5 : tx.length ≤ 5) {q : Pt} {row : List T4} (hk : KOk re g tx a0 (startW re a0)) (hs : Seen re tx (startW re a0) (q.1, q.2, row)) : P6 q := by
  have hq := hs.ok hn ha hk
  have h1 : a0 ≤ q.1 := hq.1.1
  have h2 : q.1 ≤ tx.length := hq.1.2.1
  refine ⟨by omega, by omega, ?_, fun i x hi hx => ?_⟩
  · rw [show q.2.l[0]? = _ from (seen_inv (o := 0) (c := 0) (go := 0) (gc := 0) hn ha hs hk).1]; rfl
  · exact (hq.1.2.2.1 i x hi hx).imp id fun ⟨_, q2, q3, q4⟩ => ⟨by omega, q3, by have : x.2 ≤ q.1 := q4; omega⟩
/-- How many points there are, where there is no fuel. -/
theorem few (hr : rightB re g = true) (h12 : re.length ≤ 12) (ha : 0 ≤ a0) (h1 : a0 ≤ tx.length) (h5 : tx.length ≤ 5) : HR re g tx a0 (startW re a0) ∧ HT re tx (startW re a0) := by
  obtain ⟨hn, g0, g9, hlen⟩ := right_nodes hr
  have hk := start_k (g := g) (tx := tx) hlen ha h1
  by_cases h8 : g = 9
  · obtain ⟨o, c, go, gc, hp⟩ := pair_of hr h12 h8
    have hp' := hp
    obtain ⟨_, _, hc0, hco, _, _, _, hne, o1, o9, c1, c9⟩ := hp'
    have hlo : o < re.length := by
      obtain ⟨⟨no, ho1, _⟩, _⟩ := hp
      have := (List.getElem?_eq_some_iff.1 ho1).1
      omega
    have hw0 : WI c go gc (startW re a0) := .inl ⟨.cons (fun q => by have : (re.length : Int) - 1 = c := q.2; omega) (fun q => absurd q (by simp)) .nil, by
      show sp0.l[go.toNat]? = sp0.l[gc.toNat]?
      unfold sp0 Arr.rep
      simp only
      rw [List.getElem?_replicate, List.getElem?_replicate, if_pos (by omega), if_pos (by omega)]⟩
    have wi : ∀ {q : Pt} {row : List T4}, Seen re tx (startW re a0) (q.1, q.2, row) → WI c go gc (q.1, q.2, row) := fun hs => (seen_inv hn ha hs hk).2 hp hw0
    have eqs : ∀ l : List Pt, l.Nodup → (∀ q ∈ l, ∃ row, Seen re tx (startW re a0) (q.1, q.2, row)) → (∀ q ∈ l, q.2.l[go.toNat]? = q.2.l[gc.toNat]?) → l.length ≤ 329255241216 := by
      intro l hd hs he
      refine few_of (go.toNat - 1) (by omega) l hd (fun q hq => (hs q hq).elim fun row h => seen_p6 hn ha h5 hk h) fun p hp q hq _ h => ?_
      rw [show go.toNat - 1 + 1 = go.toNat by omega, he p hp, he q hq]
      exact h _ (by omega)
    constructor
    · intro k i p tl hi hkp hs l hl
      have hsn : ∀ q ∈ l, Seen re tx (startW re a0) (q.1, q.2, tl) := fun q hq => hs.trans ((reach_spec hn (right_hi hr) ha k i hi p tl hkp).1 q (hl.2 q hq))
      have hlen : l.length = (l.filter fun q => decide (q.2.l[go.toNat]? = q.2.l[gc.toNat]?)).length + (l.filter fun q => !decide (q.2.l[go.toNat]? = q.2.l[gc.toNat]?)).length := len_filter _ _
      have f1 := eqs (l.filter fun q => decide (q.2.l[go.toNat]? = q.2.l[gc.toNat]?)) (hl.1.sublist List.filter_sublist) (fun q hq => ⟨tl, hsn q (List.mem_filter.1 hq).1⟩) (fun q hq => by simpa using (List.mem_filter.1 hq).2)
      have f2 : (l.filter fun q => !decide (q.2.l[go.toNat]? = q.2.l[gc.toNat]?)).length ≤ 329255241216 := by
        have hh : ∀ q ∈ (l.filter fun q => !decide (q.2.l[go.toNat]? = q.2.l[gc.toNat]?)), ∃ P tl', tl = (1, go, 0, P) :: tl' ∧ q.2.l[gc.toNat]? = some (P, q.1) := by
          intro q hq
          obtain ⟨q1, q2⟩ := List.mem_filter.1 hq
          have q2 : ¬ (q.2.l[go.toNat]? = q.2.l[gc.toNat]?) := by simpa using q2
          rcases wi (hsn q q1) with ⟨_, e⟩ | ⟨_, _, _, e⟩ | ⟨P, tl', e1, _, e2⟩
          · exact absurd e q2
          · exact absurd e q2
          · exact ⟨P, tl', e1, e2⟩
        refine few_of (gc.toNat - 1) (by omega) _ (hl.1.sublist List.filter_sublist) (fun q hq => seen_p6 hn ha h5 hk (hsn q (List.mem_filter.1 hq).1)) fun p hp q hq e _ => ?_
        obtain ⟨P, t1, e1, e2⟩ := hh p hp
        obtain ⟨P2, t2, e3, e4⟩ := hh q hq
        rw [e1] at e3
        injection e3 with e3
        injection e3 with _ e3
        injection e3 with _ e3
        injection e3 with _ e3
        rw [show gc.toNat - 1 + 1 = gc.toNat by omega, e2, e4, e3, e]
      omega
    · intro i n hx h4 l hl
      have := eqs l hl.1 (fun q hq => by obtain ⟨_, _, _, h⟩ := hl.2 q hq; exact ⟨_, h⟩) (fun q hq => by
        obtain ⟨kk, P, tl, h⟩ := hl.2 q hq
        rcases wi h with ⟨_, e⟩ | ⟨_, e, _⟩ | ⟨_, _, e, _⟩
        · exact e
        · injection e with e; injection e with e; exact absurd e (by decide)
        · injection e with e; injection e with e; exact absurd e (by decide))
      omega
  · have eqs : ∀ l : List Pt, l.Nodup → (∀ q ∈ l, ∃ row, Seen re tx (startW re a0) (q.1, q.2, row)) → l.length ≤ 329255241216 := by
      intro l hd hs
      have n9 : ∀ q ∈ l, q.2.l[8 + 1]? = some (-1, -1) := fun q hq => by
        obtain ⟨row, h⟩ := hs q hq
        have hq := h.ok hn ha hk
        obtain ⟨x, hx⟩ : ∃ x, q.2.l[8 + 1]? = some x := ⟨_, List.getElem?_eq_getElem (by rw [q.2.len]; omega)⟩
        rw [hx]
        have := (hq.1.2.2.1 (8 + 1) _ (by omega) hx).resolve_right fun h => by have := h.1; omega
        rw [this]
      refine few_of 8 (by omega) l hd (fun q hq => (hs q hq).elim fun row h => seen_p6 hn ha h5 hk h) fun p hp q hq _ _ => ?_
      rw [n9 p hp, n9 q hq]
    constructor
    · intro k i p tl hi hkp hs l hl
      have := eqs l hl.1 (fun q hq => ⟨tl, hs.trans ((reach_spec hn (right_hi hr) ha k i hi p tl hkp).1 q (hl.2 q hq))⟩)
      omega
    · intro i n hx h4 l hl
      have := eqs l hl.1 (fun q hq => by obtain ⟨_, _, _, h⟩ := hl.2 q hq; exact ⟨_, h⟩)
      omega
/-- Where too few bytes are left the relation tells none. -/
theorem best_none (hr : rightB re g = true) (h12 : re.length ≤ 12) (ha : 0 ≤ a0) (h1 : a0 ≤ tx.length) (h5 : tx.length ≤ 5) (hl : (tx.length : Int) - a0 < leastM re) : palinoderef11_Best_R (re, g) tx a0 (Arr.rep 10 (0, 0), false) := by
  have h := best_ok hr ha h1 (by omega) (few hr h12 ha h1 h5).1 (few hr h12 ha h1 h5).2
  rw [reach_none hr ha h1 hl] at h
  exact h
end
end Go.Proofs.Ytnjnbegjhklcgaa
