/- The law SwapBack, plain. -/
import Derived.Test.YtcekiclbfjfagaaPl
import Derived.Test.YtcekiclbfjfagaaGSL1
namespace Go.Proofs.Ytcekiclbfjfagaa
def esc (c : UInt8) : List UInt8 := if c.toNat = 38 ∨ c.toNat = 92 ∨ c.toNat = 10 then [92, c] else [c]
def escAll (l : List UInt8) : List UInt8 := l.flatMap esc
def textOne (p : PartT) : List UInt8 := if p.1 = 1 then (if p.2.1 = 0 then [38] else [92, UInt8.ofNat (48 + p.2.1.toNat)]) else escAll p.2.2
def textOf (l : List PartT) : List UInt8 := l.flatMap textOne
theorem textOf_snoc {l : List PartT} {k : Nat} {p : PartT} (h : l[k]? = some p) : textOf (l.take (k + 1)) = textOf (l.take k) ++ textOne p := by
  unfold textOf
  rw [List.take_add_one, h]
  simp
theorem esc_snoc {l : List UInt8} {k : Nat} {p : UInt8} (h : l[k]? = some p) : escAll (l.take (k + 1)) = escAll (l.take k) ++ esc p := by
  unfold escAll
  rw [List.take_add_one, h]
  simp
theorem esc_len (l : List UInt8) : (escAll l).length ≤ 2 * l.length := by
  induction l with
  | nil => simp [escAll]
  | cons c l ih =>
    unfold escAll at ih ⊢
    rw [List.flatMap_cons, List.length_append, List.length_cons]
    have : (esc c).length ≤ 2 := by unfold esc; split <;> simp
    omega
theorem textOf_len {m : Nat} : ∀ {l : List PartT}, (∀ p ∈ l, p.2.2.length ≤ m) → (textOf l).length ≤ (2 * m + 2) * l.length
  | [], _ => by simp [textOf]
  | p :: l, h => by
    have h1 : (textOne p).length ≤ 2 * m + 2 := by
      have hp := h p (by simp)
      unfold textOne
      split
      · split <;> simp
      · have := esc_len p.2.2; omega
    have h2 := textOf_len (l := l) fun q hq => h q (by simp [hq])
    unfold textOf at h2 ⊢
    rw [List.flatMap_cons, List.length_append, List.length_cons, Nat.mul_add]
    omega
/-- Is a part none that a replacement has there? -/
def badP (pt : Bool) (p : PartT) : Prop := (p.1 = 0 ∧ (p.2.2.length = 0 ∨ p.2.1 ≠ 0 ∨ pt = true)) ∨ (p.1 = 1 ∧ (p.2.1 < 0 ∨ 9 < p.2.1 ∨ 0 < p.2.2.length)) ∨ p.1 < 0 ∨ 1 < p.1
instance (pt : Bool) (p : PartT) : Decidable (badP pt p) := by unfold badP; infer_instance
def rightOk : Bool → List PartT → Bool
  | _, [] => true
  | pt, p :: l => !decide (badP pt p) && rightOk (decide (p.1 = 0)) l
theorem right_ok (l : List PartT) (hl : l.length ≤ 1000000) : palinoderef13_Right_R l (rightOk false l) := by
  refine loop_ (fun st m => ∃ k : Nat, k ≤ l.length ∧ m = l.length - k ∧ st = (k : Int) ∧ ∃ pt, rightOk pt (l.drop k) = rightOk false l ∧ (pt = true ↔ 0 < k ∧ ∃ q, l[k - 1]? = some q ∧ q.1 = 0)) _ ⟨0, by omega, rfl, rfl, false, rfl, by simp⟩ ?_
  rintro st m ⟨k, hk, rfl, rfl, pt, h1, h2⟩
  have hj : ∀ (b : Bool) (p : PartT), l[k]? = some p → (b = true ↔ badP pt p) → palinoderef13_Right_j2 (k : Int) (fun s' => ∃ m', m' < l.length - k ∧ ∃ k : Nat, k ≤ l.length ∧ m' = l.length - k ∧ s' = (k : Int) ∧ ∃ pt, rightOk pt (l.drop k) = rightOk false l ∧ (pt = true ↔ 0 < k ∧ ∃ q, l[k - 1]? = some q ∧ q.1 = 0)) b (rightOk false l) := by
    intro b p hp hb
    have hkl : k < l.length := (List.getElem?_eq_some_iff.1 hp).1
    have hd : l.drop k = p :: l.drop (k + 1) := by rw [List.drop_eq_getElem_cons hkl]; congr 1; exact (List.getElem?_eq_some_iff.1 hp).2
    rw [hd] at h1
    refine split_ (fun h => ?_) fun h => ?_
    · rw [← h1]
      show (!decide (badP pt p) && _) = false
      rw [decide_eq_true (hb.1 h)]; rfl
    · refine inR_ (by omega) ⟨l.length - (k + 1), by omega, k + 1, by omega, rfl, by simp, decide (p.1 = 0), ?_, ?_⟩
      · rw [← h1]
        show _ = (!decide (badP pt p) && _)
        rw [decide_eq_false fun q => h (hb.2 q)]; rfl
      · rw [decide_eq_true_eq, Nat.add_sub_cancel]
        exact ⟨fun h => ⟨by omega, p, hp, h⟩, fun ⟨_, q, hq, h⟩ => by rw [hp] at hq; injection hq with hq; rw [hq]; exact h⟩
  refine split_ (fun h3 => ?_) fun h3 => ?_
  · refine at_ (by omega) (by omega) fun p hp => ?_
    rw [Int.toNat_natCast] at hp
    refine split_ (fun c0 => split_ (fun c1 => hj _ p hp ?_) fun c1 => split_ (fun c2 => hj _ p hp ?_) fun c2 => split_ (fun c3 => ?_) fun c3 => hj _ p hp ?_) fun c0 => hj _ p hp ?_
    · exact ⟨fun _ => .inl ⟨c0, .inl (by omega)⟩, fun _ => rfl⟩
    · exact ⟨fun _ => .inl ⟨c0, .inr (.inl c2)⟩, fun _ => rfl⟩
    · refine inR_ (by omega) (at_ (by omega) (by omega) fun q hq => hj _ p hp ?_)
      rw [show ((k : Int) - 1).toNat = k - 1 by omega] at hq
      have hpt : pt = true ↔ q.1 = 0 := by
        rw [h2]
        exact ⟨fun ⟨_, x, hx, e⟩ => by rw [hq] at hx; injection hx with hx; rw [hx]; exact e, fun e => ⟨by omega, q, hq, e⟩⟩
      unfold badP
      rw [hpt]
      simp only [Bool.or_eq_true, decide_eq_true_eq, cond_eq_ite]
      by_cases e1 : p.1 = 1
      · omega
      · rw [if_neg e1]
        simp only [Bool.or_eq_true, decide_eq_true_eq]
        omega
    · have hpt : ¬ pt = true := fun h => by have := (h2.1 h).1; omega
      have c2' : p.2.1 = 0 := Decidable.of_not_not c2
      have e1 : ¬ p.1 = 1 := by omega
      rw [decide_eq_false e1, cond_false, Bool.or_eq_true, decide_eq_true_eq, decide_eq_true_eq]
      constructor
      · intro h; exact .inr (.inr h)
      · rintro (⟨_, h | h | h⟩ | ⟨h, _⟩ | h)
        · omega
        · exact absurd c2' h
        · exact absurd h hpt
        · exact absurd h e1
        · exact h
    · unfold badP
      simp only [Bool.or_eq_true, decide_eq_true_eq, cond_eq_ite]
      by_cases e1 : p.1 = 1
      · rw [if_pos e1]
        simp only [Bool.or_eq_true, decide_eq_true_eq]
        omega
      · rw [if_neg e1]
        simp only [Bool.or_eq_true, decide_eq_true_eq]
        omega
  · rw [← h1, List.drop_eq_nil_of_le (by omega)]; rfl
theorem right_all : ∀ {l : List PartT} {pt : Bool}, rightOk pt l = true → ∀ p ∈ l, (p.1 = 0 ∧ p.2.2.length ≠ 0 ∧ p.2.1 = 0) ∨ (p.1 = 1 ∧ 0 ≤ p.2.1 ∧ p.2.1 ≤ 9 ∧ p.2.2 = [])
  | [], _, _, p, hp => by simp at hp
  | q :: l, pt, h, p, hp => by
    rw [rightOk, Bool.and_eq_true] at h
    obtain ⟨h1, h2⟩ := h
    simp only [List.mem_cons] at hp
    rcases hp with rfl | hp
    · have hb : ¬ badP pt p := by simpa using h1
      unfold badP at hb
      by_cases e : p.1 = 0
      · exact .inl ⟨e, by omega, by omega⟩
      · exact .inr ⟨by omega, by omega, by omega, List.eq_nil_of_length_eq_zero (by omega)⟩
    · exact right_all h2 p hp
theorem text_ok (l : List PartT) (hl : l.length ≤ 1000) (hr : rightOk false l = true) (hb : ∀ p ∈ l, p.2.2.length ≤ 1000) : swap_Text_R l (textOf l) := by
  have hlen : ∀ k, (textOf (l.take k)).length ≤ 2002 * l.length := fun k => by
    have h1 := textOf_len (l := l.take k) fun p hp => hb p (List.mem_of_mem_take hp)
    have h2 : (l.take k).length ≤ l.length := by rw [List.length_take]; omega
    have h3 : (2 * 1000 + 2) * (l.take k).length ≤ 2002 * l.length := Nat.mul_le_mul_left 2002 h2
    omega
  refine loop_ (fun st m => ∃ k, k ≤ l.length ∧ m = l.length - k ∧ st.2 = (k : Int) ∧ st.1 = textOf (l.take k)) _ ⟨0, by omega, rfl, rfl, rfl⟩ ?_
  rintro ⟨o, x⟩ m ⟨k, hk, rfl, h1, h2⟩
  simp only at h1 h2
  subst h1; subst h2
  show swap_Text_l1 l _ (textOf (l.take k)) (k : Int) _
  have hlk := hlen k
  refine split_ (fun h3 => ?_) fun h3 => ?_
  · refine at_ (by omega) (by omega) fun p hp => ?_
    rw [Int.toNat_natCast] at hp
    have hs := textOf_snoc hp
    have hpr := right_all hr p (List.mem_of_getElem? hp)
    have hpl := hb p (List.mem_of_getElem? hp)
    refine split_ (fun c1 => ?_) fun c1 => split_ (fun c2 => ?_) fun c2 => ?_
    · simp only [Bool.and_eq_true, decide_eq_true_eq] at c1
      refine room_ (by simp; omega) (by omega) (inR_ (by omega) ⟨l.length - (k + 1), by omega, k + 1, by omega, rfl, by simp, ?_⟩)
      show _ ++ _ = _
      rw [hs, textOne, if_pos c1.1, if_pos c1.2]
    · have hg : ¬ p.2.1 = 0 := fun h => c1 (by simp [c2, h])
      refine exU8 (by omega) fun c hc => exU8 (by omega) fun c' hc' => room_ (by simp; omega) (by omega) (inR_ (by omega) ⟨l.length - (k + 1), by omega, k + 1, by omega, rfl, by simp, ?_⟩)
      show _ ++ _ = _
      rw [hs, textOne, if_pos c2, if_neg hg, show UInt8.ofNat (48 + p.2.1.toNat) = c' from UInt8.toNat_inj.1 (by rw [UInt8.toNat_ofNat_of_lt' (by simp [UInt8.size]; omega)]; omega)]
    · have ht : textOne p = escAll p.2.2 := if_neg c2
      refine loop_ (fun st m => ∃ j, j ≤ p.2.2.length ∧ m = p.2.2.length - j ∧ st.2 = (j : Int) ∧ st.1 = textOf (l.take k) ++ escAll (p.2.2.take j)) _ ⟨0, by omega, rfl, rfl, by simp [escAll]⟩ ?_
      rintro ⟨o, x⟩ m ⟨j, hj, rfl, g1, g2⟩
      simp only at g1 g2
      subst g1; subst g2
      show swap_Text_l3 p (k : Int) _ _ _ (j : Int) _
      have hel := esc_len (p.2.2.take j)
      have htl : (p.2.2.take j).length ≤ p.2.2.length := by rw [List.length_take]; omega
      refine split_ (fun h4 => ?_) fun h4 => ?_
      · refine at_ (by omega) (by omega) fun c hc => ?_
        rw [Int.toNat_natCast] at hc
        have he := esc_snoc hc
        refine split_ (fun h5 => ?_) fun h5 => ?_
        · simp only [Bool.or_eq_true, decide_eq_true_eq] at h5
          refine room_ (by simp; omega) (by omega) (room_ (by simp; omega) (by omega) (inR_ (by omega) ⟨p.2.2.length - (j + 1), by omega, j + 1, by omega, rfl, by simp, ?_⟩))
          show _ ++ _ ++ _ ++ _ = _
          rw [he, esc, if_pos (by omega)]; simp
        · simp only [Bool.or_eq_true, decide_eq_true_eq] at h5
          refine room_ (by simp; omega) (by omega) (inR_ (by omega) ⟨p.2.2.length - (j + 1), by omega, j + 1, by omega, rfl, by simp, ?_⟩)
          show _ ++ _ ++ _ = _
          rw [he, esc, if_neg (by omega)]; simp
      · refine inR_ (by omega) ⟨l.length - (k + 1), by omega, k + 1, by omega, rfl, by simp, ?_⟩
        show _ ++ _ = _
        rw [hs, ht, List.take_of_length_le (show p.2.2.length ≤ j by omega)]
  · rw [List.take_of_length_le (by omega)]
/-- No newline but behind a backslash. -/
def okNL : List UInt8 → Bool
  | [] => true
  | [c] => decide (c.toNat ≠ 10)
  | c :: d :: r => if c.toNat = 92 then okNL r else decide (c.toNat ≠ 10) && okNL (d :: r)
theorem okNL_other {c : UInt8} {r : List UInt8} (h1 : c.toNat ≠ 92) (h2 : c.toNat ≠ 10) : okNL (c :: r) = okNL r := by
  cases r with
  | nil => simp [okNL, h2]
  | cons d r => simp [okNL, h1, h2]
theorem okNL_esc (bs rest : List UInt8) : okNL (escAll bs ++ rest) = okNL rest := by
  induction bs with
  | nil => rfl
  | cons c bs ih =>
    have e : escAll (c :: bs) = esc c ++ escAll bs := by unfold escAll; rw [List.flatMap_cons]
    rw [e, List.append_assoc]
    unfold esc
    split
    · show okNL (92 :: c :: (escAll bs ++ rest)) = _
      rw [okNL, if_pos (by decide), ih]
    · rename_i h
      show okNL (c :: (escAll bs ++ rest)) = _
      rw [okNL_other (by omega) (by omega), ih]
theorem okNL_text : ∀ l : List PartT, okNL (textOf l) = true
  | [] => rfl
  | p :: l => by
    have e : textOf (p :: l) = textOne p ++ textOf l := by unfold textOf; rw [List.flatMap_cons]
    rw [e]
    unfold textOne
    split
    · split
      · show okNL (38 :: textOf l) = true
        rw [okNL_other (by decide) (by decide), okNL_text l]
      · show okNL (92 :: _ :: textOf l) = true
        rw [okNL, if_pos (by decide), okNL_text l]
    · rw [okNL_esc, okNL_text l]
theorem rGo_bytes (rest : List UInt8) (out : List PartT) : ∀ (bs pre : List UInt8) (k : Nat), ∃ k', rGo 9 k (escAll bs ++ rest) (out ++ [(0, 0, pre)]) = rGo 9 k' rest (out ++ [(0, 0, pre ++ bs)])
  | [], pre, k => ⟨k, by simp [escAll]⟩
  | c :: bs, pre, k => by
    have e : escAll (c :: bs) = esc c ++ escAll bs := by unfold escAll; rw [List.flatMap_cons]
    have ha : ∀ d : UInt8, addP (out ++ [(0, 0, pre)]) (0, 0, [d]) = out ++ [(0, 0, pre ++ [d])] := fun d => by rw [addP_snoc, if_pos ⟨rfl, rfl⟩]
    rw [e, List.append_assoc]
    by_cases h : c.toNat = 38 ∨ c.toNat = 92 ∨ c.toNat = 10
    · have he : esc c = [92, c] := if_pos h
      obtain ⟨k', hk'⟩ := rGo_bytes rest out bs (pre ++ [c]) (k + 2)
      refine ⟨k', ?_⟩
      rw [he]
      show rGo 9 k (92 :: c :: (escAll bs ++ rest)) _ = _
      have hn : ¬ (49 ≤ c.toNat ∧ c.toNat ≤ 57) := by omega
      have hn2 : ¬ c.toNat = 110 := by omega
      simp only [rGo, if_neg hn, if_neg hn2, show ¬ (92 : UInt8).toNat = 38 by decide, if_false, show (92 : UInt8).toNat = 92 by decide, if_true]
      rw [ha, hk', List.append_assoc]; rfl
    · have he : esc c = [c] := if_neg h
      obtain ⟨k', hk'⟩ := rGo_bytes rest out bs (pre ++ [c]) (k + 1)
      refine ⟨k', ?_⟩
      rw [he]
      show rGo 9 k (c :: (escAll bs ++ rest)) _ = _
      rw [rGo_text (by omega) (by omega), ha, hk', List.append_assoc]; rfl
theorem rGo_text1 (rest : List UInt8) (out : List PartT) (c : UInt8) (bs : List UInt8) (k : Nat) (ho : ∀ q, out.getLast? = some q → q.1 ≠ 0) : ∃ k', rGo 9 k (escAll (c :: bs) ++ rest) out = rGo 9 k' rest (out ++ [(0, 0, c :: bs)]) := by
  have e : escAll (c :: bs) = esc c ++ escAll bs := by unfold escAll; rw [List.flatMap_cons]
  have ha : ∀ d : UInt8, addP out (0, 0, [d]) = out ++ [(0, 0, [d])] := fun d => by
    unfold addP
    cases hq : out.getLast? with
    | none => rfl
    | some q => simp [ho q hq]
  rw [e, List.append_assoc]
  by_cases h : c.toNat = 38 ∨ c.toNat = 92 ∨ c.toNat = 10
  · have he : esc c = [92, c] := if_pos h
    obtain ⟨k', hk'⟩ := rGo_bytes rest out bs [c] (k + 2)
    refine ⟨k', ?_⟩
    rw [he]
    show rGo 9 k (92 :: c :: (escAll bs ++ rest)) _ = _
    have hn : ¬ (49 ≤ c.toNat ∧ c.toNat ≤ 57) := by omega
    have hn2 : ¬ c.toNat = 110 := by omega
    simp only [rGo, if_neg hn, if_neg hn2, show ¬ (92 : UInt8).toNat = 38 by decide, if_false, show (92 : UInt8).toNat = 92 by decide, if_true]
    rw [ha, hk']; rfl
  · have he : esc c = [c] := if_neg h
    obtain ⟨k', hk'⟩ := rGo_bytes rest out bs [c] (k + 1)
    refine ⟨k', ?_⟩
    rw [he]
    show rGo 9 k (c :: (escAll bs ++ rest)) _ = _
    rw [rGo_text (by omega) (by omega), ha, hk']; rfl
theorem rGo_grp {k : Nat} {d : UInt8} {l : List UInt8} {out : List PartT} (hd : 49 ≤ d.toNat ∧ d.toNat ≤ 57) : rGo 9 k (92 :: d :: l) out = rGo 9 (k + 2) l (addP out (1, (d.toNat : Int) - 48, [])) := by
  have hgs : ¬ (9 : Int) < (d.toNat : Int) - 48 := by omega
  simp only [rGo, show ¬ (92 : UInt8).toNat = 38 by decide, if_false, show (92 : UInt8).toNat = 92 by decide, if_true, if_pos hd, if_neg hgs]
  rw [if_neg (by decide)]
/-- What is told of parts is parsed to the same ones. -/
theorem rGo_back : ∀ (l : List PartT) (pt : Bool) (out : List PartT) (k : Nat), rightOk pt l = true → (∀ q, out.getLast? = some q → (pt = false → q.1 ≠ 0)) → rGo 9 k (textOf l) out = (out ++ l, 0, 0)
  | [], _, out, k, _, _ => by rw [List.append_nil]; cases k <;> rfl
  | p :: l, pt, out, k, h, ho => by
    have e : textOf (p :: l) = textOne p ++ textOf l := by unfold textOf; rw [List.flatMap_cons]
    have hp := right_all h p (by simp)
    have h' := h
    rw [rightOk, Bool.and_eq_true] at h'
    obtain ⟨h1, h2⟩ := h'
    have hb : ¬ badP pt p := by simpa using h1
    have hl : out ++ p :: l = (out ++ [p]) ++ l := by simp
    rw [e, hl]
    obtain ⟨p1, p2, p3⟩ := p
    rcases hp with ⟨e1, e2, e3⟩ | ⟨e1, e2, e3, e4⟩
    · simp only at e1 e2 e3
      subst e1; subst e3
      obtain ⟨c, bs, rfl⟩ : ∃ c bs, p3 = c :: bs := by cases p3 with
        | nil => simp at e2
        | cons c bs => exact ⟨c, bs, rfl⟩
      have hpt : pt = false := by
        cases pt with
        | false => rfl
        | true => exact absurd (.inl ⟨rfl, .inr (.inr rfl)⟩) hb
      obtain ⟨k', hk'⟩ := rGo_text1 (textOf l) out c bs k fun q hq => ho q hq hpt
      show rGo 9 k (escAll (c :: bs) ++ textOf l) out = _
      rw [hk']
      exact rGo_back l _ _ k' h2 fun q hq hf => by simp at hf
    · simp only at e1 e2 e3 e4
      subst e1; subst e4
      have ha : ∀ z : Int, addP out (1, z, []) = out ++ [(1, z, [])] := fun z => by
        unfold addP
        cases out.getLast? with
        | none => rfl
        | some q => simp
      have hlast : ∀ q, (out ++ [((1 : Int), p2, ([] : List UInt8))]).getLast? = some q → (decide ((1 : Int) = 0) = false → q.1 ≠ 0) := fun q hq _ => by
        rw [List.getLast?_concat] at hq
        injection hq with hq
        rw [← hq]; simp
      unfold textOne
      rw [if_pos rfl]
      by_cases hg : p2 = 0
      · subst hg
        rw [if_pos rfl]
        show rGo 9 k (38 :: textOf l) out = _
        rw [rGo_amp (by decide), ha]
        exact rGo_back l _ _ _ h2 hlast
      · simp only [if_neg hg]
        have hd : (UInt8.ofNat (48 + p2.toNat)).toNat = 48 + p2.toNat := UInt8.toNat_ofNat_of_lt' (by simp [UInt8.size]; omega)
        show rGo 9 k (92 :: UInt8.ofNat (48 + p2.toNat) :: textOf l) out = _
        rw [rGo_grp (by omega), hd, show (((48 + p2.toNat : Nat) : Int) - 48) = p2 by omega, ha]
        exact rGo_back l _ _ _ h2 hlast
theorem back_true (l : List PartT) : palinodelaw13_SwapBack_R l true := by
  refine ⟨_, rfl, split_ (fun h => ?_) fun h => ?_⟩
  · exact split_ (fun _ => ⟨true, rfl, rfl⟩) fun h => absurd rfl h
  · obtain ⟨g1, g2, _⟩ := not_great (b_f h)
    refine ⟨_, right_ok l (by omega), split_ (fun _ => ⟨true, rfl, rfl⟩) fun hr => ?_⟩
    have hr : rightOk false l = true := by simpa using hr
    have ht := textOf_len g2
    have htl : (textOf l).length ≤ 744 := by omega
    refine ⟨_, text_ok l (by omega) hr fun p hp => by have := g2 p hp; omega, ?_⟩
    have hback := rGo_back l false [] 0 hr (by simp)
    rw [List.nil_append] at hback
    refine loop_ (fun st m => ∃ k : Nat, k ≤ (textOf l).length + 1 ∧ m = (textOf l).length + 1 - k ∧ st = (k : Int) ∧ okNL ((textOf l).drop k) = true) _ ⟨0, by omega, rfl, rfl, okNL_text l⟩ ?_
    rintro st m ⟨k, hk, rfl, rfl, h1⟩
    refine split_ (fun h3 => ?_) fun h3 => ?_
    · have hkl : k < (textOf l).length := by omega
      have hd := List.drop_eq_getElem_cons hkl
      rw [hd] at h1
      refine at_ (by omega) (by omega) fun c hc => ?_
      rw [Int.toNat_natCast, List.getElem?_eq_getElem hkl] at hc
      injection hc with hc
      rw [hc] at h1
      refine split_ (fun h4 => ?_) fun h4 => ?_
      · refine inR_ (by omega) (inR_ (by omega) ⟨(textOf l).length + 1 - (k + 2), by omega, k + 2, by omega, rfl, by omega, ?_⟩)
        have h92 : c.toNat = 92 := by omega
        by_cases hk2 : k + 1 < (textOf l).length
        · rw [List.drop_eq_getElem_cons hk2] at h1
          rw [okNL, if_pos h92] at h1
          exact h1
        · rw [List.drop_eq_nil_of_le (by omega)]; rfl
      · refine at_ (by omega) (by omega) fun c' hc' => ?_
        rw [Int.toNat_natCast, List.getElem?_eq_getElem hkl, hc] at hc'
        injection hc' with hc'
        subst hc'
        have h10 : c.toNat ≠ 10 := by
          intro h10
          revert h1
          cases (textOf l).drop (k + 1) with
          | nil => simp [okNL, h10]
          | cons d r => simp [okNL, h10]
        refine split_ (fun h5 => by omega) fun h5 => inR_ (by omega) ⟨(textOf l).length + 1 - (k + 1), by omega, k + 1, by omega, rfl, by omega, ?_⟩
        rw [okNL_other (by omega) h10] at h1
        exact h1
    · have hp := pGo_rGo 9 (textOf l).length 0 (textOf l) [] [] (Nat.le_refl _) (by simp)
      rw [flush_nil, hback] at hp
      refine ⟨_, ⟨by omega, rfl⟩, _, ⟨by omega, rfl⟩, ?_⟩
      rw [hp, hback]
      have hbig : ∀ p ∈ l, p.2.2.length ≤ 1000000000 := fun p hp => by have := g2 p hp; omega
      refine split_ (fun _ => split_ (fun _ => ⟨_, ⟨⟨by show l.length ≤ _; omega, hbig⟩, rfl⟩, split_ (fun _ => ⟨_, ⟨⟨by show l.length ≤ _; omega, hbig⟩, rfl⟩, split_ (fun _ => ⟨true, rfl, rfl⟩) fun h => absurd (decide_eq_true rfl) h⟩) fun h => absurd (decide_eq_true rfl) h⟩) fun h => absurd rfl h) fun h => absurd rfl h
theorem back_law (l : List PartT) : Con Try.prog 5 [.sl 3 none (List.map encP l)] [] [] (Ret (.v (.bool true))) := palinodelaw13_SwapBack_con l true (back_true l)
end Go.Proofs.Ytcekiclbfjfagaa
