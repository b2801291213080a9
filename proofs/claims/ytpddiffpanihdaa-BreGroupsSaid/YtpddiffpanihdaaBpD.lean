/- The parser of basic regular expressions computes that function. -/
import Derived.Test.YtpddiffpanihdaaBpC
namespace Go.Proofs.Ytpddiffpanihdaa
theorem in64 {z : Int} (h0 : 0 ≤ z) (h1 : z ≤ 1000000) : InR z := ⟨by omega, by omega⟩
theorem isEnd_ok (b : List UInt8) (s : Pz) (hb : b.length ≤ 1000) (hp : s.p ≤ b.length) : bre_parser_isEnd_R (s.ps b) (isEndB b s.p) := by
  refine ⟨in64 (by show (0 : Int) ≤ (s.p : Int) + 1; omega) (by show (s.p : Int) + 1 ≤ _; omega), split_ (fun h => ?_) fun h => ?_⟩
  · have h : (s.p : Int) + 1 = (b.length : Int) := h
    unfold isEndB; rw [decide_eq_true (by omega)]; rfl
  · have h : ¬ (s.p : Int) + 1 = (b.length : Int) := h
    refine ⟨_, has_ok b s [36, 92, 41] hb hp (by simp), ?_⟩
    unfold isEndB; rw [decide_eq_false (by omega)]; rfl
theorem rep2_ok (b : List UInt8) (k : Int) (y : Int × Int × Int) (hi : Int) (s : Pz) (a : Nat) (hb : b.length ≤ 1000) (ha : a ≤ b.length) :
    bre_parser_repeat_j1 (s.ps b) [((s.p : Int), 13)] k y (a : Int) hi (rs b (rep2 b k y.1 hi s a)) := by
  refine ⟨_, has_ok b { s with p := a } [92, 125] hb ha (by simp), ?_⟩
  unfold rep2
  refine split_ (fun h => ?_) fun h => ?_
  · rw [if_pos h]; rfl
  · rw [if_neg h]
    exact ⟨in64 (by omega) (by omega), _, rep_ok b k y.1 hi { s with p := a + 2 }, rfl⟩
theorem repeat_ok (b : List UInt8) (k : Int) (s : Pz) (hb : b.length ≤ 1000) (hp : s.p ≤ b.length) (hm : hasS b s.p [42] = true ∨ hasS b s.p [92, 123] = true) : bre_parser_repeat_R (s.ps b) k (rs b (repeatF b k s)) := by
  refine ⟨_, has_ok b s [42] hb hp (by simp), ?_⟩
  unfold repeatF
  refine split_ (fun h1 => ?_) fun h1 => ?_
  · rw [if_pos h1]
    exact ⟨in64 (by show (0 : Int) ≤ (s.p : Int) + 1; omega) (by show (s.p : Int) + 1 ≤ _; omega), _, rep_ok b k 0 (-1) (adv s 1), rfl⟩
  · rw [if_neg h1]
    have hp2 : s.p + 2 ≤ b.length := has_len (hm.resolve_left h1) (by simp)
    refine ⟨_, rfl, in64 (by show (0 : Int) ≤ (s.p : Int) + 2; omega) (by show (s.p : Int) + 2 ≤ _; omega), _, num_ok b (s.p + 2) hb hp2, split_ (fun h2 => ?_) fun h2 => ?_⟩
    · rw [if_pos h2]; rfl
    · rw [if_neg h2]
      obtain ⟨q, hq, hq1, hq2⟩ := num_next (Decidable.not_not.1 h2) hp2
      rw [hq, Int.toNat_natCast]
      have hno : ¬ b[q]? = some 44 → bre_parser_repeat_j2 (numR b (s.p + 2)) (s.ps b) [((s.p : Int), 13)] k false (rs b (rep2 b k (numR b (s.p + 2)).1 (numR b (s.p + 2)).1 s q)) := fun _ => by
        refine split_ (fun h => by cases h) fun _ => ?_
        rw [hq]
        exact rep2_ok b k _ _ s q hb hq2
      refine split_ (fun h3 => ?_) fun h3 => ?_
      · have h3 : (q : Int) < (b.length : Int) := h3
        obtain ⟨c, hc⟩ : ∃ c, b[q]? = some c := ⟨b[q]'(by omega), List.getElem?_eq_getElem (by omega)⟩
        refine ⟨by omega, c, hc, ?_⟩
        by_cases h4 : c = 44
        · subst h4
          rw [if_pos hc, show decide ((((44 : UInt8).toNat : Nat) : Int) = 44) = true from rfl]
          refine split_ (fun _ => ?_) fun h => absurd rfl h
          rw [hq]
          refine ⟨in64 (by omega) (by omega), _, num_ok b (q + 1) hb (by omega), split_ (fun h5 => ?_) fun h5 => ?_⟩
          · rw [if_pos h5]
            obtain ⟨z, hz, hz1, hz2⟩ := num_next h5 (by omega)
            rw [hz, Int.toNat_natCast]
            refine ⟨in64 (by omega) (by omega), in64 (by omega) (by omega), ?_⟩
            rw [show (z : Int) - 1 + 1 = (z : Int) by omega]
            exact rep2_ok b k _ _ s z hb hz2
          · rw [if_neg h5]
            refine split_ (fun h6 => ?_) fun h6 => ?_
            · rw [if_neg h6]; rfl
            · rw [if_pos (Decidable.not_not.1 h6)]
              exact ⟨in64 (by omega) (by omega), rep2_ok b k _ _ s (q + 1) hb (by omega)⟩
        · have hne : ¬ b[q]? = some 44 := fun h => h4 (Option.some.inj (hc.symm.trans h))
          rw [if_neg hne, decide_eq_false (fun h => h4 (UInt8.toNat_inj.1 (by show c.toNat = 44; omega)))]
          exact hno hne
      · have h3 : ¬ (q : Int) < (b.length : Int) := h3
        have hne : ¬ b[q]? = some 44 := fun h => by have := (List.getElem?_eq_some_iff.1 h).1; omega
        rw [if_neg hne]
        exact hno hne
theorem repsF_succ (b : List UInt8) (n : Nat) (k : Int) (w : List (Int × Int)) (s : Pz) : repsF b (n + 1) k w s = if moreR b k w s = true then repsF b n (repeatF b k s).1 (repeatF b k s).2.1 (repeatF b k s).2.2 else endRp k w s := rfl
theorem reps_ok (b : List UInt8) (r : Res) (hb : b.length ≤ 1000) (h : r.2.1 = [] → r.2.2.p ≤ b.length ∧ r.2.2.g ≤ 9) : bre_parser_piece_j2 r.1 r.2.1 r.2.2.L (r.2.2.g : Int) b (r.2.2.p : Int) r.2.2.cl (rs b (repsR b r)) := by
  obtain ⟨k, w, s⟩ := r
  dsimp only at h
  refine loop_ (fun (st : Int × List (Int × Int) × List ND × Int × List UInt8 × Int × Arr 10 Bool) n => ∃ (k' : Int) (w' : List (Int × Int)) (s' : Pz), st = (k', w', s'.L, (s'.g : Int), b, (s'.p : Int), s'.cl) ∧ (w' = [] → s'.p ≤ b.length ∧ s'.g ≤ 9) ∧ (w' = [] → b.length < n + s'.p) ∧ 1 ≤ n ∧ repsF b n k' w' s' = repsR b (k, w, s)) (b.length + 1) ⟨k, w, s, rfl, h, fun _ => by omega, by omega, rfl⟩ ?_
  rintro _ n ⟨k', w', s', rfl, hs, hn, hn1, he⟩
  show bre_parser_piece_l4 _ k' w' s'.L (s'.g : Int) b (s'.p : Int) s'.cl _
  obtain ⟨n, rfl⟩ : ∃ j, n = j + 1 := ⟨n - 1, by omega⟩
  rw [repsF_succ] at he
  generalize hW : repsR b (k, w, s) = W at he
  have hend : moreR b k' w' s' = false → bre_parser_piece_j5 s'.L (s'.g : Int) b (s'.p : Int) s'.cl k' (fun st => ∃ m', m' < n + 1 ∧ ∃ (k' : Int) (w' : List (Int × Int)) (s' : Pz), st = (k', w', s'.L, (s'.g : Int), b, (s'.p : Int), s'.cl) ∧ (w' = [] → s'.p ≤ b.length ∧ s'.g ≤ 9) ∧ (w' = [] → b.length < m' + s'.p) ∧ 1 ≤ m' ∧ repsF b m' k' w' s' = W) w' false (rs b W) := fun hm => by
    rw [if_neg (by rw [hm]; simp)] at he
    refine split_ (fun h => by cases h) fun _ => ?_
    rw [← he]
    refine split_ (fun h5 => ?_) fun h5 => ?_
    · refine ⟨_, rfl, ?_⟩
      show (k', (if (w'.isEmpty && decide (k' < 0)) = true then [((s'.p : Int), (8 : Int))] else w'), _) = (k', _, _)
      rw [if_pos h5]; rfl
    · show (k', (if (w'.isEmpty && decide (k' < 0)) = true then [((s'.p : Int), (8 : Int))] else w'), _) = (k', _, _)
      rw [if_neg h5]; rfl
  refine split_ (fun h1 => ?_) fun h1 => ?_
  · have hw : w' = [] := List.isEmpty_iff.1 h1
    obtain ⟨hp, hg⟩ := hs hw
    have hn := hn hw
    refine split_ (fun h2 => ?_) fun h2 => ?_
    · have hgo : hasS b s'.p [42] = true ∨ hasS b s'.p [92, 123] = true → bre_parser_piece_j5 s'.L (s'.g : Int) b (s'.p : Int) s'.cl k' (fun st => ∃ m', m' < n + 1 ∧ ∃ (k' : Int) (w' : List (Int × Int)) (s' : Pz), st = (k', w', s'.L, (s'.g : Int), b, (s'.p : Int), s'.cl) ∧ (w' = [] → s'.p ≤ b.length ∧ s'.g ≤ 9) ∧ (w' = [] → b.length < m' + s'.p) ∧ 1 ≤ m' ∧ repsF b m' k' w' s' = W) w' true (rs b W) := fun hm => by
        have hmore : moreR b k' w' s' = true := by
          unfold moreR
          rw [h1, decide_eq_true h2]
          rcases hm with h | h <;> rw [h] <;> simp
        rw [if_pos hmore] at he
        refine split_ (fun _ => ?_) fun h => absurd rfl h
        have hpl : s'.p + 1 ≤ b.length := by rcases hm with h | h <;> have := has_len h (by simp) <;> simp at this <;> omega
        refine ⟨_, repeat_ok b k' s' hb hp hm, n, by omega, (repeatF b k' s').1, (repeatF b k' s').2.1, (repeatF b k' s').2.2, rfl, fun hr => ?_, fun hr => ?_, by omega, he⟩
        · obtain ⟨_, c2, c3⟩ := repeat_at hp hg hm hr
          exact ⟨c2, c3⟩
        · obtain ⟨c1, _, _⟩ := repeat_at hp hg hm hr
          omega
      refine ⟨_, has_ok b s' [42] hb hp (by simp), split_ (fun h3 => hgo (.inl h3)) fun h3 => ⟨_, has_ok b s' [92, 123] hb hp (by simp), ?_⟩⟩
      cases h4 : hasS b s'.p [92, 123] with
      | true => exact hgo (.inr h4)
      | false =>
        refine hend ?_
        unfold moreR
        rw [h4, show hasS b s'.p [42] = false by simpa using h3]; simp
    · refine hend ?_
      unfold moreR
      rw [decide_eq_false h2]; simp
  · refine hend ?_
    unfold moreR
    rw [show w'.isEmpty = false by simpa using h1]; rfl
theorem isS_aln (n : Nat) : isS (⟨#[97, 108, 110, 117, 109]⟩ : ByteArray) n = (alnB n, true) := by
  unfold isS alnB
  simp [ByteArray.toList_eq]
/-- What the five functions that call each other hand back. -/
def SJ (b : List UInt8) (m : Nat) (j : Job) (o : PS) (r : RS) : Prop := m ≤ 100000 ∧ ∃ q, o = j.s.ps b ∧ JobAt b j ∧ go b m j = some q ∧ r = rs b q
def S1 (b : List UInt8) (m : Nat) (o : PS) (x : Bool) (r : RS) : Prop := ∃ s, SJ b m (.branch x s) o r
def S2 (b : List UInt8) (m : Nat) (o : PS) (x : Bool) (r : RS) : Prop := ∃ s, SJ b m (.piece x s) o r
def S3 (b : List UInt8) (m : Nat) (o : PS) (r : RS) : Prop := ∃ s, SJ b m (.atom s) o r
def S4 (b : List UInt8) (m : Nat) (o : PS) (r : RS) : Prop := ∃ s, SJ b m (.escape s) o r
def S5 (b : List UInt8) (m : Nat) (o : PS) (r : RS) : Prop := ∃ s, SJ b m (.group s) o r
theorem branchE_ok (b : List UInt8) (x : Bool) (l : List Int) (s : Pz) (hl : l.length ≤ 100000) : bre_parser_branch_j2 x l s.L (s.g : Int) b (s.p : Int) s.cl (rs b (branchE b x l s)) := by
  unfold branchE
  refine split_ (fun h => ?_) fun h => ?_
  · rw [if_pos h]
    exact ⟨_, rfl, rfl⟩
  · rw [if_neg h]
    refine ⟨_, cat_ok b l s hl, split_ (fun h1 => ?_) fun h1 => ?_⟩
    · rw [if_pos h1]
      exact ⟨_, rfl, rfl⟩
    · rw [if_neg h1]; rfl
theorem loop_ok (b : List UInt8) (hb : b.length ≤ 1000) (m : Nat) (hm : m < 100000) (x : Bool) (l0 : List Int) (s0 : Pz) (q : Res) (hl0 : l0.length ≤ 1) (h0 : JobAt b (.loop x l0 true s0)) (hq : go b m (.loop x l0 true s0) = some q) :
    bre_parser_branch_j1 (fun a0 a1 r => ∃ m', m' < m + 1 ∧ S2 b m' a0 a1 r) x l0 s0.L (s0.g : Int) b (s0.p : Int) s0.cl (rs b q) := by
  refine loop_ (fun (st : List Int × Bool × List ND × Int × List UInt8 × Int × Arr 10 Bool) n => ∃ (l : List Int) (f : Bool) (s : Pz), n ≤ m ∧ l.length + n ≤ 100000 ∧ st = (l, f, s.L, (s.g : Int), b, (s.p : Int), s.cl) ∧ JobAt b (.loop x l f s) ∧ go b n (.loop x l f s) = some q) m ⟨l0, true, s0, Nat.le_refl _, by omega, rfl, h0, hq⟩ ?_
  rintro _ n ⟨l, f, s, hn, hln, rfl, hj, hg⟩
  obtain ⟨j1, j2, _⟩ := hj
  have j1 : s.p ≤ b.length := j1
  have j2 : s.g ≤ 9 := j2
  show bre_parser_branch_l3 _ x _ l f s.L (s.g : Int) b (s.p : Int) s.cl _
  cases n with
  | zero => cases hg
  | succ n =>
    unfold go at hg
    have hend : ¬ (s.p < b.length ∧ hasS b s.p [92, 41] = false) → bre_parser_branch_j2 x l s.L (s.g : Int) b (s.p : Int) s.cl (rs b q) := fun h => by
      rw [if_neg h] at hg
      injection hg with hg
      subst hg
      exact branchE_ok b x l s (by omega)
    refine split_ (fun h1 => ⟨_, has_ok b s [92, 41] hb j1 (by simp), split_ (fun h2 => ?_) fun h2 => ?_⟩) fun h1 => ?_
    · have h1 : (s.p : Int) < (b.length : Int) := h1
      rw [if_pos ⟨by omega, by simpa using h2⟩] at hg
      cases hp : go b n (.piece f s) with
      | none => rw [hp] at hg; cases hg
      | some y =>
        obtain ⟨k, w, s'⟩ := y
        rw [hp] at hg
        dsimp only at hg
        refine ⟨_, ⟨n, by omega, s, by omega, _, rfl, ⟨j1, j2, trivial⟩, hp, rfl⟩, split_ (fun h3 => ?_) fun h3 => ?_⟩
        · have h3 : ¬ w.isEmpty = true := h3
          rw [if_neg h3] at hg
          injection hg with hg
          subst hg
          rfl
        · have h3 : w.isEmpty = true := Decidable.not_not.1 h3
          rw [if_pos h3] at hg
          obtain ⟨⟨_, c2, c3⟩, _⟩ := go_at b n _ _ hp ⟨j1, j2, trivial⟩ (List.isEmpty_iff.1 h3)
          refine room_ (by show l.length + 1 ≤ _; omega) (by omega) ⟨n, by omega, l ++ [k], false, s', by omega, ?_, rfl, ⟨c2, c3, trivial⟩, hg⟩
          rw [List.length_append]; show l.length + 1 + n ≤ _; omega
    · exact hend fun h => h2 (by rw [h.2]; simp)
    · have h1 : ¬ (s.p : Int) < (b.length : Int) := h1
      exact hend fun h => by omega
theorem rec_ok (b : List UInt8) (hb : b.length ≤ 1000) : rec_bre_parser_branch_H (S1 b) (S2 b) (S3 b) (S4 b) (S5 b) := by
  refine ⟨?_, ?_, ?_, ?_, ?_⟩
  · rintro m _ x _ ⟨s, hm, q, rfl, ⟨j1, j2, _⟩, hg, rfl⟩
    have j1 : s.p ≤ b.length := j1
    have j2 : s.g ≤ 9 := j2
    cases m with
    | zero => cases hg
    | succ m =>
      unfold go at hg
      refine ⟨_, has_ok b s [94] hb j1 (by simp), split_ (fun h1 => ?_) fun h1 => ?_⟩
      · rw [if_pos h1] at hg
        have hl := has_len h1 (by simp)
        have hl : s.p + 1 ≤ b.length := hl
        obtain ⟨a1, a2, _⟩ := put_st (7, 0, 0, 0, 0, 0, setZ) (adv s 1)
        refine ⟨in64 (by show (0 : Int) ≤ (s.p : Int) + 1; omega) (by show (s.p : Int) + 1 ≤ _; omega), _, bol_ok b (adv s 1), room_ (by simp) (by omega) ⟨by decide, _, rfl, split_ (fun h2 => ?_) fun h2 => ?_⟩⟩
        · rw [if_pos h2] at hg
          injection hg with hg
          subst hg
          exact ⟨_, rfl, rfl⟩
        · rw [if_neg h2] at hg
          exact loop_ok b hb m (by omega) x _ _ q (by simp) ⟨by show (putS _ (adv s 1)).2.p ≤ _; rw [a1]; exact hl, by show (putS _ (adv s 1)).2.g ≤ _; rw [a2]; exact j2, trivial⟩ hg
      · rw [if_neg h1] at hg
        exact loop_ok b hb m (by omega) x [] s q (by simp) ⟨j1, j2, trivial⟩ hg
  · rintro m _ x _ ⟨s, hm, q, rfl, ⟨j1, j2, _⟩, hg, rfl⟩
    have j1 : s.p ≤ b.length := j1
    have j2 : s.g ≤ 9 := j2
    cases m with
    | zero => cases hg
    | succ m =>
      unfold go at hg
      have hatom : ¬ (x = true ∧ hasS b s.p [92, 123] = true) → ¬ (x = true ∧ hasS b s.p [42] = true) → bre_parser_piece_j3 (s.ps b) (fun a0 r => ∃ m', m' < m + 1 ∧ S3 b m' a0 r) false (rs b q) := fun h1 h2 => by
        rw [if_neg h1, if_neg h2] at hg
        cases hp : go b m (.atom s) with
        | none => rw [hp] at hg; cases hg
        | some y =>
          rw [hp] at hg
          injection hg with hg
          subst hg
          exact split_ (fun h => by cases h) fun _ => ⟨_, ⟨m, by omega, s, by omega, y, rfl, ⟨j1, j2, trivial⟩, hp, rfl⟩, reps_ok b y hb fun hw => (go_at b m _ y hp ⟨j1, j2, trivial⟩ hw).1.2⟩
      have hrest : ¬ (x = true ∧ hasS b s.p [92, 123] = true) → bre_parser_piece_j1 (s.ps b) x (fun a0 r => ∃ m', m' < m + 1 ∧ S3 b m' a0 r) false (rs b q) := fun h1 => by
        refine split_ (fun h => by cases h) fun _ => split_ (fun hx => ⟨_, has_ok b s [42] hb j1 (by simp), ?_⟩) fun hx => hatom h1 fun h => hx h.1
        cases h2 : hasS b s.p [42] with
        | false => exact hatom h1 fun h => by rw [h2] at h; cases h.2
        | true =>
          rw [if_neg h1, if_pos ⟨hx, h2⟩] at hg
          injection hg with hg
          subst hg
          have hl : s.p + 1 ≤ b.length := has_len h2 (by simp)
          refine split_ (fun _ => ⟨_, one_ok b 42 s (by omega), reps_ok b (oneR 42 s) hb fun _ => ?_⟩) fun h => absurd rfl h
          exact (okR_at (b := b) (s := adv s 1) (p := s.p + 1) ⟨Nat.le_refl _, hl, j2⟩).2
      refine split_ (fun hx => ⟨_, has_ok b s [92, 123] hb j1 (by simp), ?_⟩) fun hx => hrest fun h => hx h.1
      cases h1 : hasS b s.p [92, 123] with
      | false => exact hrest fun h => by rw [h1] at h; cases h.2
      | true =>
        rw [if_pos ⟨hx, h1⟩] at hg
        injection hg with hg
        subst hg
        exact split_ (fun _ => ⟨_, rfl, rfl⟩) fun h => absurd rfl h
  · rintro m _ _ ⟨s, hm, q, rfl, ⟨j1, j2, _⟩, hg, rfl⟩
    have j1 : s.p ≤ b.length := j1
    have j2 : s.g ≤ 9 := j2
    cases m with
    | zero => cases hg
    | succ m =>
      unfold go at hg
      cases hc : b[s.p]? with
      | none => rw [hc] at hg; cases hg
      | some c =>
        rw [hc] at hg
        dsimp only at hg
        have hl : s.p < b.length := (List.getElem?_eq_some_iff.1 hc).1
        refine ⟨by show (0 : Int) ≤ (s.p : Int); omega, c, hc, split_ (fun h1 => ?_) fun h1 => ?_⟩
        · rw [if_pos (by omega)] at hg
          exact ⟨_, ⟨m, by omega, s, by omega, q, rfl, ⟨j1, j2, hl⟩, hg, rfl⟩, rfl⟩
        rw [if_neg (by omega)] at hg
        refine split_ (fun h2 => ?_) fun h2 => ?_
        · rw [if_pos (by omega)] at hg
          injection hg with hg
          subst hg
          exact ⟨in64 (by show (0 : Int) ≤ (s.p : Int) + 1; omega) (by show (s.p : Int) + 1 ≤ _; omega), _, not_ok z4, _, set_ok b _ (adv s 1), rfl⟩
        rw [if_neg (by omega)] at hg
        refine split_ (fun h3 => ?_) fun h3 => ?_
        · rw [if_pos (by omega)] at hg
          refine ⟨in64 (by show (0 : Int) ≤ (s.p : Int) + 1; omega) (by show (s.p : Int) + 1 ≤ _; omega), _, parse_ok b (s.p + 1) hb hl, split_ (fun h4 => ?_) fun h4 => ?_⟩
          · rw [if_neg h4] at hg
            injection hg with hg
            subst hg
            exact ⟨_, rfl, rfl⟩
          · rw [if_pos (Decidable.not_not.1 h4)] at hg
            injection hg with hg
            subst hg
            obtain ⟨z, hz, _, _⟩ := parse_next (Decidable.not_not.1 h4) hl
            rw [hz, Int.toNat_natCast]
            exact ⟨_, set_ok b _ { s with p := z }, rfl⟩
        rw [if_neg (by omega)] at hg
        have hlast : ¬ (c.toNat = 36 ∧ isEndB b s.p = true) → bre_parser_atom_j1 (s.ps b) c false (rs b q) := fun h => by
          rw [if_neg h] at hg
          injection hg with hg
          subst hg
          exact split_ (fun h => by cases h) fun _ => ⟨_, one_ok b c s (by omega), rfl⟩
        refine split_ (fun h4 => ⟨_, isEnd_ok b s hb j1, ?_⟩) fun h4 => hlast fun h => h4 (by omega)
        cases he : isEndB b s.p with
        | false => exact hlast fun h => by rw [he] at h; cases h.2
        | true =>
          rw [if_pos ⟨by omega, he⟩] at hg
          injection hg with hg
          subst hg
          exact split_ (fun _ => ⟨in64 (by show (0 : Int) ≤ (s.p : Int) + 1; omega) (by show (s.p : Int) + 1 ≤ _; omega), _, eol_ok b (adv s 1), rfl⟩) fun h => absurd rfl h
  · rintro m _ _ ⟨s, hm, q, rfl, ⟨j1, j2, j3⟩, hg, rfl⟩
    have j1 : s.p ≤ b.length := j1
    have j2 : s.g ≤ 9 := j2
    have j3 : s.p + 1 ≤ b.length := j3
    have hin : InR ((s.p : Int) + 1) := in64 (by omega) (by omega)
    cases m with
    | zero => cases hg
    | succ m =>
      unfold go at hg
      refine ⟨hin, split_ (fun h0 => ?_) fun h0 => ⟨hin, by show (0 : Int) ≤ (s.p : Int) + 1; omega, ?_⟩⟩
      · have h0 : (s.p : Int) + 1 = (b.length : Int) := h0
        rw [List.getElem?_eq_none (by omega)] at hg
        injection hg with hg
        subst hg
        exact ⟨_, rfl, rfl⟩
      · have h0 : ¬ (s.p : Int) + 1 = (b.length : Int) := h0
        obtain ⟨c, hc⟩ : ∃ c, b[s.p + 1]? = some c := ⟨b[s.p + 1]'(by omega), List.getElem?_eq_getElem (by omega)⟩
        have hcl := c.toNat_lt
        have hl : s.p + 2 ≤ b.length := by have := (List.getElem?_eq_some_iff.1 hc).1; omega
        have hin2 : InR ((s.p : Int) + 2) := in64 (by omega) (by omega)
        rw [hc] at hg
        dsimp only at hg
        refine ⟨c, hc, _, dis_ok _ c, split_ (fun h1 => ?_) fun h1 => ?_⟩
        · rw [if_pos (by omega)] at hg
          exact ⟨_, ⟨m, by omega, s, by omega, q, rfl, ⟨j1, j2, hl⟩, hg, rfl⟩, rfl⟩
        rw [if_neg (by omega)] at hg
        rw [isS_aln]
        refine split_ (fun h2 => ?_) fun h2 => ?_
        · simp only [Bool.and_eq_true, decide_eq_true_eq] at h2
          rw [if_pos (by omega)] at hg
          refine exU8 (by omega) fun d hd => ⟨by omega, ?_⟩
          obtain ⟨y, hy⟩ : ∃ y, s.cl.l[c.toNat - 48]? = some y := ⟨s.cl.l[c.toNat - 48]'(by rw [s.cl.len]; omega), List.getElem?_eq_getElem (by rw [s.cl.len]; omega)⟩
          refine ⟨y, by rw [← hy]; show s.cl.l[((d.toNat : Nat) : Int).toNat]? = _; congr 1; omega, split_ (fun h3 => ?_) fun h3 => ?_⟩
          · rw [if_neg (fun h => h3 (Option.some.inj (hy.symm.trans h)))] at hg
            injection hg with hg
            subst hg
            exact ⟨_, rfl, rfl⟩
          · rw [if_pos (by rw [hy, Decidable.not_not.1 h3])] at hg
            injection hg with hg
            subst hg
            refine ⟨hin2, _, back_ok b _ (adv s 2), ?_⟩
            rw [hd]; rfl
        · simp only [Bool.and_eq_true, decide_eq_true_eq] at h2
          rw [if_neg (by omega)] at hg
          refine split_ (fun h3 => ?_) fun h3 => ?_
          · rw [if_pos (by omega)] at hg
            injection hg with hg
            subst hg
            exact ⟨hin, _, one_ok b 10 (adv s 1) (by show s.p + 1 ≤ _; omega), rfl⟩
          · rw [if_neg (by omega)] at hg
            refine split_ (fun h4 => ?_) fun h4 => ?_
            · rw [if_pos h4] at hg
              injection hg with hg
              subst hg
              exact ⟨_, rfl, rfl⟩
            · rw [if_neg h4] at hg
              injection hg with hg
              subst hg
              exact ⟨hin, _, one_ok b c (adv s 1) (by show s.p + 1 ≤ _; omega), rfl⟩
  · rintro m _ _ ⟨s, hm, q, rfl, ⟨j1, j2, j3⟩, hg, rfl⟩
    have j1 : s.p ≤ b.length := j1
    have j2 : s.g ≤ 9 := j2
    have j3 : s.p + 2 ≤ b.length := j3
    cases m with
    | zero => cases hg
    | succ m =>
      unfold go at hg
      by_cases h9 : 9 ≤ s.g
      · rw [if_pos h9] at hg
        injection hg with hg
        subst hg
        exact ⟨_, split_ (fun _ => rfl) fun h => absurd (by show (9 : Int) ≤ (s.g : Int); omega) h, split_ (fun _ => ⟨_, rfl, rfl⟩) fun h => absurd (by show (-1 : Int) < 0; decide) h⟩
      · rw [if_neg h9] at hg
        refine ⟨(((s.g + 1 : Nat) : Int), ({ s with g := s.g + 1 } : Pz).ps b), split_ (fun h => by have h : (9 : Int) ≤ (s.g : Int) := h; omega) fun _ => ⟨in64 (by show (0 : Int) ≤ (s.g : Int) + 1; omega) (by show (s.g : Int) + 1 ≤ _; omega), rfl⟩, split_ (fun h => by have h : ((s.g + 1 : Nat) : Int) < 0 := h; omega) fun _ => ⟨in64 (by show (0 : Int) ≤ (s.p : Int) + 2; omega) (by show (s.p : Int) + 2 ≤ _; omega), ?_⟩⟩
        cases hp : go b m (.branch true { s with g := s.g + 1, p := s.p + 2 }) with
        | none => rw [hp] at hg; cases hg
        | some y =>
          obtain ⟨k, w, s'⟩ := y
          rw [hp] at hg
          dsimp only at hg
          have hj : JobAt b (.branch true { s with g := s.g + 1, p := s.p + 2 }) := ⟨j3, by show s.g + 1 ≤ 9; omega, trivial⟩
          refine ⟨_, ⟨m, by omega, { s with g := s.g + 1, p := s.p + 2 }, by omega, _, rfl, hj, hp, rfl⟩, split_ (fun h3 => ?_) fun h3 => ?_⟩
          · have h3 : ¬ w.isEmpty = true := h3
            rw [if_neg h3] at hg
            injection hg with hg
            subst hg
            rfl
          · have h3 : w.isEmpty = true := Decidable.not_not.1 h3
            rw [if_pos h3] at hg
            injection hg with hg
            subst hg
            obtain ⟨⟨_, c2, c3⟩, c4⟩ := go_at b m _ _ hp hj (List.isEmpty_iff.1 h3)
            have c2 : s'.p ≤ b.length := c2
            obtain ⟨y, hy⟩ : ∃ y, s'.cl.l[s.g + 1]? = some y := ⟨s'.cl.l[s.g + 1]'(by rw [s'.cl.len]; omega), List.getElem?_eq_getElem (by rw [s'.cl.len]; omega)⟩
            exact ⟨in64 (by show (0 : Int) ≤ (s'.p : Int) + 2; omega) (by show (s'.p : Int) + 2 ≤ _; omega), ⟨by show (0 : Int) ≤ ((s.g + 1 : Nat) : Int); omega, by show ((s.g + 1 : Nat) : Int) < 10; omega⟩, y, hy, _, group_ok b _ k { s' with p := s'.p + 2, cl := Arr.set s'.cl (s.g + 1) true }, rfl⟩
end Go.Proofs.Ytpddiffpanihdaa
