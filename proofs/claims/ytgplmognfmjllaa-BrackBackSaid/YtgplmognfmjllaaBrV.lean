/- The document's reading of such a text; the law. -/
import Derived.Test.YtgplmognfmjllaaBrU
namespace Go.Proofs.Ytgplmognfmjllaa
abbrev A256 := Arr 256 Bool
def FI (f : A256) (p : Nat → Bool) : Prop := ∀ d, d < 256 → f.l[d]? = some (p d)
theorem FI.set {f : A256} {p q : Nat → Bool} (h : FI f p) (k : Nat) (b : Bool) (hq : ∀ d, d < 256 → q d = if d = k then b else p d) : FI (Arr.set f k b) q := fun d hd => by
  show (f.l.set k b)[d]? = _
  rw [List.getElem?_set, hq d hd]
  by_cases e : k = d
  · rw [if_pos e, if_pos (by rw [f.len]; omega), if_pos e.symm]
  · rw [if_neg e, if_neg (fun h => e h.symm)]; exact h d hd
theorem FI.congr {f : A256} {p q : Nat → Bool} (h : FI f p) (e : ∀ d, d < 256 → p d = q d) : FI f q := fun d hd => by rw [← e d hd]; exact h d hd
theorem FI.at_ {f : A256} {p : Nat → Bool} (h : FI f p) {k : Nat} (hk : k < 256) {v : Bool} (e : p k = v) : f.l[k]? = some v := by rw [← e]; exact h k hk
theorem drop_cons {b : List UInt8} {k : Nat} {x : UInt8} {t : List UInt8} (h : b.drop k = x :: t) : k < b.length ∧ b[k]? = some x ∧ b.drop (k + 1) = t := by
  have h1 : b[k]? = some x := by
    have := congrArg (fun l : List UInt8 => l[0]?) h
    simpa [List.getElem?_drop] using this
  obtain ⟨h2, _⟩ := List.getElem?_eq_some_iff.1 h1
  refine ⟨h2, h1, ?_⟩
  have := drop_at h1
  rw [h] at this
  injection this with _ this
  exact this.symm
theorem rat_ok {b : List UInt8} {k : Nat} {x : UInt8} {t : List UInt8} (h : b.drop k = x :: t) : palinoderef07_at_R b (k : Int) (x.toNat : Int) := by
  obtain ⟨h1, h2, _⟩ := drop_cons h
  exact split_ (fun h => absurd h (by omega)) fun _ => split_ (fun h => absurd h (by omega)) fun _ => ⟨by omega, x, by rw [Int.toNat_natCast]; exact h2, rfl⟩
abbrev rep256 : A256 := Arr.rep 256 false
theorem rread_unit (b : List UInt8) (k : Nat) (c : UInt8) (U rest : List UInt8) (hb : b.length ≤ 10000) (hd : b.drop k = tx c ++ uTxt U rest) (h1 : c.toNat = 91 → nbU U ≠ 58 ∧ nbU U ≠ 46 ∧ nbU U ≠ 61) (h2 : c.toNat = 92 → nbU U ≠ 110) :
    palinoderef07_read_R b (k : Int) ((c.toNat : Int), rep256, false, ((k + (tx c).length : Nat) : Int), 0) := by
  obtain ⟨x, t, hx, hn⟩ := uTxt_head U rest
  unfold tx at hd ⊢
  have e1 : ((k : Int) + 1) = ((k + 1 : Nat) : Int) := rfl
  by_cases hc : c.toNat = 10
  · rw [if_pos hc] at hd ⊢
    have hd : b.drop k = 92 :: 110 :: uTxt U rest := hd
    obtain ⟨q1, q2, q3⟩ := drop_cons hd
    refine split_ (fun h => absurd h (by omega)) fun _ => inR_ (by omega) ⟨_, rat_ok q3, by omega, 92, by rw [Int.toNat_natCast]; exact q2, ?_⟩
    refine split_ (fun _ => inR_ (by omega) ?_) fun h => absurd rfl h
    rw [hc]; rfl
  · rw [if_neg hc] at hd ⊢
    rw [hx] at hd
    have hd : b.drop k = c :: x :: t := hd
    obtain ⟨q1, q2, q3⟩ := drop_cons hd
    have q2' : b[(k : Int).toNat]? = some c := by rw [Int.toNat_natCast]; exact q2
    refine split_ (fun h => absurd h (by omega)) fun _ => inR_ (by omega) ⟨_, rat_ok q3, by omega, c, q2', ?_⟩
    rw [show ((decide ((c.toNat : Int) = 92)) && (decide ((x.toNat : Int) = 110))) = false from by
      rw [Bool.eq_false_iff]; intro h; rw [Bool.and_eq_true, decide_eq_true_eq, decide_eq_true_eq] at h; omega]
    refine split_ (fun h => by cases h) fun _ => ⟨by omega, c, q2', ?_⟩
    rw [show ((!(decide ((c.toNat : Int) = 91))) || ((!(decide ((x.toNat : Int) = 58))) && ((!(decide ((x.toNat : Int) = 46))) && (!(decide ((x.toNat : Int) = 61)))))) = true from by
      simp only [Bool.or_eq_true, Bool.and_eq_true, Bool.not_eq_true', decide_eq_false_iff_not]; omega]
    exact split_ (fun _ => ⟨by omega, c, q2', inR_ (by omega) rfl⟩) fun h => absurd rfl h
abbrev PR := SetT × Int × Int
theorem rl8_ok (C next n : Int) (ag3 : (Int × Int × A256) → Prop) (f : A256) (p : Nat → Bool) (r : PR) (hf : FI f p) (hn : 0 ≤ n ∧ n ≤ 100000) (h : ∀ f', FI f' (fun d => p d || decide ((d : Int) = C)) → ag3 (next, n + 1, f')) :
    LoopR (fun ag8 s => palinoderef07_Parse_l8 (C, rep256, false, next, 0) n ag3 ag8 s.1 s.2 r) ((0 : Int), f) := by
  refine loop_ (fun (st : Int × A256) m => ∃ k : Nat, k ≤ 256 ∧ m = 256 - k ∧ st.1 = (k : Int) ∧ FI st.2 (fun d => if d < k then (p d || decide ((d : Int) = C)) else p d)) 256 ⟨0, by omega, rfl, rfl, hf.congr fun d hd => (if_neg (by omega)).symm⟩ ?_
  rintro ⟨c, g⟩ m ⟨k, hk, rfl, hc, hg⟩
  simp only at hc hg
  subst hc
  show palinoderef07_Parse_l8 (C, rep256, false, next, 0) n ag3 _ (k : Int) g r
  refine split_ (fun h1 => ?_) fun h1 => ?_
  · have hgk := hg.at_ (k := k) (by omega) (v := p k) (if_neg (by omega))
    have e : (k : Int).toNat = k := Int.toNat_natCast k
    have step : ∀ b, b = (p k || decide ((k : Int) = C)) → palinoderef07_Parse_j9 (k : Int) (fun s' => ∃ m', m' < 256 - k ∧ ∃ k : Nat, k ≤ 256 ∧ m' = 256 - k ∧ s'.1 = (k : Int) ∧ FI s'.2 (fun d => if d < k then (p d || decide ((d : Int) = C)) else p d)) (Arr.set g (k : Int).toNat b) r := fun b hb => by
      refine inR_ (by omega) ⟨256 - (k + 1), by omega, k + 1, by omega, rfl, rfl, ?_⟩
      rw [e]
      refine hg.set k b fun d hd => ?_
      by_cases hdk : d = k
      · rw [if_pos hdk, hb, if_pos (by omega), hdk]
      · rw [if_neg hdk]
        by_cases hlt : d < k
        · rw [if_pos hlt, if_pos (by omega)]
        · rw [if_neg hlt, if_neg (by omega)]
    refine ⟨⟨by omega, by omega⟩, p k, by rw [e]; exact hgk, split_ (fun h2 => ⟨⟨by omega, by omega⟩, p k, by rw [e]; exact hgk, step true (by rw [h2]; rfl)⟩) fun h2 => split_ (fun h3 => by cases h3) fun _ => split_ (fun _ => ⟨⟨by omega, by omega⟩, p k, by rw [e]; exact hgk, step _ (by rw [show p k = false from by simpa using h2, Bool.false_or])⟩) fun h3 => absurd Bool.false_ne_true h3⟩
  · have : k = 256 := by omega
    subst this
    exact inR_ (by omega) (h g (hg.congr fun d hd => if_pos hd))
theorem rl5_ok (neg : Bool) (y24 i : Int) (f : A256) (p : Nat → Bool) (S : SetT) (hf : FI f p) (hi : 0 ≤ i ∧ i ≤ 100000) (hy : decide (y24 = 94) = neg) (hS : ∀ d, d < 256 → memS S d = !(p d == neg)) :
    LoopR (fun ag5 s => palinoderef07_Parse_l5 y24 i ag5 s.1 s.2 (S, i + 1, 0)) ((0 : Int), f) := by
  refine loop_ (fun (st : Int × A256) m => ∃ k : Nat, k ≤ 256 ∧ m = 256 - k ∧ st.1 = (k : Int) ∧ FI st.2 (fun d => if d < k then !(p d == neg) else p d)) 256 ⟨0, by omega, rfl, rfl, hf.congr fun d hd => (if_neg (by omega)).symm⟩ ?_
  rintro ⟨c, g⟩ m ⟨k, hk, rfl, hc, hg⟩
  simp only at hc hg
  subst hc
  show palinoderef07_Parse_l5 y24 i _ (k : Int) g _
  refine split_ (fun h1 => ?_) fun h1 => ?_
  · have hgk := hg.at_ (k := k) (by omega) (v := p k) (if_neg (by omega))
    have e : (k : Int).toNat = k := Int.toNat_natCast k
    refine ⟨⟨by omega, by omega⟩, p k, by rw [e]; exact hgk, ⟨by omega, by omega⟩, p k, by rw [e]; exact hgk, inR_ (by omega) ⟨256 - (k + 1), by omega, k + 1, by omega, rfl, rfl, ?_⟩⟩
    rw [e, hy]
    refine hg.set k _ fun d hd => ?_
    by_cases hdk : d = k
    · rw [if_pos hdk, if_pos (by omega), hdk]
    · rw [if_neg hdk]
      by_cases hlt : d < k
      · rw [if_pos hlt, if_pos (by omega)]
      · rw [if_neg hlt, if_neg (by omega)]
  · have : k = 256 := by omega
    subst this
    refine ⟨_, rof_ok g, inR_ (by omega) ?_⟩
    rw [is_pset (s := S) (p := bitP g)]
    intro d hd
    have := hg.at_ hd (if_pos hd)
    rw [hS d hd]
    unfold bitP
    rw [List.getD_eq_getElem?_getD, this]; rfl
theorem rparse_units (b : List UInt8) (a0 : Nat) (U : List UInt8) (neg : Bool) (y24 : Int) (S : SetT) (hb : b.length ≤ 10000) (hd : b.drop a0 = uTxt U []) (hg : goodU true U) (hU : U ≠ []) (hy : decide (y24 = 94) = neg)
    (hS : ∀ d, d < 256 → memS S d = !((U.any fun c => decide (c.toNat = d)) == neg)) : palinoderef07_Parse_j2 b y24 (a0 : Int) (S, ((a0 + (U.flatMap tx).length + 1 : Nat) : Int), 0) := by
  refine loop_ (fun (st : Int × Int × A256) m => ∃ U1 U2 : List UInt8, ∃ f : A256, U = U1 ++ U2 ∧ m = U2.length ∧ st = (((a0 + (U1.flatMap tx).length : Nat) : Int), (U1.length : Int), f) ∧ FI f (fun d => U1.any fun c => decide (c.toNat = d)) ∧ goodU (decide (U1 = [])) U2 ∧ b.drop (a0 + (U1.flatMap tx).length) = uTxt U2 []) U.length ⟨[], U, rep256, rfl, rfl, rfl, fun d hd => ?_, hg, hd⟩ ?_
  · show (List.replicate 256 false)[d]? = _
    rw [List.getElem?_replicate, if_pos hd]; rfl
  rintro _ m ⟨U1, U2, f, hUU, rfl, rfl, hf, hg2, hd2⟩
  show palinoderef07_Parse_l3 b y24 _ ((a0 + (U1.flatMap tx).length : Nat) : Int) (U1.length : Int) f _
  have hposl : a0 + (U1.flatMap tx).length ≤ b.length := by
    obtain ⟨x, t, hx, _⟩ := uTxt_head U2 []
    rw [hx] at hd2
    have := (drop_cons hd2).1
    omega
  generalize hi : a0 + (U1.flatMap tx).length = i at hd2 hposl ⊢
  have hlen1 : U1.length ≤ b.length := by
    have : U1.length ≤ (U1.flatMap tx).length := by
      clear hUU hf hg2 hi
      induction U1 with
      | nil => simp
      | cons c l ih => rw [List.flatMap_cons, List.length_append, List.length_cons]; have := (tx_len c).2; omega
    omega
  cases U2 with
  | nil =>
    have hU1 : U1 = U := by rw [hUU, List.append_nil]
    subst hU1
    refine split_ (fun h => absurd (List.eq_nil_of_length_eq_zero (by omega)) hU) fun _ => ⟨_, rat_ok (x := 93) (t := []) hd2, split_ (fun h => absurd rfl h) fun _ => ?_⟩
    have := rl5_ok neg y24 (i : Int) f _ S hf (by omega) hy hS
    rw [hi]
    exact this
  | cons c U2 =>
    obtain ⟨g0, g1, g2, g3, g4⟩ := hg2
    rw [uTxt_cons] at hd2
    have hd3 : b.drop (i + (tx c).length) = uTxt U2 [] := by rw [← List.drop_drop, hd2, List.drop_left]
    obtain ⟨x, t, hx, hxn⟩ := uTxt_head U2 []
    have hj4 : palinoderef07_Parse_j4 b (i : Int) (U1.length : Int) (fun s' => ∃ m', m' < (c :: U2).length ∧ ∃ U1 U2 : List UInt8, ∃ f : A256, U = U1 ++ U2 ∧ m' = U2.length ∧ s' = (((a0 + (U1.flatMap tx).length : Nat) : Int), (U1.length : Int), f) ∧ FI f (fun d => U1.any fun c => decide (c.toNat = d)) ∧ goodU (decide (U1 = [])) U2 ∧ b.drop (a0 + (U1.flatMap tx).length) = uTxt U2 []) f (S, ((a0 + (U.flatMap tx).length + 1 : Nat) : Int), 0) := by
      refine ⟨_, rread_unit b i c U2 [] hb hd2 g1 g2, split_ (fun h => absurd rfl h) fun _ => ?_⟩
      have hd4 := hd3
      rw [hx] at hd4
      have hl8 := rl8_ok (c.toNat : Int) ((i + (tx c).length : Nat) : Int) (U1.length : Int) (fun s' => ∃ m', m' < (c :: U2).length ∧ ∃ U1 U2 : List UInt8, ∃ f : A256, U = U1 ++ U2 ∧ m' = U2.length ∧ s' = (((a0 + (U1.flatMap tx).length : Nat) : Int), (U1.length : Int), f) ∧ FI f (fun d => U1.any fun c => decide (c.toNat = d)) ∧ goodU (decide (U1 = [])) U2 ∧ b.drop (a0 + (U1.flatMap tx).length) = uTxt U2 []) f _ (S, ((a0 + (U.flatMap tx).length + 1 : Nat) : Int), 0) hf (by omega) (fun f' hf' => by
        have hfl : ((U1 ++ [c]).flatMap tx).length = (U1.flatMap tx).length + (tx c).length := by rw [List.flatMap_append, List.length_append]; simp
        refine ⟨U2.length, by rw [List.length_cons]; omega, U1 ++ [c], U2, f', by rw [hUU, List.append_assoc]; rfl, rfl, ?_, fun d hd => ?_, ?_, ?_⟩
        · rw [hfl, List.length_append, List.length_singleton, ← Nat.add_assoc, hi]; rfl
        · refine hf'.at_ hd ?_
          simp only [List.any_append, List.any_cons, List.any_nil, Bool.or_false]
          congr 1
          rw [decide_eq_decide]; omega
        · rw [decide_eq_false (by simp)]; exact g4
        · rw [hfl, ← Nat.add_assoc, hi]; exact hd3)
      refine ⟨_, rat_ok hd4, split_ (fun h => split_ (fun _ => hl8) fun h => absurd rfl h) fun h => ?_⟩
      have h45 : x.toNat = 45 := by
        have : (x.toNat : Int) = 45 := Decidable.of_not_not h
        omega
      have hU2 := g3 (by omega)
      subst hU2
      have hd5 := drop_cons hd4
      have ht : t = [93] := by
        have hx : [45, 93] = x :: t := hx
        injection hx with _ hx
        exact hx.symm
      have hi2 : i + (tx c).length < b.length := hd5.1
      have h6 : b.drop (i + (tx c).length + 1) = 93 :: [] := by rw [hd5.2.2, ht]
      refine inR_ (by show _ ≤ ((i + (tx c).length : Nat) : Int) + 1 ∧ ((i + (tx c).length : Nat) : Int) + 1 ≤ _; omega) ⟨_, rat_ok h6, ?_⟩
      exact split_ (fun _ => hl8) fun h => absurd rfl h
    refine split_ (fun _ => hj4) fun hn => ?_
    obtain ⟨x0, t0, hx0, hxn0⟩ := uTxt_head (c :: U2) []
    rw [uTxt_cons] at hx0
    rw [hx0] at hd2
    refine ⟨_, rat_ok hd2, split_ (fun _ => hj4) fun h => ?_⟩
    have h : (x0.toNat : Int) = 93 := Decidable.of_not_not h
    rw [nbU_cons] at hxn0
    have hc93 : c.toNat = 93 := by
      by_cases hc : c.toNat = 10
      · rw [if_pos hc] at hxn0; omega
      · rw [if_neg hc] at hxn0; omega
    have := of_decide_eq_true (g0 hc93)
    rw [this] at hn
    exact absurd rfl hn
theorem textS_len (neg : Bool) (s : SetT) : (textS neg s).length = (preT neg).length + ((unitsU neg s).flatMap tx).length + 1 := by
  have := congrArg List.length (text_units neg s [])
  rw [List.append_nil, List.length_append] at this
  rw [this]
  unfold uTxt
  rw [List.length_append, List.length_singleton]; omega
theorem textS_le (neg : Bool) (s : SetT) : (textS neg s).length ≤ 600 := by
  unfold textS
  have h1 := upTo_len s 256
  have h2 := midT_len (upTo s 256)
  have h3 : (preT neg).length ≤ 2 := by unfold preT; split <;> simp
  have h4 : (heads s).length ≤ 1 := by unfold heads; split <;> simp
  have h5 : ((tailL (alone neg s)).filter (hasS s)).length ≤ 4 := Nat.le_trans (List.length_filter_le _ _) (by unfold tailL; split <;> simp)
  unfold midT
  simp only [List.length_append, List.length_cons, List.length_nil]
  omega
theorem both_ok (neg : Bool) (s : SetT) (rest : List UInt8) (hr : rest.length ≤ 30) (hne : (upTo s 256).length ≠ 0) (h94 : neg = false → s ≠ ofS [94]) :
    brack_Parse_R (textS neg s ++ rest) 1 (if neg = true then notS s else s, ((textS neg s).length : Int), 0) ∧ palinoderef07_Parse_R (textS neg s) 1 (if neg = true then notS s else s, ((textS neg s).length : Int), 0) := by
  have hU := units_ne neg s hne
  have hg := good_units neg s
  have hlen := textS_len neg s
  have hle := textS_le neg s
  have hacc := acc_units neg s
  have hfl : ((unitsU neg s).flatMap tx).length ≥ (unitsU neg s).length := by
    generalize unitsU neg s = l
    induction l with
    | nil => simp
    | cons c l ih => rw [List.flatMap_cons, List.length_append, List.length_cons]; have := (tx_len c).2; omega
  have hloop : ∀ rest : List UInt8, loopT ((uTxt (unitsU neg s) rest).length + 1) true (uTxt (unitsU neg s) rest) z4 0 = .ok (s, 0 + ((unitsU neg s).flatMap tx).length + 1) := fun rest => by
    rw [loop_units rest (unitsU neg s) _ true z4 0 hg (by unfold uTxt; rw [List.length_append, List.length_cons]; omega) (fun _ => hU), hacc]
  have hmem : ∀ d, d < 256 → ((unitsU neg s).any fun c => decide (c.toNat = d)) = memS s d := fun d hd => by
    have := mem_acc (unitsU neg s) z4 d hd
    rw [hacc, mem_rep d hd, Bool.false_or] at this
    exact this.symm
  constructor
  · have hp := parse_ok (textS neg s ++ rest) 1 (by rw [List.length_append]; omega) (by rw [List.length_append]; omega)
    have e : parseR (textS neg s ++ rest) 1 = (if neg = true then notS s else s, ((textS neg s).length : Int), 0) := by
      rw [text_units neg s rest]
      unfold parseR
      cases neg with
      | true =>
        rw [if_pos (show isNot (List.drop 1 (preT true ++ uTxt (unitsU true s) rest)) = true from rfl)]
        have e1 : List.drop (1 + 1) (preT true ++ uTxt (unitsU true s) rest) = uTxt (unitsU true s) rest := rfl
        rw [e1, hloop rest]
        refine Prod.ext rfl (Prod.ext ?_ rfl)
        show ((1 + 1 + (0 + _ + 1) : Nat) : Int) = _
        rw [hlen]
        show ((1 + 1 + (0 + ((unitsU true s).flatMap tx).length + 1) : Nat) : Int) = ((2 + ((unitsU true s).flatMap tx).length + 1 : Nat) : Int)
        omega
      | false =>
        have e1 : List.drop 1 (preT false ++ uTxt (unitsU false s) rest) = uTxt (unitsU false s) rest := rfl
        have hno : ¬ isNot (uTxt (unitsU false s) rest) = true := by
          obtain ⟨x, t, hx, hn⟩ := uTxt_head (unitsU false s) rest
          rw [hx]
          intro h
          have h : x.toNat = 94 := of_decide_eq_true h
          cases hq : unitsU false s with
          | nil => exact hU hq
          | cons c U =>
            rw [hq, nbU_cons] at hn
            have hc : c = 94 := u8_eq (by
              by_cases hc : c.toNat = 10
              · rw [if_pos hc] at hn; omega
              · rw [if_neg hc] at hn; rw [← hn, h]; rfl)
            subst hc
            exact units_head s (h94 rfl) U hq
        rw [e1, if_neg hno, hloop rest]
        refine Prod.ext rfl (Prod.ext ?_ rfl)
        show ((1 + (0 + _ + 1) : Nat) : Int) = _
        rw [hlen]
        show ((1 + (0 + ((unitsU false s).flatMap tx).length + 1) : Nat) : Int) = ((1 + ((unitsU false s).flatMap tx).length + 1 : Nat) : Int)
        omega
    rw [e] at hp
    exact hp
  · show palinoderef07_Parse_j1 (textS neg s) 1 _ _
    rw [show ((decide ((1 : Int) < 0)) || (decide (((textS neg s).length : Int) < 1))) = false from by
      rw [Bool.or_eq_false_iff, decide_eq_false_iff_not, decide_eq_false_iff_not]; omega]
    have ht := text_units neg s []
    rw [List.append_nil] at ht
    refine split_ (fun h => by cases h) fun _ => ?_
    cases neg with
    | true =>
      have hd1 : (textS true s).drop 1 = 94 :: uTxt (unitsU true s) [] := by rw [ht]; rfl
      have hd2 : (textS true s).drop 2 = uTxt (unitsU true s) [] := by rw [ht]; rfl
      refine ⟨_, rat_ok (k := 1) hd1, split_ (fun _ => inR_ (by omega) ?_) fun h => absurd rfl h⟩
      have := rparse_units (textS true s) 2 (unitsU true s) true 94 (notS s) (by omega) hd2 hg hU rfl (fun d hd => by rw [hmem d hd, mem_not s d hd]; cases memS s d <;> rfl)
      rw [show (2 + ((unitsU true s).flatMap tx).length + 1) = (textS true s).length from hlen.symm] at this
      exact this
    | false =>
      have hd1 : (textS false s).drop 1 = uTxt (unitsU false s) [] := by rw [ht]; rfl
      obtain ⟨x, t, hx, hn⟩ := uTxt_head (unitsU false s) []
      have hx94 : x.toNat ≠ 94 := fun h => by
        cases hq : unitsU false s with
        | nil => exact hU hq
        | cons c U =>
          rw [hq, nbU_cons] at hn
          have hc : c = 94 := u8_eq (by
            by_cases hc : c.toNat = 10
            · rw [if_pos hc] at hn; omega
            · rw [if_neg hc] at hn; rw [← hn, h]; rfl)
          subst hc
          exact units_head s (h94 rfl) U hq
      have hd1' := hd1
      rw [hx] at hd1'
      refine ⟨_, rat_ok (k := 1) hd1', split_ (fun h => absurd h (by omega)) fun _ => ?_⟩
      have := rparse_units (textS false s) 1 (unitsU false s) false (x.toNat : Int) s (by omega) hd1 hg hU (decide_eq_false (by omega)) (fun d hd => by rw [hmem d hd]; cases memS s d <;> rfl)
      rw [show (1 + ((unitsU false s).flatMap tx).length + 1) = (textS false s).length from hlen.symm] at this
      exact this
theorem back_law (s : SetT) (rest : List UInt8) : palinodelaw07_BrackBack_R s rest true := by
  refine Classical.byCases (p := 30 < (rest.length : Int)) (fun h => ⟨fun _ => ⟨true, brawake, rfl⟩, fun h' => absurd h h'⟩) fun hr => ?_
  have key : ∀ (neg : Bool) (s' : SetT), textOf s = textS neg s' → (upTo s' 256).length ≠ 0 → (neg = false → s' ≠ ofS [94]) → (if neg = true then notS s' else s') = s → palinodelaw07_BrackBack_R s rest true := by
    intro neg s' ht hne h94 hs
    have htx := text_ok s
    rw [ht] at htx
    obtain ⟨h1, h2⟩ := both_ok neg s' rest (by omega) hne h94
    have hle := textS_le neg s'
    have hl := textS_len neg s'
    have hp : 1 ≤ (preT neg).length := by unfold preT; split <;> simp
    rw [hs] at h1 h2
    have h0 : (textS neg s')[(0 : Int).toNat]? = some 91 := by
      unfold textS preT
      cases neg <;> rfl
    refine split_ (fun h => absurd h hr) fun _ => ⟨_, htx, split_ (fun h => absurd h (by omega)) fun _ => ⟨by omega, 91, h0, split_ (fun h => absurd rfl h) fun _ => room_ (by rw [List.length_nil]; omega) (by omega) (room_ (by rw [List.nil_append]; omega) (by omega) ⟨_, by rw [List.nil_append]; exact h1, _, h2, ?_⟩)⟩⟩
    exact split_ (fun _ => split_ (fun _ => split_ (fun _ => split_ (fun _ => split_ (fun _ => split_ (fun _ => ⟨true, brawake, rfl⟩) fun h => absurd rfl h) fun h => absurd rfl h) fun h => absurd rfl h) fun h => absurd rfl h) fun h => absurd rfl h) fun h => absurd rfl h
  have hcn := cnt_not s 256 (by omega)
  by_cases hn : negS s = true
  · refine key true (notS s) (by unfold textOf; rw [if_pos hn]) ?_ (fun h => by cases h) (by rw [if_pos rfl, not_not_])
    rcases of_decide_eq_true hn with h | h | h
    · omega
    · omega
    · intro e
      have h0 : (upTo s 256).length = 256 := by omega
      have hm : memS (notS s) 0 = true := by
        rw [mem_not s 0 (by omega), h, mem_of [94] 0 (by omega)]; rfl
      have : UInt8.ofNat 0 ∈ upTo (notS s) 256 := (upTo_mem _ _).2 hm
      rw [List.eq_nil_of_length_eq_zero e] at this
      cases this
  · refine key false s (by unfold textOf; rw [if_neg hn]) ?_ (fun _ h => hn (decide_eq_true (Or.inr (Or.inr h)))) (by rw [if_neg Bool.false_ne_true])
    intro e
    exact hn (decide_eq_true (Or.inl e))
end Go.Proofs.Ytgplmognfmjllaa
