/- The law of a text without bytes that mean something in either kind. -/
import Derived.Test.YtfhakeapepafbaaEpG
import Derived.Test.YtfhakeapepafbaaBqF
import Derived.Test.YtfhakeapepafbaaSm
import Derived.Test.YtfhakeapepafbaaGKL1
namespace Go.Proofs.Ytfhakeapepafbaa
def nodeOf (c : UInt8) : ND := if c = 46 then setN (notS z4) else setN (ofS [c])
def plainC (c : UInt8) : Prop := c ≠ 92 ∧ c ≠ 91 ∧ c ≠ 42 ∧ c ≠ 36 ∧ c ≠ 94 ∧ c ≠ 43 ∧ c ≠ 63 ∧ c ≠ 123 ∧ c ≠ 40 ∧ c ≠ 41 ∧ c ≠ 124
def stP (b : List UInt8) (i : Nat) : Pz := ⟨(b.take i).map nodeOf, 0, i, Arr.rep 10 false⟩
def ints (n : Nat) : List Int := (List.range n).map fun (i : Nat) => (i : Int)
theorem ints_succ' (n : Nat) : ints (n + 1) = ints n ++ [(n : Int)] := by simp [ints, List.range_succ]
theorem ints_len' (n : Nat) : (ints n).length = n := by simp [ints]
theorem ints_mem' {n : Nat} {y : Int} (h : y ∈ ints n) : 0 ≤ y ∧ y < (n : Int) := by
  obtain ⟨i, hi, rfl⟩ := List.mem_map.1 h
  have := List.mem_range.1 hi
  omega
theorem stP_len {b : List UInt8} {i : Nat} (hi : i ≤ b.length) : (stP b i).L.length = i := by
  show ((b.take i).map nodeOf).length = i
  rw [List.length_map, List.length_take]; omega
theorem node_of (c : UInt8) (a g : Int) : isNodeB (nodeOf c) a g = true := by
  unfold nodeOf
  split <;> exact node_set _ _ _
theorem stP_put {b : List UInt8} {i : Nat} {c : UInt8} (hc : b[i]? = some c) (hb : b.length ≤ 80) : putS (nodeOf c) (adv (stP b i) 1) = ((i : Int), stP b (i + 1)) := by
  have hi := (List.getElem?_eq_some_iff.1 hc).1
  have hl := stP_len (b := b) (i := i) (by omega)
  rw [put_yes (s := adv (stP b i) 1) (by show (stP b i).L.length < 1000; omega) (node_of c _ _)]
  show (((stP b i).L.length : Int), _) = _
  rw [hl]
  unfold stP adv
  rw [List.take_add_one, hc, List.map_append]
  rfl
theorem has_head {b : List UInt8} {p : Nat} {x : UInt8} {l : List UInt8} (h : hasS b p (x :: l) = true) : b[p]? = some x := by
  have h := of_decide_eq_true h
  cases hp : b[p]? with
  | none =>
    rw [List.drop_eq_nil_of_le (List.getElem?_eq_none_iff.1 hp)] at h
    cases h
  | some y =>
    rw [drop_at hp] at h
    rw [List.length_cons, List.take_succ_cons] at h
    injection h with h
    rw [h]
section
variable {b : List UInt8} (hb : b.length ≤ 80) (hp : ∀ (i : Nat) (c : UInt8), b[i]? = some c → plainC c)
include hb hp
omit hb in
theorem no_has {i : Nat} {x : UInt8} {l : List UInt8} (hx : ¬ plainC x) : hasS b i (x :: l) = false := by
  cases h : hasS b i (x :: l) with
  | false => rfl
  | true => exact absurd (hp i x (has_head h)) hx
omit hb in
theorem no_rep (i : Nat) : isRep b i = false := by
  unfold isRep
  cases h : b[i]? with
  | none => rfl
  | some c =>
    obtain ⟨_, _, h1, _, _, h2, h3, h4, _⟩ := hp i c h
    exact decide_eq_false fun e => by rcases e with e | e | e | e <;> contradiction
theorem ere_run : ∀ (d i m : Nat), i + d = b.length → d + 3 ≤ m → go9 b m (.brl false (ints i) 0 (stP b i)) = some (brE (ints b.length) 0 (stP b b.length)) := by
  intro d
  induction d with
  | zero =>
    intro i m hi hm
    obtain rfl : i = b.length := by omega
    obtain ⟨m, rfl⟩ : ∃ k, m = k + 1 := ⟨m - 1, by omega⟩
    unfold go9
    rw [if_neg (fun e => by have := (moreB_iff.1 e).2.1; exact absurd this (Nat.lt_irrefl _))]
  | succ d ih =>
    intro i m hi hm
    obtain ⟨m, rfl⟩ : ∃ k, m = k + 3 := ⟨m - 3, by omega⟩
    have hlt : i < b.length := by omega
    obtain ⟨c, hc⟩ : ∃ c, b[i]? = some c := ⟨_, List.getElem?_eq_getElem hlt⟩
    have hc' : b[(stP b i).p]? = some c := hc
    obtain ⟨n92, n91, n42, n36, n94, n43, n63, n123, n40, n41, n124⟩ := hp i c hc
    have hput := stP_put hc hb
    have hleaf : leaf9 b (stP b i) c = ((i : Int), 0, stP b (i + 1)) := by
      unfold leaf9
      rw [if_neg n92, if_neg n91]
      have : okE (putS (nodeOf c) (adv (stP b i) 1)) = ((i : Int), 0, stP b (i + 1)) := by rw [hput]; exact okE_yes (Int.natCast_nonneg _)
      unfold nodeOf at this
      by_cases h46 : c = 46
      · rw [if_pos h46] at this ⊢; exact this
      · rw [if_neg h46] at this ⊢; exact this
    have hatom : go9 b (m + 1) (.atom (stP b i)) = some ((i : Int), 0, stP b (i + 1)) := by
      unfold go9
      rw [hc']
      dsimp only
      rw [if_neg (fun e => by rcases e with e | e | e | e <;> contradiction), if_neg n41, if_neg n40, hleaf]
    have hpiece : go9 b (m + 2) (.piece (stP b i)) = some ((i : Int), 0, stP b (i + 1)) := by
      unfold go9
      rw [hc']
      dsimp only
      rw [if_neg n94, if_neg n36, hatom]
      show some (reps9 b (b.length + 1) (i : Int) 0 (stP b (i + 1))) = _
      unfold reps9
      rw [if_neg (fun e => by have e2 : isRep b (i + 1) = true := e.2; rw [no_rep hp] at e2; cases e2)]
    unfold go9
    rw [if_pos (moreB_iff.2 ⟨rfl, hlt, fun e => by rw [hc'] at e; injection e with e; exact n124 e, fun e => by cases e.1⟩), hpiece]
    show go9 b (m + 2) (.brl false (ints i ++ [(i : Int)]) 0 (stP b (i + 1))) = _
    rw [← ints_succ']
    exact ih (i + 1) (m + 2) (by omega) (by omega)
theorem bre_run : ∀ (d i m : Nat) (f : Bool), i + d = b.length → d + 3 ≤ m → go b m (.loop false (ints i) f (stP b i)) = some (branchE b false (ints b.length) (stP b b.length)) := by
  intro d
  induction d with
  | zero =>
    intro i m f hi hm
    obtain rfl : i = b.length := by omega
    obtain ⟨m, rfl⟩ : ∃ k, m = k + 1 := ⟨m - 1, by omega⟩
    unfold go
    rw [if_neg (fun e => absurd e.1 (Nat.lt_irrefl _))]
  | succ d ih =>
    intro i m f hi hm
    obtain ⟨m, rfl⟩ : ∃ k, m = k + 3 := ⟨m - 3, by omega⟩
    have hlt : i < b.length := by omega
    obtain ⟨c, hc⟩ : ∃ c, b[i]? = some c := ⟨_, List.getElem?_eq_getElem hlt⟩
    have hc' : b[(stP b i).p]? = some c := hc
    obtain ⟨n92, n91, n42, n36, n94, n43, n63, n123, n40, n41, n124⟩ := hp i c hc
    have tn : ∀ (x : UInt8), c ≠ x → c.toNat ≠ x.toNat := fun x h e => h (UInt8.toNat_inj.1 e)
    have hput := stP_put hc hb
    have hno : ∀ {j : Nat} {x : UInt8} {l : List UInt8}, ¬ plainC x → hasS b j (x :: l) = false := fun hx => no_has hp hx
    have hatom : go b (m + 1) (.atom (stP b i)) = some ((i : Int), [], stP b (i + 1)) := by
      have : okR (putS (nodeOf c) (adv (stP b i) 1)) = ((i : Int), [], stP b (i + 1)) := by rw [hput]; rfl
      unfold nodeOf at this
      unfold go
      rw [hc']
      dsimp only
      rw [if_neg (show ¬ c.toNat = 92 from tn 92 n92)]
      by_cases h46 : c = 46
      · rw [if_pos h46] at this
        rw [if_pos (show c.toNat = 46 by rw [h46]; rfl), this]
      · rw [if_neg h46] at this
        rw [if_neg (show ¬ c.toNat = 46 from tn 46 h46), if_neg (show ¬ c.toNat = 91 from tn 91 n91), if_neg (fun e => tn 36 n36 e.1)]
        exact congrArg some this
    have hreps : repsR b ((i : Int), [], stP b (i + 1)) = ((i : Int), [], stP b (i + 1)) := by
      show repsF b (b.length + 1) (i : Int) [] (stP b (i + 1)) = _
      have hm : moreR b (i : Int) [] (stP b (i + 1)) = false := by
        unfold moreR
        rw [hno (fun h => h.2.2.1 rfl), hno (fun h => h.1 rfl)]; simp
      unfold repsF
      rw [hm, if_neg (by decide)]
      unfold endRp
      rw [decide_eq_false (by omega)]; rfl
    have hpiece : go b (m + 2) (.piece f (stP b i)) = some ((i : Int), [], stP b (i + 1)) := by
      unfold go
      rw [if_neg (fun e => by rw [hno (fun h => h.1 rfl)] at e; cases e.2), if_neg (fun e => by rw [hno (fun h => h.2.2.1 rfl)] at e; cases e.2), hatom]
      show some (repsR b ((i : Int), [], stP b (i + 1))) = _
      rw [hreps]
    unfold go
    rw [if_pos ⟨hlt, hno (fun h => h.1 rfl)⟩, hpiece]
    show go b (m + 2) (.loop false (ints i ++ [(i : Int)]) false (stP b (i + 1))) = _
    rw [← ints_succ']
    exact ih (i + 1) (m + 2) false (by omega) (by omega)
theorem plain_both : ∃ z : RE, ere_Parse_R b z ∧ bre_Parse_R b z ∧ z.2.2 = 0 ∧ z.1.1.length ≤ 1000 := by
  have e0 : stP b 0 = pz0 := rfl
  have hB : go b 1000 (.branch false pz0) = some (branchE b false (ints b.length) (stP b b.length)) := by
    show (if hasS b pz0.p [94] = true then _ else go b 999 (.loop false [] true pz0)) = _
    rw [if_neg (fun e => by rw [no_has hp (fun h => h.2.2.2.2.1 rfl)] at e; cases e)]
    exact bre_run hb hp b.length 0 999 true (by omega) (by omega)
  have hBp := parseB_ok b (by omega) 1000 (by omega) _ hB
  have hbE : ∀ {k : Int} {s : Pz}, catS (ints b.length) (stP b b.length) = (k, s) → 0 ≤ k → finB (branchE b false (ints b.length) (stP b b.length)) = ((s.L, (s.g : Int)), 0, 0) := fun {k s} h hk => by
    unfold branchE
    rw [h, if_neg (by show ¬ (false == decide (((b.length : Nat) : Int) = (b.length : Int))) = true; rw [decide_eq_true rfl]; decide), if_neg (by show ¬ k < 0; omega)]
    rfl
  by_cases h0 : b = []
  · subst h0
    refine ⟨_, parse9_nil, ?_, rfl, by decide⟩
    rw [hbE (k := 0) (s := { pz0 with L := [(0, 0, 0, 0, 0, 0, setZ)] }) rfl (by decide)] at hBp
    exact hBp
  · have hn : 0 < b.length := List.length_pos_iff.2 h0
    have hne : ints b.length ≠ [] := fun e => by have := ints_len' b.length; rw [e] at this; simp at this; omega
    have hl := stP_len (b := b) (i := b.length) (Nat.le_refl _)
    have hs := cat_succ (l := ints b.length) (s := stP b b.length) hne (fun y hy => by have := ints_mem' hy; rw [hl]; exact this) (by rw [hl, ints_len']; omega)
    obtain ⟨k, s, hks⟩ : ∃ k s, catS (ints b.length) (stP b b.length) = (k, s) := ⟨_, _, rfl⟩
    rw [hks] at hs
    have hs : 0 ≤ k := hs
    rw [hbE hks hs] at hBp
    have hbr : go9 b 998 (.branch false pz0) = some (k, 0, s) := by
      show go9 b 997 (.brl false [] 0 pz0) = _
      have : go9 b 997 (.brl false [] 0 pz0) = _ := ere_run hb hp b.length 0 997 (by omega) (by omega)
      rw [this]
      unfold brE
      rw [if_neg (show ¬ ((0 : Int) ≠ 0) from fun h => h rfl), if_neg hne, hks]
      exact congrArg some (okE_yes hs)
    have hk : 0 ≤ k ∧ k < (s.L.length : Int) := by
      obtain ⟨g1, g2⟩ := go9_gr b 998 _ _ hbr rfl [] 0 (gr_refl [] 0 (by simp))
      exact gr_in g2 (by simp)
    have hsp : s.p = b.length := by
      have := (cat_st (ints b.length) (stP b b.length)).1
      rw [hks] at this; exact this
    have hA : go9 b 999 (.alts false pz0) = some (k, 0, s) := by
      show (go9 b 998 (.branch false pz0)).bind _ = _
      rw [hbr]
      show (if (0 : Int) = 0 ∧ b[s.p]? = some 124 then _ else some (altE b false [k] 0 s)) = _
      rw [if_neg (fun e => by rw [hsp, List.getElem?_eq_none (Nat.le_refl _)] at e; cases e.2)]
      unfold altE
      rw [if_neg (show ¬ ((0 : Int) ≠ 0) from fun h => h rfl), if_neg (fun e => by cases e.1), alt_cons, if_neg (by omega)]
      exact congrArg some (okE_yes hk.1)
    have hAp := parse9_ok b (by omega) h0 999 _ hA
    have : fin9 (k, 0, s) = ((s.L, (s.g : Int)), 0, 0) := by unfold fin9; rw [if_neg (fun h => h rfl)]
    rw [this] at hAp
    exact ⟨_, hAp, hBp, rfl, (fin9_right hA rfl).2.2.2⟩
end
theorem same_rfl (l : List ND) (g : Int) (h : l.length ≤ 1000000) : palinoderef06_Same_R (l, g) (l, g) true := by
  have := refsame_ok l l g g h
  simpa using this
theorem erePlain_law (b : List UInt8) : palinodelaw09_ErePlain_R b true := by
  refine split_ (fun _ => ⟨true, eqawake, rfl⟩) fun h => ?_
  have hb : b.length ≤ 80 := by omega
  refine loop_ (fun (st : Int) m => ∃ i : Nat, i ≤ b.length ∧ m = b.length - i ∧ st = (i : Int) ∧ ∀ (j : Nat) (d : UInt8), j < i → b[j]? = some d → plainC d) b.length ⟨0, Nat.zero_le _, rfl, rfl, fun j d hj => by omega⟩ ?_
  rintro _ m ⟨i, hi, rfl, rfl, hno⟩
  refine split_ (fun hlt => ?_) fun hge => ?_
  · have hlt : i < b.length := by omega
    obtain ⟨d, hd⟩ : ∃ d, b[i]? = some d := ⟨_, List.getElem?_eq_getElem hlt⟩
    refine ⟨by omega, d, by rw [Int.toNat_natCast]; exact hd, ?_⟩
    have out : ∀ z : Bool, (z = false → plainC d) → palinodelaw09_ErePlain_j2 (i : Int) (fun s' => ∃ m', m' < b.length - i ∧ ∃ i : Nat, i ≤ b.length ∧ m' = b.length - i ∧ s' = (i : Int) ∧ ∀ (j : Nat) (d : UInt8), j < i → b[j]? = some d → plainC d) z true := fun z hz => split_ (fun _ => ⟨true, eqawake, rfl⟩) fun h => inR_ (by omega) ⟨b.length - (i + 1), by omega, i + 1, hlt, rfl, by omega, fun j x hj hx => by
      rcases (by omega : j < i ∨ j = i) with h2 | h2
      · exact hno j x h2 hx
      · rw [h2, hd] at hx
        injection hx with hx
        subst hx
        exact hz (by simpa using h)⟩
    refine out _ fun hz => ?_
    simp only [Bool.or_eq_false_iff, decide_eq_false_iff_not] at hz
    obtain ⟨z1, z2, z3, z4, z5, z6, z7, z8, z9, z10, z11⟩ := hz
    exact ⟨fun e => z1 (by rw [e]; rfl), fun e => z2 (by rw [e]; rfl), fun e => z3 (by rw [e]; rfl), fun e => z4 (by rw [e]; rfl), fun e => z5 (by rw [e]; rfl), fun e => z6 (by rw [e]; rfl), fun e => z7 (by rw [e]; rfl), fun e => z8 (by rw [e]; rfl), fun e => z9 (by rw [e]; rfl), fun e => z10 (by rw [e]; rfl), fun e => z11 (by rw [e]; rfl)⟩
  · have hge : ¬ (i : Int) < (b.length : Int) := hge
    obtain ⟨z, p1, p2, p3, p4⟩ := plain_both hb (fun j d hd => hno j d (by have := (List.getElem?_eq_some_iff.1 hd).1; omega) hd)
    exact ⟨z, p1, z, p2, true, same_rfl _ _ (Nat.le_trans p4 (by decide)), split_ (fun _ => split_ (fun _ => split_ (fun _ => split_ (fun _ => ⟨true, eqawake, rfl⟩) fun h => absurd p3 h) fun h => absurd p3 h) fun h => absurd rfl h) fun h => absurd rfl h⟩
end Go.Proofs.Ytfhakeapepafbaa
