/- The document's reader of a bracket expression reads what the program's does. -/
import Derived.Test.YtfhakeapepafbaaRkA
namespace Go.Proofs.Ytfhakeapepafbaa
theorem arr_step (n g : Nat → Bool) (c : Nat) (v : Bool) (hv : v = n c) : arrF (fun d => if d = c then v else if d < c then n d else g d) = arrF (fun d => if d < c + 1 then n d else g d) := arrF_ext fun d _ => by
  subst hv
  by_cases h1 : d = c
  · subst h1; rw [if_pos rfl, if_pos (by omega)]
  · rw [if_neg h1]
    by_cases h2 : d < c
    · rw [if_pos h2, if_pos (by omega)]
    · rw [if_neg h2, if_neg (by omega)]
theorem arr_all (n g : Nat → Bool) (c : Nat) (hc : 256 ≤ c) : arrF (fun d => if d < c then n d else g d) = arrF n := arrF_ext fun d hd => by rw [if_pos (by omega)]
theorem arr_none (n g : Nat → Bool) : arrF (fun d => if d < 0 then n d else g d) = arrF g := arrF_ext fun d hd => by rw [if_neg (by omega)]
/-- An item's bytes are put to the rest. -/
theorem rput_ok (C : Int) (h : Nat → Bool) (cl : Bool) (nx e : Int) (k : Int) (hk : 0 ≤ k ∧ k ≤ 100000) (g : Nat → Bool) (ag3 : Int × Int × A256 → Prop) (r : SetT × Int × Int)
    (hag : ag3 (nx, k + 1, arrF (fun d => g d || ((cl && h d) || (!cl && decide ((d : Int) = C)))))) : LoopR (fun ag8 s => palinoderef07_Parse_l8 (C, arrF h, cl, nx, e) k ag3 ag8 s.1 s.2 r) (0, arrF g) := by
  refine loop_ (fun st m => ∃ c : Nat, c ≤ 256 ∧ m = 256 - c ∧ st = ((c : Int), arrF (fun d => if d < c then (g d || ((cl && h d) || (!cl && decide ((d : Int) = C)))) else g d))) _ ⟨0, by omega, rfl, Prod.ext rfl (arr_none _ _).symm⟩ ?_
  rintro _ m ⟨c, hc, rfl, rfl⟩
  show palinoderef07_Parse_l8 _ _ _ _ (c : Int) _ _
  refine split_ (fun hlt => ?_) fun hlt => ?_
  · have hA : ∀ {f : Nat → Bool}, (arrF f).l[(c : Int).toNat]? = some (f c) := fun {f} => by rw [Int.toNat_natCast]; exact arrF_at _ (by omega)
    have hin : (0 : Int) ≤ (c : Int) ∧ (c : Int) < 256 := ⟨by omega, by omega⟩
    have hg : (if c < c then (g c || ((cl && h c) || (!cl && decide ((c : Int) = C)))) else g c) = g c := if_neg (by omega)
    have next : ∀ v : Bool, v = (g c || ((cl && h c) || (!cl && decide ((c : Int) = C)))) → palinoderef07_Parse_j9 (c : Int) (fun s' => ∃ m', m' < 256 - c ∧ ∃ c : Nat, c ≤ 256 ∧ m' = 256 - c ∧ s' = ((c : Int), arrF (fun d => if d < c then (g d || ((cl && h d) || (!cl && decide ((d : Int) = C)))) else g d)))
        (Arr.set (arrF (fun d => if d < c then (g d || ((cl && h d) || (!cl && decide ((d : Int) = C)))) else g d)) (c : Int).toNat v) r := fun v hv => by
      refine inR_ (by omega) ⟨256 - (c + 1), by omega, c + 1, by omega, rfl, Prod.ext (by simp) ?_⟩
      show Arr.set _ _ _ = _
      rw [Int.toNat_natCast, arrF_set]
      exact arr_step (fun d => g d || ((cl && h d) || (!cl && decide ((d : Int) = C)))) g c v hv
    refine ⟨hin, _, hA, ?_⟩
    rw [hg]
    refine split_ (fun h1 => ⟨hin, _, hA, next true (by rw [h1]; rfl)⟩) fun h1 => ?_
    have h1 := Bool.eq_false_iff.2 h1
    have last : ∀ b : Bool, b = cl → (b = true → h c = false) → ((¬ (b = true) → (0 ≤ (c : Int) ∧ (c : Int) < 256) ∧ ∃ y9068 : Bool, (arrF (fun d => if d < c then (g d || ((cl && h d) || (!cl && decide ((d : Int) = C)))) else g d)).l[(c : Int).toNat]? = some y9068 ∧ palinoderef07_Parse_j9 (c : Int) (fun s' => ∃ m', m' < 256 - c ∧ ∃ c : Nat, c ≤ 256 ∧ m' = 256 - c ∧ s' = ((c : Int), arrF (fun d => if d < c then (g d || ((cl && h d) || (!cl && decide ((d : Int) = C)))) else g d))) (Arr.set (arrF (fun d => if d < c then (g d || ((cl && h d) || (!cl && decide ((d : Int) = C)))) else g d)) (c : Int).toNat ((decide ((c : Int) = C)))) r) ∧ (¬ (¬ (b = true)) → (0 ≤ (c : Int) ∧ (c : Int) < 256) ∧ ∃ y9070 : Bool, (arrF (fun d => if d < c then (g d || ((cl && h d) || (!cl && decide ((d : Int) = C)))) else g d)).l[(c : Int).toNat]? = some y9070 ∧ palinoderef07_Parse_j9 (c : Int) (fun s' => ∃ m', m' < 256 - c ∧ ∃ c : Nat, c ≤ 256 ∧ m' = 256 - c ∧ s' = ((c : Int), arrF (fun d => if d < c then (g d || ((cl && h d) || (!cl && decide ((d : Int) = C)))) else g d))) (Arr.set (arrF (fun d => if d < c then (g d || ((cl && h d) || (!cl && decide ((d : Int) = C)))) else g d)) (c : Int).toNat false) r)) := fun b hb hh => by
      subst hb
      refine split_ (fun h2 => ⟨hin, _, hA, next _ ?_⟩) fun h2 => ⟨hin, _, hA, next _ ?_⟩
      · rw [h1, Bool.eq_false_iff.2 h2]; simp
      · rw [h1, Decidable.not_not.1 h2, hh (Decidable.not_not.1 h2)]; rfl
    refine split_ (fun h2 => ⟨hin, _, hA, split_ (fun h3 => ⟨hin, _, hA, next true ?_⟩) fun h3 => last cl rfl fun _ => Bool.eq_false_iff.2 h3⟩) fun h2 => last cl rfl fun e => absurd e h2
    have h2 : cl = true := h2
    rw [h2, h3]; simp
  · have : c = 256 := by omega
    subst this
    rw [arr_all _ _ _ (Nat.le_refl _)]
    exact inR_ (by omega) hag
/-- A range's bytes are put to the rest. -/
theorem rrange_ok (x y : Nat) (hx : x ≤ y) (hy : y < 256) (h : A256) (cl : Bool) (nx e : Int) (k : Int) (hk : 0 ≤ k ∧ k ≤ 100000) (g : Nat → Bool) (ag3 : Int × Int × A256 → Prop) (r : SetT × Int × Int)
    (hag : ag3 (nx, k + 1, arrF (fun d => g d || decide (x ≤ d ∧ d ≤ y)))) : LoopR (fun ag11 s => palinoderef07_Parse_l11 ((y : Int), h, cl, nx, e) k ag3 ag11 s.1 s.2 r) ((x : Int), arrF g) := by
  refine loop_ (fun st m => ∃ c : Nat, x ≤ c ∧ c ≤ y + 1 ∧ m = 257 - c ∧ st = ((c : Int), arrF (fun d => g d || decide (x ≤ d ∧ d < c)))) _ ⟨x, by omega, by omega, rfl, Prod.ext rfl (arrF_ext fun d _ => by rw [decide_eq_false (by omega)]; simp)⟩ ?_
  rintro _ m ⟨c, hc1, hc2, rfl, rfl⟩
  show palinoderef07_Parse_l11 _ _ _ _ (c : Int) _ _
  refine split_ (fun hlt => ?_) fun hlt => ?_
  · have hlt : (c : Int) ≤ (y : Int) := hlt
    refine ⟨⟨by omega, by omega⟩, _, by rw [Int.toNat_natCast]; exact arrF_at _ (by omega), inR_ (by omega) ⟨257 - (c + 1), by omega, c + 1, by omega, by omega, rfl, Prod.ext (by simp) ?_⟩⟩
    show Arr.set _ _ _ = _
    rw [Int.toNat_natCast, arrF_set]
    refine arrF_ext fun d hd => ?_
    by_cases h1 : d = c
    · subst h1; rw [if_pos rfl, decide_eq_true (p := x ≤ d ∧ d < d + 1) ⟨hc1, by omega⟩]; simp
    · rw [if_neg h1, show decide (x ≤ d ∧ d < c + 1) = decide (x ≤ d ∧ d < c) by rw [decide_eq_decide]; omega]
  · have hlt : ¬ (c : Int) ≤ (y : Int) := hlt
    refine inR_ (by omega) ?_
    have : arrF (fun d => g d || decide (x ≤ d ∧ d < c)) = arrF (fun d => g d || decide (x ≤ d ∧ d ≤ y)) := arrF_ext fun d _ => by rw [show decide (x ≤ d ∧ d < c) = decide (x ≤ d ∧ d ≤ y) by rw [decide_eq_decide]; omega]
    rw [this]; exact hag
/-- The whole, turned round if it begins with a ^ . -/
theorem rnot_ok (y24 : Int) (f : SetT) (i : Nat) (hi : i ≤ 100000) : LoopR (fun ag5 s => palinoderef07_Parse_l5 y24 (i : Int) ag5 s.1 s.2 (if decide (y24 = 94) = true then notS f else f, ((i + 1 : Nat) : Int), 0)) (0, arrF (memS f)) := by
  refine loop_ (fun st m => ∃ c : Nat, c ≤ 256 ∧ m = 256 - c ∧ st = ((c : Int), arrF (fun d => if d < c then !(memS f d == decide (y24 = 94)) else memS f d))) _ ⟨0, by omega, rfl, Prod.ext rfl (arr_none _ _).symm⟩ ?_
  rintro _ m ⟨c, hc, rfl, rfl⟩
  show palinoderef07_Parse_l5 _ _ _ (c : Int) _ _
  refine split_ (fun hlt => ?_) fun hlt => ?_
  · have hA : ∀ {f : Nat → Bool}, (arrF f).l[(c : Int).toNat]? = some (f c) := fun {f} => by rw [Int.toNat_natCast]; exact arrF_at _ (by omega)
    refine ⟨⟨by omega, by omega⟩, _, hA, ⟨by omega, by omega⟩, _, hA, inR_ (by omega) ⟨256 - (c + 1), by omega, c + 1, by omega, rfl, Prod.ext (by simp) ?_⟩⟩
    show Arr.set _ _ _ = _
    rw [Int.toNat_natCast, arrF_set]
    refine arr_step (fun d => !(memS f d == decide (y24 = 94))) (memS f) c _ ?_
    rw [if_neg (by omega)]
  · have : c = 256 := by omega
    subst this
    rw [arr_all _ _ _ (Nat.le_refl _)]
    refine ⟨_, rof_ok _, inR_ (by omega) ?_⟩
    refine Prod.ext ?_ (Prod.ext (by simp) rfl)
    show (if decide (y24 = 94) = true then notS f else f) = pset (bitP (arrF fun d => !(memS f d == decide (y24 = 94)))) 256
    symm
    refine is_pset fun d hd => ?_
    have hb : bitP (arrF fun d => !(memS f d == decide (y24 = 94))) d = !(memS f d == decide (y24 = 94)) := by
      unfold bitP
      rw [List.getD_eq_getElem?_getD, arrF_at _ hd]; rfl
    rw [hb]
    by_cases h9 : y24 = 94
    · rw [decide_eq_true h9, if_pos rfl, mem_not _ _ hd]; cases memS f d <;> rfl
    · rw [decide_eq_false h9, if_neg (by decide)]; cases memS f d <;> rfl
theorem isD_at (b : List UInt8) (q : Nat) : isD (b.drop q) = (decide (atB b q = 45) && decide (atB b (q + 1) ≠ 93)) := by
  unfold atB
  cases h : b[q]? with
  | none => rw [List.drop_eq_nil_of_le (List.getElem?_eq_none_iff.1 h)]; rfl
  | some c =>
    rw [drop_at h]
    show (decide (c.toNat = 45) && _) = (decide ((c.toNat : Int) = 45) && _)
    rw [show decide ((c.toNat : Int) = 45) = decide (c.toNat = 45) by rw [decide_eq_decide]; omega]
    congr 1
    cases h2 : b[q + 1]? with
    | none => rw [List.drop_eq_nil_of_le (List.getElem?_eq_none_iff.1 h2)]; rfl
    | some d =>
      rw [drop_at h2]
      show decide (d.toNat ≠ 93) = decide ((d.toNat : Int) ≠ 93)
      rw [decide_eq_decide]; omega
theorem un2 (f u : SetT) (d : Nat) (hd : d < 256) : memS (unS [f, u]) d = (memS f d || memS u d) := by rw [mem_un _ _ hd]; simp
theorem rloop_ok (b : List UInt8) (y24 : Int) (a0 : Nat) (hb : b.length ≤ 1000) (h0 : a0 ≤ b.length) : LoopR (fun ag3 s => palinoderef07_Parse_l3 b y24 ag3 s.1 s.2.1 s.2.2 (endR (decide (y24 = 94)) a0 (loopT ((b.drop a0).length + 1) true (b.drop a0) z4 0))) ((a0 : Int), 0, Arr.rep 256 false) := by
  refine loop_ (fun (st : Int × Int × A256) m => ∃ (n l k : Nat) (f : SetT), m = n ∧ a0 + l ≤ b.length ∧ b.length - (a0 + l) < n ∧ k + n ≤ 5000 ∧ st = (((a0 + l : Nat) : Int), (k : Int), arrF (memS f)) ∧ loopT n (decide (k = 0)) (b.drop (a0 + l)) f l = loopT ((b.drop a0).length + 1) true (b.drop a0) z4 0) ((b.drop a0).length + 1) ⟨(b.drop a0).length + 1, 0, 0, z4, rfl, by omega, by rw [List.length_drop]; omega, by rw [List.length_drop]; omega, Prod.ext rfl (Prod.ext rfl arrZ.symm), rfl⟩ ?_
  rintro _ n ⟨_, l, k, f, rfl, hl, hn, hkn, rfl, hr⟩
  show palinoderef07_Parse_l3 b y24 _ ((a0 + l : Nat) : Int) (k : Int) (arrF (memS f)) _
  obtain ⟨n, rfl⟩ : ∃ j, n = j + 1 := ⟨n - 1, by omega⟩
  generalize hW : loopT ((b.drop a0).length + 1) true (b.drop a0) z4 0 = W at hr ⊢
  rw [loopT_succ] at hr
  have hj4 : ¬ (decide (k = 0) = false ∧ hd93 (b.drop (a0 + l)) = true) → palinoderef07_Parse_j4 b ((a0 + l : Nat) : Int) (k : Int) (fun s' => ∃ m', m' < n + 1 ∧ ∃ (n l k : Nat) (f : SetT), m' = n ∧ a0 + l ≤ b.length ∧ b.length - (a0 + l) < n ∧ k + n ≤ 5000 ∧ s' = (((a0 + l : Nat) : Int), (k : Int), arrF (memS f)) ∧ loopT n (decide (k = 0)) (b.drop (a0 + l)) f l = W) (arrF (memS f)) (endR (decide (y24 = 94)) a0 W) := fun h => by
    rw [if_neg h] at hr
    unfold partT at hr
    refine ⟨_, rread_ok b (a0 + l) hb, ?_⟩
    cases hx : readT (b.drop (a0 + l)) with
    | error e =>
      rw [hx] at hr
      rw [← hr]
      exact split_ (fun _ => rfl) fun h => absurd (readT_err hx) h
    | ok x =>
      rw [hx] at hr
      dsimp only at hr
      have hlen := readT_len hx
      rw [List.length_drop] at hlen
      have hnx : ((a0 + l + x.2.2.2 : Nat) : Int) + 1 = ((a0 + l + x.2.2.2 + 1 : Nat) : Int) := by omega
      have hD := isD_at b (a0 + l + x.2.2.2)
      refine split_ (fun h => absurd rfl h) fun _ => ⟨_, rat_ok b (a0 + l + x.2.2.2), ?_⟩
      unfold partC at hr
      rw [List.drop_drop] at hr
      have hplain : isD (b.drop (a0 + l + x.2.2.2)) = false → palinoderef07_Parse_j7 (rk (a0 + l) (.ok x)) (k : Int) (fun s' => ∃ m', m' < n + 1 ∧ ∃ (n l k : Nat) (f : SetT), m' = n ∧ a0 + l ≤ b.length ∧ b.length - (a0 + l) < n ∧ k + n ≤ 5000 ∧ s' = (((a0 + l : Nat) : Int), (k : Int), arrF (memS f)) ∧ loopT n (decide (k = 0)) (b.drop (a0 + l)) f l = W) (arrF (memS f)) b true (endR (decide (y24 = 94)) a0 W) := fun hd => by
        rw [if_pos hd] at hr
        refine split_ (fun _ => ?_) fun h => absurd rfl h
        refine rput_ok _ (memS x.2.1) x.2.2.1 _ _ _ ⟨by omega, by omega⟩ (memS f) _ _ ?_
        refine ⟨n, by omega, n, l + x.2.2.2, k + 1, unS [f, if x.2.2.1 = true then x.2.1 else ofS [x.1]], rfl, by omega, by omega, by omega, ?_, ?_⟩
        · refine Prod.ext ?_ (Prod.ext (by simp) (arrF_ext fun d hd => ?_))
          · show ((a0 + l + x.2.2.2 : Nat) : Int) = ((a0 + (l + x.2.2.2) : Nat) : Int)
            omega
          · rw [un2 _ _ d hd]
            cases hc : x.2.2.1 with
            | true => simp
            | false =>
              simp only [Bool.false_eq_true, if_false, Bool.false_and, Bool.false_or, Bool.not_false, Bool.true_and]
              rw [mem_of _ _ hd]
              simp only [List.any_cons, List.any_nil, Bool.or_false]
              congr 1
              rw [decide_eq_decide]; omega
        · rw [show decide (k + 1 = 0) = false from decide_eq_false (by omega), ← Nat.add_assoc]
          rw [← hr]
          cases hc : x.2.2.1 with
          | true => simp [List.drop_drop]
          | false => simp [List.drop_drop]
      refine split_ (fun h1 => hplain ?_) fun h1 => inR_ (by show -9223372036854775808 ≤ ((a0 + l + x.2.2.2 : Nat) : Int) + 1 ∧ ((a0 + l + x.2.2.2 : Nat) : Int) + 1 ≤ _; omega) ⟨_, rat_ok' b (a0 + l + x.2.2.2 + 1) hnx, ?_⟩
      · rw [hD, decide_eq_false h1]; rfl
      have h1 := Decidable.not_not.1 h1
      by_cases h2 : atB b (a0 + l + x.2.2.2 + 1) = 93
      · rw [decide_eq_true h2]
        exact hplain (by rw [hD, decide_eq_false (p := _ ≠ _) (by simpa using h2), Bool.and_false])
      · rw [decide_eq_false h2]
        have hd : isD (b.drop (a0 + l + x.2.2.2)) = true := by rw [hD, decide_eq_true h1, decide_eq_true h2]; rfl
        rw [if_neg (by rw [hd]; decide)] at hr
        refine split_ (fun h => by cases h) fun _ => split_ (fun h3 => ?_) fun h3 => inR_ (by show -9223372036854775808 ≤ ((a0 + l + x.2.2.2 : Nat) : Int) + 1 ∧ ((a0 + l + x.2.2.2 : Nat) : Int) + 1 ≤ _; omega) ?_
        · have h3 : x.2.2.1 = true := h3
          rw [if_pos h3] at hr
          rw [← hr]; rfl
        · have h3 : ¬ x.2.2.1 = true := h3
          rw [if_neg h3, List.drop_drop, show a0 + l + (x.2.2.2 + 1) = a0 + l + x.2.2.2 + 1 by omega] at hr
          refine ⟨rk (a0 + l + x.2.2.2 + 1) (readT (b.drop (a0 + l + x.2.2.2 + 1))), by rw [show (rk (a0 + l) (.ok x)).2.2.2.1 + 1 = ((a0 + l + x.2.2.2 + 1 : Nat) : Int) from hnx]; exact rread_ok b _ hb, ?_⟩
          cases hy : readT (b.drop (a0 + l + x.2.2.2 + 1)) with
          | error e =>
            rw [hy] at hr
            rw [← hr]
            exact split_ (fun _ => rfl) fun h => absurd (readT_err hy) h
          | ok y =>
            rw [hy] at hr
            dsimp only at hr
            have hlen2 := readT_len hy
            rw [List.length_drop] at hlen2
            have hy8 := y.1.toNat_lt
            refine split_ (fun h => absurd rfl h) fun _ => split_ (fun h4 => ?_) fun h4 => ?_
            · have h4 : (y.2.2.1 || decide ((y.1.toNat : Int) < (x.1.toNat : Int))) = true := h4
              simp only [Bool.or_eq_true, decide_eq_true_eq] at h4
              rw [if_pos (by rcases h4 with h4 | h4; exact .inl h4; exact .inr (by omega))] at hr
              rw [← hr]; rfl
            · have h4 : ¬ (y.2.2.1 || decide ((y.1.toNat : Int) < (x.1.toNat : Int))) = true := h4
              simp only [Bool.or_eq_true, decide_eq_true_eq] at h4
              rw [if_neg (fun e => h4 (by rcases e with e | e; exact .inl e; exact .inr (by omega)))] at hr
              refine rrange_ok x.1.toNat y.1.toNat (by omega) hy8 _ _ _ _ _ ⟨by omega, by omega⟩ (memS f) _ _ ?_
              refine ⟨n, by omega, n, l + (x.2.2.2 + 1 + y.2.2.2), k + 1, unS [f, rngS x.1 y.1], rfl, by omega, by omega, by omega, ?_, ?_⟩
              · refine Prod.ext ?_ (Prod.ext (by simp) (arrF_ext fun d hd => ?_))
                · show ((a0 + l + x.2.2.2 + 1 + y.2.2.2 : Nat) : Int) = ((a0 + (l + (x.2.2.2 + 1 + y.2.2.2)) : Nat) : Int)
                  omega
                · rw [un2 _ _ d hd, mem_pset _ _ _ (by omega) hd, decide_eq_true (show d < 256 from hd), Bool.true_and]
              · rw [show decide (k + 1 = 0) = false from decide_eq_false (by omega), ← hr, ← Nat.add_assoc]
                simp only [List.drop_drop]
  have hh93 : hd93 (b.drop (a0 + l)) = true ↔ atB b (a0 + l) = 93 := by
    unfold atB
    cases hc : b[a0 + l]? with
    | none =>
      rw [List.drop_eq_nil_of_le (List.getElem?_eq_none_iff.1 hc)]
      exact ⟨fun e => (by cases e), fun e => absurd e (by show ¬ (-1 : Int) = 93; decide)⟩
    | some c =>
      rw [drop_at hc]
      show decide (c.toNat = 93) = true ↔ (c.toNat : Int) = 93
      rw [decide_eq_true_eq]; omega
  refine split_ (fun h1 => hj4 fun h => ?_) fun h1 => ⟨_, rat_ok b (a0 + l), split_ (fun h2 => hj4 fun h => h2 (hh93.1 h.2)) fun h2 => ?_⟩
  · have := of_decide_eq_false h.1; omega
  · rw [if_pos ⟨decide_eq_false (by omega), hh93.2 (Decidable.not_not.1 h2)⟩] at hr
    rw [← hr]
    exact rnot_ok y24 f (a0 + l) (by omega)
theorem rparse_ok (b : List UInt8) (p : Nat) (hb : b.length ≤ 1000) (hp : p ≤ b.length) : palinoderef07_Parse_R b (p : Int) (parseR b p) := by
  have h94 : isNot (b.drop p) = decide (atB b p = 94) := by
    unfold atB
    cases hc : b[p]? with
    | none => rw [List.drop_eq_nil_of_le (List.getElem?_eq_none_iff.1 hc)]; rfl
    | some c =>
      rw [drop_at hc]
      show decide (c.toNat = 94) = decide ((c.toNat : Int) = 94)
      rw [decide_eq_decide]; omega
  show palinoderef07_Parse_j1 b (p : Int) _ _
  rw [show ((decide ((p : Int) < 0)) || (decide ((b.length : Int) < (p : Int)))) = false from by
    rw [Bool.or_eq_false_iff, decide_eq_false_iff_not, decide_eq_false_iff_not]; omega]
  unfold parseR
  rw [h94]
  refine split_ (fun h => by cases h) fun _ => ⟨_, rat_ok b p, split_ (fun h => inR_ (by omega) ?_) fun h => ?_⟩
  · rw [if_pos (decide_eq_true h)]
    have hl : p + 1 ≤ b.length := by
      rcases Nat.lt_or_ge p b.length with h1 | h1
      · exact h1
      · unfold atB at h
        rw [List.getElem?_eq_none h1] at h
        exact absurd h (by show ¬ (-1 : Int) = 94; decide)
    have := rloop_ok b (atB b p) (p + 1) hb hl
    rw [decide_eq_true h] at this
    exact this
  · rw [if_neg (by rw [decide_eq_false h]; decide)]
    have := rloop_ok b (atB b p) p hb hp
    rw [decide_eq_false h] at this
    exact this
end Go.Proofs.Ytfhakeapepafbaa
