/- The law of a repetition that is written in two ways. -/
import Derived.Test.YtfhakeapepafbaaErS
import Derived.Test.YtfhakeapepafbaaSm
import Derived.Test.YtfhakeapepafbaaGKL1
namespace Go.Proofs.Ytfhakeapepafbaa
theorem numR_app (b l : List UInt8) (k : Nat) : numR (b ++ l) (b.length + k) = if (numL 0 false (l.drop k)).2.1 = 0 then (0, 0, 9) else if (numL 0 false (l.drop k)).2.2 = true then (0, 0, 3) else ((numL 0 false (l.drop k)).1, ((b.length + k + (numL 0 false (l.drop k)).2.1 : Nat) : Int), 0) := by
  have : (b ++ l).drop (b.length + k) = l.drop k := by rw [List.drop_append, List.drop_eq_nil_of_le (by omega), List.nil_append, show b.length + k - b.length = k by omega]
  unfold numR
  rw [this]
theorem at_app (b l : List UInt8) (k : Nat) : (b ++ l)[b.length + k]? = l[k]? := by
  rw [List.getElem?_append_right (by omega), show b.length + k - b.length = k by omega]
theorem sh_open (b : List UInt8) (x c : UInt8) (lo : Int) (hc : c = 42 ∨ c = 43) (hx : numL 0 false [x, 44, 125] = (lo, 1, false)) (h0 : 0 ≤ lo ∧ lo ≤ 255) (hr : c = 42 ∧ lo = 0 ∨ c = 43 ∧ lo = 1) (hno : ∀ (i : Nat) (d : UInt8), b[i]? = some d → d ≠ 92 ∧ d ≠ 91 ∧ d ≠ 123) :
    Sh b (b ++ [c]) (b ++ [123, x, 44, 125]) c 4 lo (-1) := {
  len1 := by simp
  len2 := by simp
  w1 := by decide
  in1 := fun i hi => by rw [List.getElem?_append_left hi]
  in2 := fun i hi => by rw [List.getElem?_append_left hi]
  no := hno
  at1 := by simp
  at2 := by simp
  hc := by rcases hc with h | h <;> simp [h]
  ht := by
    unfold isTimesB
    rw [decide_eq_true h0.1, decide_eq_true h0.2]; rfl
  r1 := fun k s hp => by
    have h : (b ++ [c])[s.p]? = some c := by rw [hp]; simp
    unfold rep9
    rw [h]
    rcases hr with ⟨rfl, rfl⟩ | ⟨rfl, rfl⟩
    · rw [if_neg (by decide), if_neg (by decide), if_neg (by decide)]
      show okE (putS _ { s with p := s.p + 1 }) = _
      rw [hp]
    · rw [if_pos rfl]
      show okE (putS _ { s with p := s.p + 1 }) = _
      rw [hp]
  r2 := fun k s hp => by
    have h : (b ++ [123, x, 44, 125])[s.p]? = some 123 := by rw [hp]; simp
    have n1 : numR (b ++ [123, x, 44, 125]) (s.p + 1) = (lo, ((b.length + 2 : Nat) : Int), 0) := by
      rw [hp, numR_app]
      show (if (numL 0 false [x, 44, 125]).2.1 = 0 then _ else if (numL 0 false [x, 44, 125]).2.2 = true then _ else ((numL 0 false [x, 44, 125]).1, ((b.length + 1 + (numL 0 false [x, 44, 125]).2.1 : Nat) : Int), (0 : Int))) = _
      rw [hx]; rfl
    have n2 : numR (b ++ [123, x, 44, 125]) (b.length + 2 + 1) = (0, 0, 9) := by
      rw [show b.length + 2 + 1 = b.length + 3 from rfl, numR_app]; rfl
    have a1 : (b ++ [123, x, 44, 125])[b.length + 2]? = some 44 := by rw [at_app]; rfl
    have a2 : (b ++ [123, x, 44, 125])[b.length + 2 + 1]? = some 125 := by rw [show b.length + 2 + 1 = b.length + 3 from rfl, at_app]; rfl
    unfold rep9 intv9
    rw [h, if_neg (by decide), if_neg (by decide), if_pos rfl, n1]
    dsimp only
    rw [if_neg (by decide), Int.toNat_natCast, if_pos a1, n2]
    dsimp only
    rw [if_neg (by decide), if_pos rfl]
    unfold intvE
    rw [if_pos ⟨a2, fun e => e.1 rfl⟩] }
theorem sh_both (b : List UInt8) (hno : ∀ (i : Nat) (d : UInt8), b[i]? = some d → d ≠ 92 ∧ d ≠ 91 ∧ d ≠ 123) :
    Sh b (b ++ [63]) (b ++ [123, 48, 44, 49, 125]) 63 5 0 1 := {
  len1 := by simp
  len2 := by simp
  w1 := by decide
  in1 := fun i hi => by rw [List.getElem?_append_left hi]
  in2 := fun i hi => by rw [List.getElem?_append_left hi]
  no := hno
  at1 := by simp
  at2 := by simp
  hc := by simp
  ht := rfl
  r1 := fun k s hp => by
    have h : (b ++ [63])[s.p]? = some 63 := by rw [hp]; simp
    unfold rep9
    rw [h, if_neg (by decide), if_pos rfl]
    show okE (putS _ { s with p := s.p + 1 }) = _
    rw [hp]
  r2 := fun k s hp => by
    have h : (b ++ [123, 48, 44, 49, 125])[s.p]? = some 123 := by rw [hp]; simp
    have n1 : numR (b ++ [123, 48, 44, 49, 125]) (s.p + 1) = (0, ((b.length + 2 : Nat) : Int), 0) := by
      rw [hp, numR_app]; rfl
    have n2 : numR (b ++ [123, 48, 44, 49, 125]) (b.length + 2 + 1) = (1, ((b.length + 4 : Nat) : Int), 0) := by
      rw [show b.length + 2 + 1 = b.length + 3 from rfl, numR_app]; rfl
    have a1 : (b ++ [123, 48, 44, 49, 125])[b.length + 2]? = some 44 := by rw [at_app]; rfl
    have a2 : (b ++ [123, 48, 44, 49, 125])[b.length + 4]? = some 125 := by rw [at_app]; rfl
    unfold rep9 intv9
    rw [h, if_neg (by decide), if_neg (by decide), if_pos rfl, n1]
    dsimp only
    rw [if_neg (by decide), Int.toNat_natCast, if_pos a1, n2]
    dsimp only
    rw [if_pos rfl, Int.toNat_natCast]
    unfold intvE
    rw [if_pos ⟨a2, fun e => absurd e.2 (by decide)⟩] }
theorem same_rfl (l : List ND) (g : Int) (h : l.length ≤ 1000000) : palinoderef06_Same_R (l, g) (l, g) true := by
  have := refsame_ok l l g g h
  simpa using this
/-- Both texts are one tree, or wrong in both. -/
theorem short_two {b t1 t2 : List UInt8} {c : UInt8} {w : Nat} {lo hi : Int} (H : Sh b t1 t2 c w lo hi) (hb : b.length ≤ 40) (hw : w ≤ 10) :
    ∃ x y : RE, ere_Parse_R t1 x ∧ ere_Parse_R t2 y ∧ x.2.2 = y.2.2 ∧ x.1 = y.1 ∧ x.1.1.length ≤ 1000 ∧ (x.2.1 = y.2.1 ∨ x.2.2 = 14) := by
  have l1 := H.len1
  have l2 := H.len2
  have w1 := H.w1
  have ne1 : t1 ≠ [] := fun e => by rw [e] at l1; simp at l1
  have ne2 : t2 ≠ [] := fun e => by rw [e] at l2; simp at l2; omega
  obtain ⟨q1, h1⟩ := need_top t1 (by omega)
  obtain ⟨q2, h2⟩ := need_top t2 (by omega)
  obtain ⟨⟨r1, r2, r3, r4⟩, _⟩ := sh_go H (by omega) 8000 (.alts false pz0) pz0 q1 q2 h1 h2 ⟨Nat.zero_le _, Nat.zero_le _⟩ rfl ⟨rfl, rfl, rfl, .inl ⟨rfl, Nat.zero_le _⟩⟩ (fun _ => rfl) trivial ⟨by show 0 + 2 * (t1.length - 0) + 0 ≤ 1000; omega, clI0, [], 0, gr_refl [] 0 (by simp)⟩
  refine ⟨_, _, parse9_ok t1 (by omega) ne1 _ q1 h1, parse9_ok t2 (by omega) ne2 _ q2 h2, ?_⟩
  unfold fin9
  by_cases he : q1.2.1 = 0
  · rw [if_neg (fun h => h he), if_neg (fun h => h (r2.symm.trans he))]
    obtain ⟨e1, e2, _⟩ := r3 he
    exact ⟨rfl, by rw [e1, e2], (fin9_right h1 he).2.2.2, .inl rfl⟩
  · rw [if_pos he, if_pos (fun h => he (r2.trans h))]
    refine ⟨r2, rfl, Nat.zero_le _, ?_⟩
    rcases r4 he with h | h
    · exact .inr h
    · exact .inl (by show (q1.2.2.p : Int) = (q2.2.2.p : Int); rw [h])
theorem ereShort_law (b : List UInt8) (k : UInt8) : palinodelaw09_EreShort_R b k true := by
  refine split_ (fun _ => ⟨true, eqawake, rfl⟩) fun h => ?_
  have hb : b.length ≤ 40 := by omega
  refine loop_ (fun (st : Int) m => ∃ i : Nat, i ≤ b.length ∧ m = b.length - i ∧ st = (i : Int) ∧ ∀ (j : Nat) (d : UInt8), j < i → b[j]? = some d → d ≠ 92 ∧ d ≠ 91 ∧ d ≠ 123) b.length ⟨0, Nat.zero_le _, rfl, rfl, fun j d hj => by omega⟩ ?_
  rintro _ m ⟨i, hi, rfl, rfl, hno⟩
  refine split_ (fun hlt => ?_) fun hge => ?_
  · have hlt : i < b.length := by omega
    obtain ⟨d, hd⟩ : ∃ d, b[i]? = some d := ⟨_, List.getElem?_eq_getElem hlt⟩
    have hd' : b[((i : Int)).toNat]? = some d := by rw [Int.toNat_natCast]; exact hd
    have h0 : 0 ≤ (i : Int) := by omega
    have out : ∀ z : Bool, z = true → ∀ ag, palinodelaw09_EreShort_j2 (i : Int) ag z true := fun z hz ag => split_ (fun _ => ⟨true, eqawake, rfl⟩) fun h => absurd hz h
    refine ⟨h0, d, hd', split_ (fun _ => out true rfl _) fun n1 => ⟨h0, d, hd', split_ (fun _ => out true rfl _) fun n2 => ⟨h0, d, hd', ?_⟩⟩⟩
    by_cases n3 : (d.toNat : Int) = 123
    · exact out _ (decide_eq_true n3) _
    · rw [decide_eq_false n3]
      refine split_ (fun h => by cases h) fun _ => inR_ (by omega) ⟨b.length - (i + 1), by omega, i + 1, hlt, rfl, by omega, fun j x hj hx => ?_⟩
      rcases (by omega : j < i ∨ j = i) with h | h
      · exact hno j x h hx
      · rw [h, hd] at hx
        injection hx with hx
        subst hx
        exact ⟨fun e => n1 (by rw [e]; rfl), fun e => n2 (by rw [e]; rfl), fun e => n3 (by rw [e]; rfl)⟩
  · have hge : ¬ (i : Int) < (b.length : Int) := hge
    have hno : ∀ (j : Nat) (d : UInt8), b[j]? = some d → d ≠ 92 ∧ d ≠ 91 ∧ d ≠ 123 := fun j d hd => hno j d (by have := (List.getElem?_eq_some_iff.1 hd).1; omega) hd
    have hk := k.toNat_lt
    have hm : ((k.toNat : Int)).tmod 3 = ((k.toNat % 3 : Nat) : Int) := by rw [Int.tmod_eq_emod_of_nonneg (by omega)]; omega
    have key : ∀ (s l : ByteArray) (c : UInt8) (w : Nat) (lo hi : Int), Sh b (b ++ s.data.toList) (b ++ l.data.toList) c w lo hi → w ≤ 10 → s.data.toList.length ≤ 10 → l.data.toList.length ≤ 10 →
        (Room ((([] : List UInt8)).length + b.length) 1 ∧ Room (((([] : List UInt8) ++ b)).length + s.data.toList.length) 1 ∧ ∃ y382 : RE, ere_Parse_R ((([] : List UInt8) ++ b) ++ s.data.toList) y382 ∧ Room ((([] : List UInt8)).length + b.length) 1 ∧ Room (((([] : List UInt8) ++ b)).length + l.data.toList.length) 1 ∧ ∃ y388 : RE, ere_Parse_R ((([] : List UInt8) ++ b) ++ l.data.toList) y388 ∧ ((y382.2.2 = y388.2.2 → ∃ y406 : Bool, palinoderef06_Same_R y382.1 y388.1 y406 ∧ ((y406 = true → ((y382.2.1 = y388.2.1 → ∃ y411 : Bool, palinodelaw09_awake_R y411 ∧ palinodelaw09_EreShort_j3 y411 true) ∧ (¬ (y382.2.1 = y388.2.1) → ((y382.2.2 = 14 → ∃ y415 : Bool, palinodelaw09_awake_R y415 ∧ palinodelaw09_EreShort_j3 y415 true) ∧ (¬ (y382.2.2 = 14) → palinodelaw09_EreShort_j3 false true))))) ∧ (¬ (y406 = true) → palinodelaw09_EreShort_j3 false true))) ∧ (¬ (y382.2.2 = y388.2.2) → palinodelaw09_EreShort_j3 false true))) := fun s l c w lo hi H hw hs hl => by
      obtain ⟨x, y, p1, p2, e1, e2, e3, e4⟩ := short_two H hb hw
      rw [List.nil_append]
      refine room_ (by show 0 + b.length ≤ _; omega) (by omega) (room_ (by omega) (by omega) ⟨x, p1, room_ (by show 0 + b.length ≤ _; omega) (by omega) (room_ (by omega) (by omega) ⟨y, p2, split_ (fun _ => ⟨true, ?_, split_ (fun _ => split_ (fun _ => ⟨true, eqawake, rfl⟩) fun h => split_ (fun _ => ⟨true, eqawake, rfl⟩) fun h2 => ?_) fun h => absurd rfl h⟩) fun h => absurd e1 h⟩)⟩)
      · rw [← e2]; exact same_rfl _ _ (Nat.le_trans e3 (by decide))
      · exact (e4.elim (fun e => h e) fun e => h2 e).elim
    have i0 : 0 ≤ (((k.toNat : Int) : Int).tmod (3)) := by rw [hm]; omega
    rcases (by omega : k.toNat % 3 = 0 ∨ k.toNat % 3 = 1 ∨ k.toNat % 3 = 2) with h3 | h3 | h3
    · exact ⟨by decide, i0, ⟨#[42]⟩, by rw [hm, h3]; rfl, by decide, i0, ⟨#[123, 48, 44, 125]⟩, by rw [hm, h3]; rfl, key ⟨#[42]⟩ ⟨#[123, 48, 44, 125]⟩ 42 4 0 (-1) (sh_open b 48 42 0 (.inl rfl) rfl (by decide) (.inl ⟨rfl, rfl⟩) hno) (by decide) (by decide) (by decide)⟩
    · exact ⟨by decide, i0, ⟨#[43]⟩, by rw [hm, h3]; rfl, by decide, i0, ⟨#[123, 49, 44, 125]⟩, by rw [hm, h3]; rfl, key ⟨#[43]⟩ ⟨#[123, 49, 44, 125]⟩ 43 4 1 (-1) (sh_open b 49 43 1 (.inr rfl) rfl (by decide) (.inr ⟨rfl, rfl⟩) hno) (by decide) (by decide) (by decide)⟩
    · exact ⟨by decide, i0, ⟨#[63]⟩, by rw [hm, h3]; rfl, by decide, i0, ⟨#[123, 48, 44, 49, 125]⟩, by rw [hm, h3]; rfl, key ⟨#[63]⟩ ⟨#[123, 48, 44, 49, 125]⟩ 63 5 0 1 (sh_both b hno) (by decide) (by decide) (by decide)⟩
end Go.Proofs.Ytfhakeapepafbaa
