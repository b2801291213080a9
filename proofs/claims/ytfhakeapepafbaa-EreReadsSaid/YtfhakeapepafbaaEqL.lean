/- The law of an extended regular expression that is read by the document's reader also. -/
import Derived.Test.YtfhakeapepafbaaEqV
import Derived.Test.YtfhakeapepafbaaRr
import Derived.Test.YtfhakeapepafbaaGKL1
namespace Go.Proofs.Ytfhakeapepafbaa
theorem told9_ok (b : List UInt8) (q : R9) : palinoderef08_told_R (fr9 b q) (fin9 q) := by
  unfold fin9
  refine split_ (fun h => ?_) fun h => ?_
  · have h : q.2.1 ≠ 0 := h
    rw [if_pos h]; rfl
  · have h : q.2.1 = 0 := Decidable.not_not.1 h
    rw [if_neg (fun e => e h)]; rfl
theorem need_top (b : List UInt8) (hb : b.length ≤ 1000) : ∃ q, go9 b 8000 (.alts false pz0) = some q := go9_ex b 8000 (.alts false pz0) ⟨Nat.zero_le _, Nat.zero_le _⟩ (by show 7 * (b.length - 0) + 6 ≤ 8000; omega)
theorem clI0 : ClI pz0 := fun d hd => by
  have hd : (List.replicate 10 false)[d]? = some true := hd
  have := List.mem_of_getElem? hd
  simp at this
theorem rext_ok (b : List UInt8) (hb : b.length ≤ 80) (h0 : b ≠ []) (n : Nat) (q : R9) (hq : go9 b n (.alts false pz0) = some q) : palinoderef08_Extended_R b (fin9 q) := by
  have hl : b.length ≠ 0 := fun e => h0 (List.length_eq_zero_iff.1 e)
  obtain ⟨⟨k, h1, _⟩, _⟩ := go9_ref b (by omega) n _ q hq ⟨Nat.zero_le _, Nat.zero_le _⟩ ⟨by show 0 + 2 * (b.length - 0) + 0 ≤ 1000; omega, clI0, [], 0, gr_refl [] 0 (by simp)⟩
  rw [← tt1] at h1
  obtain ⟨m, _, h1⟩ := h1
  refine split_ (fun h => by omega) fun _ => ⟨(k, fr9 b q), ⟨R1, R2, R3, R4, R5, rrec_ok, m, h1⟩, fin9 q, told9_ok b q, rfl⟩
theorem rext_nil : palinoderef08_Extended_R [] (([(0, 0, 0, 0, 0, 0, setZ)], 0), 0, 0) := by
  refine split_ (fun _ => ⟨_, put_ref (b := []) (nd := (0, 0, 0, 0, 0, 0, setZ)) (s := pz0) 0 (by decide), (([(0, 0, 0, 0, 0, 0, setZ)], 0), 0, 0), ?_, rfl⟩) fun h => absurd rfl h
  exact split_ (fun h => absurd rfl h) fun _ => rfl
theorem eqawake : palinodelaw09_awake_R true := by
  obtain ⟨q1, h1⟩ := need_top [97, 124, 98] (by decide)
  obtain ⟨q2, h2⟩ := need_top [97, 43] (by decide)
  obtain ⟨q3, h3⟩ := need_top [97, 124] (by decide)
  have e1 : (go9 [97, 124, 98] 8000 (.alts false pz0)).map (fun q => (decide ((fin9 q).2.2 = 0) && (decide ((fin9 q).1.1.length = 3) && ((fin9 q).1.1.map (·.1))[2]? == some 3))) = some true := by kernel_rfl
  have e2 : (go9 [97, 43] 8000 (.alts false pz0)).map (fun q => (decide ((fin9 q).2.2 = 0) && ((fin9 q).1.1.map (·.2.2.2.1))[1]? == some 1)) = some true := by kernel_rfl
  have e3 : (go9 [97, 124] 8000 (.alts false pz0)).map (fun q => (decide ((fin9 q).2.2 = 15) && decide ((fin9 q).2.1 = 2))) = some true := by kernel_rfl
  rw [h1] at e1; rw [h2] at e2; rw [h3] at e3
  simp only [Option.map_some, Option.some.injEq, Bool.and_eq_true, decide_eq_true_eq, beq_iff_eq] at e1 e2 e3
  refine ⟨_, parse9_ok _ (by decide) (by decide) _ q1 h1, _, parse9_ok _ (by decide) (by decide) _ q2 h2, _, parse9_ok _ (by decide) (by decide) _ q3 h3, ?_⟩
  obtain ⟨a1, a2, a3⟩ := e1
  obtain ⟨b1, b2⟩ := e2
  obtain ⟨x, hx⟩ : ∃ x, (fin9 q1).1.1[2]? = some x := ⟨_, List.getElem?_eq_getElem (by omega)⟩
  rw [List.getElem?_map, hx] at a3
  have a3 : x.1 = 3 := by simpa using a3
  obtain ⟨y, hy⟩ : ∃ y, (fin9 q2).1.1[1]? = some y := by
    cases hy : (fin9 q2).1.1[1]? with
    | none => rw [List.getElem?_map, hy] at b2; cases b2
    | some y => exact ⟨y, rfl⟩
  rw [List.getElem?_map, hy] at b2
  have b2 : y.2.2.2.1 = 1 := by simpa using b2
  refine split_ (fun _ => split_ (fun _ => ⟨by decide, x, hx, split_ (fun _ => split_ (fun _ => ⟨by decide, y, hy, ?_⟩) fun h => absurd b1 h) fun h => absurd a3 h⟩) fun h => absurd (by omega) h) fun h => absurd a1 h
  show true = _
  rw [decide_eq_true b2, decide_eq_true e3.1, decide_eq_true e3.2]
  rfl
theorem same_rfl (l : List ND) (g : Int) (h : l.length ≤ 1000000) : palinoderef06_Same_R (l, g) (l, g) true := by
  have := refsame_ok l l g g h
  simpa using this
theorem ereReads_law (b : List UInt8) : palinodelaw09_EreReads_R b true := by
  refine split_ (fun _ => ⟨true, eqawake, rfl⟩) fun h => ?_
  have hb : b.length ≤ 80 := by omega
  have key : ∀ z : RE, ere_Parse_R b z → palinoderef08_Extended_R b z → z.1.1.length ≤ 1000 → (z.2.2 = 0 → palinoderef06_Right_R z.1 true) → palinodelaw09_EreReads_R b true := fun z hp hr hlen hri => by
    refine split_ (fun h => by omega) fun _ => ⟨_, hp, _, hr, true, same_rfl _ _ (Nat.le_trans hlen (by decide)), split_ (fun _ => split_ (fun _ => split_ (fun _ => split_ (fun _ => ⟨true, eqawake, rfl⟩) fun h0 => ⟨_, hri (Decidable.not_not.1 h0), split_ (fun _ => ⟨true, eqawake, rfl⟩) fun h => absurd rfl h⟩) fun h => absurd rfl h) fun h => absurd rfl h) fun h => absurd rfl h⟩
  have := fun z h1 h2 h3 h4 => (key z h1 h2 h3 h4).2 (by omega)
  by_cases h0 : b = []
  · subst h0
    refine this _ parse9_nil rext_nil (by decide) fun _ => ?_
    have e : rightB [(0, 0, 0, 0, 0, 0, setZ)] 0 = true := by decide
    have := rright_ok [(0, 0, 0, 0, 0, 0, setZ)] 0
    rw [e] at this
    exact this
  · obtain ⟨q, hq⟩ := need_top b (by omega)
    refine this _ (parse9_ok b (by omega) h0 _ q hq) (rext_ok b hb h0 _ q hq) ?_ fun hz => ?_
    · unfold fin9
      by_cases hw : q.2.1 = 0
      · rw [if_neg (fun h => h hw)]; exact (fin9_right hq hw).2.2.2
      · rw [if_pos hw]; exact Nat.zero_le _
    · have hw : q.2.1 = 0 := by
        refine Decidable.not_not.1 fun hw => ?_
        unfold fin9 at hz
        rw [if_pos hw] at hz
        exact hw hz
      have e : (fin9 q).1 = (q.2.2.L, (q.2.2.g : Int)) := by unfold fin9; rw [if_neg (fun h => h hw)]
      rw [e]
      have := rright_ok q.2.2.L q.2.2.g
      rw [(fin9_right hq hw).1] at this
      exact this
end Go.Proofs.Ytfhakeapepafbaa
