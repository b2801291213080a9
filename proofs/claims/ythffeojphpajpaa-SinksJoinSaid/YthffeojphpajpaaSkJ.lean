/- SinksJoin. -/
import Derived.Test.YthffeojphpajpaaSkL
import Derived.Test.YthffeojphpajpaaGKL1
namespace Go.Proofs.Ythffeojphpajpaa
theorem sksame_ok (a b : List UInt8) (hl : a.length ≤ 1000000) : palinoderef01_Same_R a b (decide (a = b)) := by
  refine split_ (fun h => ?_) fun h => ?_
  · exact decide_eq_false fun e : a = b => h (by rw [e])
  · have hlen : a.length = b.length := by omega
    refine loop_ (fun st m => ∃ k : Nat, k ≤ a.length ∧ m = a.length - k ∧ st = (k : Int) ∧ a.take k = b.take k) _ ⟨0, by omega, rfl, rfl, rfl⟩ ?_
    rintro st m ⟨k, hk, rfl, rfl, h2⟩
    refine split_ (fun h3 => ?_) fun h3 => ?_
    · refine at_ (by omega) (by omega) fun x hx => at_ (by omega) (by omega) fun y hy => ?_
      rw [Int.toNat_natCast] at hx hy
      refine split_ (fun h4 => ?_) fun h4 => ?_
      · refine decide_eq_false fun e : a = b => h4 ?_
        rw [e, hy] at hx
        injection hx with hx
        rw [hx]
      · have hxy : x = y := UInt8.toNat_inj.1 (by omega)
        refine inR_ (by omega) ⟨a.length - (k + 1), by omega, k + 1, by omega, rfl, by simp, ?_⟩
        rw [List.take_add_one, List.take_add_one, h2, hx, hy, hxy]
    · rw [List.take_of_length_le (by omega), List.take_of_length_le (by omega)] at h2
      exact decide_eq_true h2
abbrev Ln := List UInt8 × Bool
theorem join_end (ls : List Ln) (hn : ls.length ≤ 40) (hb : ∀ x ∈ ls, x.1.length ≤ 60) : ∃ y481 : SW, sinks_Sink_Lines_R false 5000 ([] : List UInt8) ls y481 ∧ LoopR (fun ag4 s => palinodelaw19_SinksJoin_l4 ls y481 (wantTo ls ls.length) ag4 s.1 s.2.1 s.2.2 true) (0, false, ([] : List UInt8)) := by
  obtain ⟨bs, sh, h1, h2, h3, h4, h5⟩ := sink_want hn hb ls.length (Nat.le_refl _)
  rw [List.take_length] at h1
  rw [decide_eq_false (Nat.lt_irrefl _), Bool.and_false, if_neg Bool.false_ne_true, List.append_nil] at h2
  refine ⟨_, lines_ok 5000 ls hn hb, ?_⟩
  rw [h1]
  refine loop_ (fun (st : Int × Bool × List UInt8) j => ∃ k : Nat, k ≤ ls.length ∧ j = ls.length - k ∧ st = ((k : Int), (sinkLines 5000 [] false (ls.take k)).2.1, (sinkLines 5000 [] false (ls.take k)).1)) ls.length ⟨0, by omega, rfl, rfl⟩ ?_
  rintro _ j ⟨k, hk, rfl, rfl⟩
  show palinodelaw19_SinksJoin_l4 ls _ _ _ (k : Int) _ _ true
  obtain ⟨bs', sh', q1, _, q3, _, _⟩ := sink_want hn hb k hk
  refine split_ (fun h => at_ (by omega) (by omega) fun x hx => ?_) fun h => ?_
  · rw [Int.toNat_natCast] at hx
    have hx60 := hb x (List.mem_of_getElem? hx)
    have hsn := sinkLines_snoc 5000 (ls.take k) x.1 x.2
    rw [← take_snoc_of (show ls[k]? = some (x.1, x.2) from hx), if_pos (by rw [q1])] at hsn
    obtain ⟨bs'', sh'', r1, _⟩ := sink_want hn hb (k + 1) (by omega)
    refine ⟨_, line_ok (sinkLines 5000 [] false (ls.take k)).2.1 5000 (sinkLines 5000 [] false (ls.take k)).1 x (by rw [q1]; simp only; omega), split_ (fun h1 => absurd ?_ h1) fun h1 => inR_ (by omega) ⟨ls.length - (k + 1), by omega, k + 1, by omega, rfl, ?_⟩⟩
    · show (sinkW (sinkLines 5000 [] false (ls.take k)).1 (sinkLines 5000 [] false (ls.take k)).2.1 5000 (lnBytes x.1 x.2) (!x.2)).2.2 = 0
      rw [← hsn, r1]
    · rw [hsn]; try rfl
  · have : k = ls.length := by omega
    subst this
    rw [List.take_length, h1]
    refine split_ (fun _ => ⟨_, sksame_ok bs _ (by omega), split_ (fun _ => ⟨_, sksame_ok bs _ (by omega), split_ (fun _ => split_ (fun hp => ?_) fun hp => ?_) fun h => absurd (decide_eq_true h2.symm) h⟩) fun h => absurd (decide_eq_true h2.symm) h⟩) fun h => absurd rfl h
    · refine inR_ (by omega) (at_ (by omega) (by omega) fun x hx => ?_)
      have e : (((ls.length : Int) - 1) : Int).toNat = ls.length - 1 := by omega
      rw [e] at hx
      have hs := h5 (ls.length - 1) x.1 x.2 (by omega) hx
      refine split_ (fun _ => ⟨true, skawake, rfl⟩) fun h => absurd ?_ h
      show (sh == !x.2) = true
      rw [hs]; exact beq_self_eq_true _
    · have hs := h4 (by omega)
      refine split_ (fun _ => ⟨true, skawake, rfl⟩) fun h => absurd ?_ h
      show (sh == false) = true
      rw [hs]; rfl
theorem wantTo_len (ls : List Ln) (hb : ∀ x ∈ ls, x.1.length ≤ 60) : ∀ k, k ≤ ls.length → (wantTo ls k).length ≤ 61 * k
  | 0, _ => Nat.le_refl _
  | k + 1, hk => by
    obtain ⟨x, hx⟩ : ∃ x, ls[k]? = some x := ⟨_, List.getElem?_eq_getElem (by omega)⟩
    have h60 := hb x (List.mem_of_getElem? hx)
    have ih := wantTo_len ls hb k (by omega)
    rw [wantTo_succ (b := x.1) (nl := x.2) hx, List.length_append, List.length_append]
    split <;> simp <;> omega
theorem join_law (ls : List Ln) : palinodelaw19_SinksJoin_R ls true := by
  refine split_ (fun _ => ⟨true, skawake, rfl⟩) fun hn => ?_
  refine loop_ (fun (st : List UInt8 × Int) j => ∃ k : Nat, k ≤ ls.length ∧ j = ls.length - k ∧ st = (wantTo ls k, (k : Int)) ∧ (wantTo ls k).length ≤ 61 * k ∧ ∀ x ∈ ls.take k, x.1.length ≤ 60) ls.length ⟨0, by omega, rfl, rfl, by simp [wantTo], by simp⟩ ?_
  rintro _ j ⟨k, hk, rfl, rfl, hwl, hall⟩
  show palinodelaw19_SinksJoin_l1 ls _ (wantTo ls k) (k : Int) true
  refine split_ (fun h => at_ (by omega) (by omega) fun x hx => ?_) fun h => ?_
  · have hx0 := hx
    rw [Int.toNat_natCast] at hx
    refine split_ (fun _ => ⟨true, skawake, rfl⟩) fun h60 => ⟨by omega, x, hx0, room_ (by omega) (by omega) ⟨by omega, x, hx0, ?_⟩⟩
    have hsucc := wantTo_succ (b := x.1) (nl := x.2) hx
    have hnext : ∀ w : List UInt8, w = wantTo ls (k + 1) → palinodelaw19_SinksJoin_j2 (k : Int) (fun s' => ∃ m', m' < ls.length - k ∧ ∃ k : Nat, k ≤ ls.length ∧ m' = ls.length - k ∧ s' = (wantTo ls k, (k : Int)) ∧ (wantTo ls k).length ≤ 61 * k ∧ ∀ x ∈ ls.take k, x.1.length ≤ 60) w true := fun w hw => by
      subst hw
      refine inR_ (by omega) ⟨ls.length - (k + 1), by omega, k + 1, by omega, rfl, rfl, ?_, ?_⟩
      · rw [hsucc, List.length_append, List.length_append]
        split <;> simp <;> omega
      · rw [take_snoc_of hx]
        intro y hy
        rcases List.mem_append.1 hy with hy | hy
        · exact hall y hy
        · rw [List.mem_singleton.1 hy]; omega
    have hj3 : ∀ z : Bool, z = (x.2 || decide (k + 1 < ls.length)) → palinodelaw19_SinksJoin_j3 (wantTo ls k) x (k : Int) (fun s' => ∃ m', m' < ls.length - k ∧ ∃ k : Nat, k ≤ ls.length ∧ m' = ls.length - k ∧ s' = (wantTo ls k, (k : Int)) ∧ (wantTo ls k).length ≤ 61 * k ∧ ∀ x ∈ ls.take k, x.1.length ≤ 60) z true := fun z hz => by
      refine split_ (fun h => room_ (by rw [List.length_append, List.length_singleton]; omega) (by omega) (hnext _ ?_)) fun h => hnext _ ?_
      · rw [hsucc, ← hz, h, if_pos rfl, List.append_assoc]
      · rw [hsucc, ← hz, if_neg h, List.append_nil]
    refine split_ (fun h => hj3 _ (by rw [h]; rfl)) fun h => inR_ (by omega) (hj3 _ ?_)
    rw [show x.2 = false from by simpa using h, Bool.false_or, decide_eq_decide]
    omega
  · have : k = ls.length := by omega
    subst this
    rw [List.take_length] at hall
    exact join_end ls (by omega) hall
end Go.Proofs.Ythffeojphpajpaa
