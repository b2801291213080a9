/- SinksFull. -/
import Derived.Test.YthffeojphpajpaaSkL
import Derived.Test.YthffeojphpajpaaGKL2
namespace Go.Proofs.Ythffeojphpajpaa
theorem sksame2_ok (a b : List UInt8) (hl : a.length ≤ 1000000) : palinoderef01_Same_v2_R a b (decide (a = b)) := by
  refine split_ (fun h => ?_) fun h => ?_
  · exact decide_eq_false fun e : a = b => h (by rw [e])
  · have hlen : a.length = b.length := by omega
    refine loop_ (fun st m => ∃ k : Nat, k ≤ a.length ∧ m = a.length - k ∧ st = (k : Int) ∧ a.take k = b.take k) _ ⟨0, by omega, rfl, rfl, rfl⟩ ?_
    rintro st m ⟨k, hk, rfl, rfl, h2⟩
    refine split_ (fun h3 => ?_) fun h3 => ?_
    · refine at_ (by omega) (by omega) fun x hx => at_ (by omega) (by omega) fun y hy => ?_
      rw [Int.toNat_natCast] at hx hy
      refine split_ (fun h4 => ?_) fun h4 => ?_
      · refine decide_eq_false fun e : a = b => h4 ?_
        rw [e, hy] at hx
        injection hx with hx
        rw [hx]
      · have hxy : x = y := UInt8.toNat_inj.1 (by omega)
        refine inR_ (by omega) ⟨a.length - (k + 1), by omega, k + 1, by omega, rfl, by simp, ?_⟩
        rw [List.take_add_one, List.take_add_one, h2, hx, hy, hxy]
    · rw [List.take_of_length_le (by omega), List.take_of_length_le (by omega)] at h2
      exact decide_eq_true h2
abbrev Ln := List UInt8 × Bool
theorem full_law (ls : List Ln) (c : UInt8) : palinodelaw19_SinksFull_R ls c true := by
  have hc := c.toNat_lt
  refine split_ (fun _ => ⟨true, skawake, rfl⟩) fun hn => ?_
  refine loop_ (fun (st : Int × Int × Bool × List UInt8) j => ∃ k : Nat, k ≤ ls.length ∧ j = ls.length - k ∧ st = ((sinkLines c.toNat [] false (ls.take k)).2.2, (k : Int), (sinkLines c.toNat [] false (ls.take k)).2.1, (sinkLines c.toNat [] false (ls.take k)).1) ∧ ∀ x ∈ ls.take k, x.1.length ≤ 60) ls.length ⟨0, by omega, rfl, rfl, by simp⟩ ?_
  rintro _ j ⟨k, hk, rfl, rfl, hall⟩
  show palinodelaw19_SinksFull_l1 ls c _ _ (k : Int) _ _ true
  have hsz := sinkLines_len c.toNat [] false (ls.take k)
  have hsl := sizeLn_le (ls.take k) hall
  rw [List.length_take] at hsl
  rw [List.length_nil] at hsz
  refine split_ (fun h => at_ (by omega) (by omega) fun x hx => ?_) fun h => ?_
  · have hx0 := hx
    rw [Int.toNat_natCast] at hx
    have hsn := sinkLines_snoc c.toNat (ls.take k) x.1 x.2
    rw [← take_snoc_of (show ls[k]? = some (x.1, x.2) from hx)] at hsn
    refine split_ (fun _ => ⟨true, skawake, rfl⟩) fun h60 => ?_
    have hall2 : ∀ y ∈ ls.take (k + 1), y.1.length ≤ 60 := by
      rw [take_snoc_of hx]
      intro y hy
      rcases List.mem_append.1 hy with hy | hy
      · exact hall y hy
      · rw [List.mem_singleton.1 hy]; omega
    refine split_ (fun h0 => ⟨by omega, x, hx0, _, line_ok (sinkLines c.toNat [] false (ls.take k)).2.1 c.toNat (sinkLines c.toNat [] false (ls.take k)).1 x (by omega), inR_ (by omega) ⟨ls.length - (k + 1), by omega, k + 1, by omega, rfl, ?_, hall2⟩⟩) fun h0 => inR_ (by omega) ⟨ls.length - (k + 1), by omega, k + 1, by omega, rfl, ?_, hall2⟩
    · rw [if_pos h0] at hsn
      rw [hsn]; try rfl
    · rw [if_neg h0] at hsn
      rw [hsn]; try rfl
  · have : k = ls.length := by omega
    subst this
    rw [List.take_length] at hall hsz ⊢
    have hfit := sinkLines_fit c.toNat [] false ls (by rw [List.length_nil]; omega)
    have herr := sinkLines_err c.toNat [] false ls
    refine ⟨_, lines_ok c.toNat ls (by omega) hall, split_ (fun _ => split_ (fun h0 => split_ (fun _ => ⟨_, sksame2_ok _ _ (by show (sinkLines c.toNat [] false ls).1.length ≤ _; omega), split_ (fun _ => split_ (fun _ => ⟨true, skawake, rfl⟩) fun h => absurd (beq_self_eq_true _) h) fun h => absurd (decide_eq_true rfl) h⟩) fun h => absurd hfit h) fun h0 => split_ (fun _ => split_ (fun _ => ⟨_, sksame2_ok _ _ (by show (sinkLines c.toNat [] false ls).1.length ≤ _; omega), split_ (fun _ => split_ (fun _ => ⟨true, skawake, rfl⟩) fun h => absurd (beq_self_eq_true _) h) fun h => absurd (decide_eq_true rfl) h⟩) fun h => absurd hfit h) fun h7 => absurd (herr.resolve_left h0) h7) fun h => absurd rfl h⟩
end Go.Proofs.Ythffeojphpajpaa
