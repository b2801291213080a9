
/- The search as a whole. -/
import Derived.Test.YtnefabncdpkbmaaMtD
namespace Go.Proofs.Ytnefabncdpkbmaa
def arrI : Nat → Sp
  | 0 => Arr.rep 10 (0, 0)
  | i + 1 => Arr.set (arrI i) i (-1, -1)
def sp0 : Sp := Arr.rep 10 (-1, -1)
theorem arrI10 : arrI 10 = sp0 := Arr.ext rfl
def startM (re : List ND) (a : Int) : Sg := ([(a, sp0, [(0, (re.length : Int) - 1, 0, 0)])], false, Arr.rep 10 (0, 0))
def atM (re : List ND) (g : Int) (tx : List UInt8) (a f : Int) : Sp × Bool × Int × Int :=
  if a < 0 ∨ (tx.length : Int) < a ∨ f < 0 ∨ rightB re g = false then (Arr.rep 10 (0, 0), false, 0, 1) else runM re tx a f.toNat (startM re a)
theorem start_s {re : List ND} {g : Int} {tx : List UInt8} {a : Int} (h : 1 ≤ re.length) (h0 : 0 ≤ a) (h1 : a ≤ tx.length) : SOk re g tx a (startM re a) := by
  refine ⟨fun w hw => ?_, fun e => absurd (show false = true from e) Bool.false_ne_true, fun _ => rfl⟩
  rw [List.mem_singleton.1 hw]
  refine ⟨Int.le_refl _, h1, fun i x _ hx => .inl ?_, fun t ht => ?_⟩
  · have : (List.replicate 10 ((-1, -1) : Int × Int))[i]? = some x := hx
    rw [List.getElem?_replicate] at this
    split at this
    · exact (Option.some.inj this).symm
    · cases this
  · rw [List.mem_singleton.1 ht]
    exact tnode (by omega)
theorem start_b {re : List ND} {a : Int} : Busy (startM re a) := fun w hw => by
  rw [List.mem_singleton.1 hw]
  exact fun e => by cases e
theorem at_ok (re : List ND) (g : Int) (tx : List UInt8) (a f : Int) (htx : tx.length ≤ 900000000) (hf : f ≤ 100000000) : match_At_R (re, g) tx a f (atM re g tx a f) := by
  unfold match_At_R
  have bad : a < 0 ∨ (tx.length : Int) < a ∨ f < 0 ∨ rightB re g = false → match_At_j1 (re, g) tx a f true (atM re g tx a f) := by
    intro h
    unfold match_At_j1 atM
    rw [if_pos h]
    exact split_ (fun _ => rfl) fun q => absurd rfl q
  refine split_ (fun h => bad (.inl h)) fun h1 => split_ (fun h => bad (.inr (.inl h))) fun h2 => split_ (fun h => bad (.inr (.inr (.inl h)))) fun h3 => ⟨_, right_ok _ _, ?_⟩
  cases hr : rightB re g with
  | false => exact bad (.inr (.inr (.inr hr)))
  | true =>
    obtain ⟨hn, g0, g9, hl⟩ := right_nodes hr
    have hlen : re.length ≤ 1000 := by
      unfold rightB at hr
      simp only [Bool.and_eq_true, decide_eq_true_eq] at hr
      exact hr.1.1.1.1.1.2
    unfold match_At_j1
    refine split_ (fun h => by cases h) fun _ => inR_ (by show _ ≤ ((re.length : Nat) : Int) - 1 ∧ ((re.length : Nat) : Int) - 1 ≤ _; omega) ?_
    have e : atM re g tx a f = runM re tx a f.toNat (startM re a) := by
      unfold atM
      rw [if_neg (by rw [hr]; intro h; rcases h with h | h | h | h <;> first | omega | cases h)]
    rw [e]
    refine loop_ (fun x m => ∃ i : Nat, x = ((i : Int), arrI i) ∧ i ≤ 10 ∧ 10 - i = m) 10 ⟨0, rfl, by omega, rfl⟩ ?_
    rintro _ m ⟨i, rfl, hi, rfl⟩
    unfold match_At_l2
    simp only
    refine split_ (fun h => ?_) fun h => ?_
    · exact atA (by omega) (by omega) fun x hx => inR_ (by omega) ⟨10 - (i + 1), by omega, i + 1, rfl, by omega, rfl⟩
    · obtain rfl : i = 10 := by omega
      rw [arrI10]
      refine ⟨startM re a, follow_ok re g tx a ([], false, Arr.rep 10 (0, 0)) _ (by simp), ?_⟩
      have := run_ok re g tx a hn g9 (by omega) htx f.toNat (by omega) (startM re a) (start_s hl (by omega) (by omega)) start_b (Nat.le_refl _)
      rw [show ((f.toNat : Nat) : Int) = f by omega] at this
      exact this
end Go.Proofs.Ytnefabncdpkbmaa
