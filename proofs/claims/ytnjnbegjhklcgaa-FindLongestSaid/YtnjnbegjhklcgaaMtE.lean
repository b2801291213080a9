
/- The search as a whole. -/
import Derived.Test.YtnjnbegjhklcgaaMtD
namespace Go.Proofs.Ytnjnbegjhklcgaa
def arrI : Nat → Sp
  | 0 => Arr.rep 10 (0, 0)
  | i + 1 => Arr.set (arrI i) i (-1, -1)
def sp0 : Sp := Arr.rep 10 (-1, -1)
theorem arrI10 : arrI 10 = sp0 := Arr.ext rfl
def startM (re : List ND) (a : Int) : Sg := ([(a, sp0, [(0, (re.length : Int) - 1, 0, 0)])], false, Arr.rep 10 (0, 0))
def atM (re : List ND) (g : Int) (tx : List UInt8) (a f : Int) : Sp × Bool × Int × Int :=
  if a < 0 ∨ (tx.length : Int) < a ∨ f < 0 ∨ rightB re g = false then (Arr.rep 10 (0, 0), false, 0, 1) else runM re tx a f.toNat (startM re a)
theorem start_s {re : List ND} {g : Int} {tx : List UInt8} {a : Int} (h : 1 ≤ re.length) (h0 : 0 ≤ a) (h1 : a ≤ tx.length) : SOk re g tx a (startM re a) := by
  refine ⟨fun w hw => ?_, fun e => absurd (show false = true from e) Bool.false_ne_true, fun _ => rfl⟩
  rw [List.mem_singleton.1 hw]
  refine ⟨Int.le_refl _, h1, fun i x _ hx => .inl ?_, fun t ht => ?_⟩
  · have : (List.replicate 10 ((-1, -1) : Int × Int))[i]? = some x := hx
    rw [List.getElem?_replicate] at this
    split at this
    · exact (Option.some.inj this).symm
    · cases this
  · rw [List.mem_singleton.1 ht]
    exact tnode (by omega)
theorem start_b {re : List ND} {a : Int} : Busy (startM re a) := fun w hw => by
  rw [List.mem_singleton.1 hw]
  exact fun e => by cases e
theorem at_ok (re : List ND) (g : Int) (tx : List UInt8) (a f : Int) (htx : tx.length ≤ 900000000) (hf : f ≤ 100000000) : match_At_R (re, g) tx a f (atM re g tx a f) := by
  unfold match_At_R
  have bad : a < 0 ∨ (tx.length : Int) < a ∨ f < 0 ∨ rightB re g = false → match_At_j1 (re, g) tx a f true (atM re g tx a f) := by
    intro h
    unfold match_At_j1 atM
    rw [if_pos h]
    exact split_ (fun _ => rfl) fun q => absurd rfl q
  refine split_ (fun h => bad (.inl h)) fun h1 => split_ (fun h => bad (.inr (.inl h))) fun h2 => split_ (fun h => bad (.inr (.inr (.inl h)))) fun h3 => ⟨_, right_ok _ _, ?_⟩
  cases hr : rightB re g with
  | false => exact bad (.inr (.inr (.inr hr)))
  | true =>
    obtain ⟨hn, g0, g9, hl⟩ := right_nodes hr
    have hlen : re.length ≤ 1000 := by
      unfold rightB at hr
      simp only [Bool.and_eq_true, decide_eq_true_eq] at hr
      exact hr.1.1.1.1.1.2
    unfold match_At_j1
    refine split_ (fun h => by cases h) fun _ => inR_ (by show _ ≤ ((re.length : Nat) : Int) - 1 ∧ ((re.length : Nat) : Int) - 1 ≤ _; omega) ?_
    have e : atM re g tx a f = runM re tx a f.toNat (startM re a) := by
      unfold atM
      rw [if_neg (by rw [hr]; intro h; rcases h with h | h | h | h <;> first | omega | cases h)]
    rw [e]
    refine loop_ (fun x m => ∃ i : Nat, x = ((i : Int), arrI i) ∧ i ≤ 10 ∧ 10 - i = m) 10 ⟨0, rfl, by omega, rfl⟩ ?_
    rintro _ m ⟨i, rfl, hi, rfl⟩
    unfold match_At_l2
    simp only
    refine split_ (fun h => ?_) fun h => ?_
    · exact atA (by omega) (by omega) fun x hx => inR_ (by omega) ⟨10 - (i + 1), by omega, i + 1, rfl, by omega, rfl⟩
    · obtain rfl : i = 10 := by omega
      rw [arrI10]
      refine ⟨startM re a, follow_ok re g tx a ([], false, Arr.rep 10 (0, 0)) _ (by simp), ?_⟩
      have := run_ok re g tx a hn g9 (by omega) htx f.toNat (by omega) (startM re a) (start_s hl (by omega) (by omega)) start_b (Nat.le_refl _)
      rw [show ((f.toNat : Nat) : Int) = f by omega] at this
      exact this
theorem run_s {re : List ND} {g : Int} {tx : List UInt8} {a0 : Int} (hn : NOk re g) (ha : 0 ≤ a0) : ∀ (f : Nat) (s : Sg), SOk re g tx a0 s →
    ((runM re tx a0 f s).2.2.2 = 0 ∧ (runM re tx a0 f s).2.1 = true → HOk g tx a0 (runM re tx a0 f s).1) ∧ (¬ ((runM re tx a0 f s).2.2.2 = 0 ∧ (runM re tx a0 f s).2.1 = true) → (runM re tx a0 f s).1 = Arr.rep 10 (0, 0)) := by
  intro f
  have nil : ∀ f (s : Sg), s.1 = [] → SOk re g tx a0 s → ((runM re tx a0 f s).2.2.2 = 0 ∧ (runM re tx a0 f s).2.1 = true → HOk g tx a0 (runM re tx a0 f s).1) ∧ (¬ ((runM re tx a0 f s).2.2.2 = 0 ∧ (runM re tx a0 f s).2.1 = true) → (runM re tx a0 f s).1 = Arr.rep 10 (0, 0)) := by
    intro f s hs h
    rw [run_nil hs]
    exact ⟨fun q => h.2.1 q.2, fun q => h.2.2 (Bool.eq_false_iff.2 fun e => q ⟨rfl, e⟩)⟩
  induction f with
  | zero =>
    intro s h
    by_cases hs : s.1 = []
    · exact nil _ s hs h
    · rw [run_zero hs]
      exact ⟨fun q => absurd q.2 (by decide), fun _ => rfl⟩
  | succ f ih =>
    intro s h
    by_cases hs : s.1 = []
    · exact nil _ s hs h
    · rw [run_succ hs]
      exact ih _ (do_s hn ha (s := (s.1.dropLast, s.2)) ⟨fun v hv => h.1 v (List.dropLast_subset _ hv), h.2⟩ (h.1 _ (List.getLast_mem hs))).1
end Go.Proofs.Ytnjnbegjhklcgaa
