/- The document's reader of basic regular expressions comes to where the program's does. -/
import Derived.Test.YtpddiffpanihdaaRkR
namespace Go.Proofs.Ytpddiffpanihdaa
abbrev PB := RS8 → Bool → (Int × RS8) → Prop
abbrev PG := RS8 → Int → Bool → (Int × RS8) → Prop
/-- What the five functions hand back, call by call. -/
def TT : Nat → PB × PB × PG × PB × PB
  | 0 => (fun _ _ _ => False, fun _ _ _ => False, fun _ _ _ _ => False, fun _ _ _ => False, fun _ _ _ => False)
  | n + 1 => (fun o x r => (TT n).1 o x r ∨ palinoderef08_Reader_branch_B (TT n).1 (TT n).2.1 (TT n).2.2.1 (TT n).2.2.2.1 (TT n).2.2.2.2 o x r,
    fun o x r => (TT n).2.1 o x r ∨ palinoderef08_Reader_piece_B (TT n).1 (TT n).2.1 (TT n).2.2.1 (TT n).2.2.2.1 (TT n).2.2.2.2 o x r,
    fun o x y r => (TT n).2.2.1 o x y r ∨ palinoderef08_Reader_Group_B (TT n).1 (TT n).2.1 (TT n).2.2.1 (TT n).2.2.2.1 (TT n).2.2.2.2 o x y r,
    fun o x r => (TT n).2.2.2.1 o x r ∨ palinoderef08_Reader_Alt_B (TT n).1 (TT n).2.1 (TT n).2.2.1 (TT n).2.2.2.1 (TT n).2.2.2.2 o x r,
    fun o x r => (TT n).2.2.2.2 o x r ∨ palinoderef08_Reader_extended_B (TT n).1 (TT n).2.1 (TT n).2.2.1 (TT n).2.2.2.1 (TT n).2.2.2.2 o x r)
theorem tt_ex {α : Type} {T : Nat → α → Prop} {B : Nat → α → Prop} (h0 : ∀ a, ¬ T 0 a) (hs : ∀ n a, T (n + 1) a ↔ T n a ∨ B n a) (n : Nat) (a : α) : T n a ↔ ∃ m, m < n ∧ B m a := by
  induction n with
  | zero => exact ⟨fun h => (h0 a h).elim, fun ⟨m, h, _⟩ => by omega⟩
  | succ n ih =>
    rw [hs]
    constructor
    · rintro (h | h)
      · obtain ⟨m, h1, h2⟩ := ih.1 h; exact ⟨m, by omega, h2⟩
      · exact ⟨n, by omega, h⟩
    · rintro ⟨m, h1, h2⟩
      rcases (by omega : m < n ∨ m = n) with h3 | rfl
      · exact .inl (ih.2 ⟨m, h3, h2⟩)
      · exact .inr h2
def R1 (m : Nat) : PB := palinoderef08_Reader_branch_B (TT m).1 (TT m).2.1 (TT m).2.2.1 (TT m).2.2.2.1 (TT m).2.2.2.2
def R2 (m : Nat) : PB := palinoderef08_Reader_piece_B (TT m).1 (TT m).2.1 (TT m).2.2.1 (TT m).2.2.2.1 (TT m).2.2.2.2
def R3 (m : Nat) : PG := palinoderef08_Reader_Group_B (TT m).1 (TT m).2.1 (TT m).2.2.1 (TT m).2.2.2.1 (TT m).2.2.2.2
def R4 (m : Nat) : PB := palinoderef08_Reader_Alt_B (TT m).1 (TT m).2.1 (TT m).2.2.1 (TT m).2.2.2.1 (TT m).2.2.2.2
def R5 (m : Nat) : PB := palinoderef08_Reader_extended_B (TT m).1 (TT m).2.1 (TT m).2.2.1 (TT m).2.2.2.1 (TT m).2.2.2.2
theorem tt1 (n : Nat) : (fun o x r => ∃ m, m < n ∧ R1 m o x r) = (TT n).1 := funext fun o => funext fun x => funext fun r => propext (tt_ex (T := fun n (q : RS8 × Bool × Int × RS8) => (TT n).1 q.1 q.2.1 q.2.2) (B := fun n q => R1 n q.1 q.2.1 q.2.2) (fun _ h => h) (fun _ _ => .rfl) n (o, x, r)).symm
theorem tt2 (n : Nat) : (fun o x r => ∃ m, m < n ∧ R2 m o x r) = (TT n).2.1 := funext fun o => funext fun x => funext fun r => propext (tt_ex (T := fun n (q : RS8 × Bool × Int × RS8) => (TT n).2.1 q.1 q.2.1 q.2.2) (B := fun n q => R2 n q.1 q.2.1 q.2.2) (fun _ h => h) (fun _ _ => .rfl) n (o, x, r)).symm
theorem tt3 (n : Nat) : (fun o x y r => ∃ m, m < n ∧ R3 m o x y r) = (TT n).2.2.1 := funext fun o => funext fun x => funext fun y => funext fun r => propext (tt_ex (T := fun n (q : RS8 × Int × Bool × Int × RS8) => (TT n).2.2.1 q.1 q.2.1 q.2.2.1 q.2.2.2) (B := fun n q => R3 n q.1 q.2.1 q.2.2.1 q.2.2.2) (fun _ h => h) (fun _ _ => .rfl) n (o, x, y, r)).symm
theorem tt4 (n : Nat) : (fun o x r => ∃ m, m < n ∧ R4 m o x r) = (TT n).2.2.2.1 := funext fun o => funext fun x => funext fun r => propext (tt_ex (T := fun n (q : RS8 × Bool × Int × RS8) => (TT n).2.2.2.1 q.1 q.2.1 q.2.2) (B := fun n q => R4 n q.1 q.2.1 q.2.2) (fun _ h => h) (fun _ _ => .rfl) n (o, x, r)).symm
theorem tt5 (n : Nat) : (fun o x r => ∃ m, m < n ∧ R5 m o x r) = (TT n).2.2.2.2 := funext fun o => funext fun x => funext fun r => propext (tt_ex (T := fun n (q : RS8 × Bool × Int × RS8) => (TT n).2.2.2.2 q.1 q.2.1 q.2.2) (B := fun n q => R5 n q.1 q.2.1 q.2.2) (fun _ h => h) (fun _ _ => .rfl) n (o, x, r)).symm
theorem rrec_ok : rec_palinoderef08_Reader_branch_H R1 R2 R3 R4 R5 := by
  refine ⟨fun m o x r h => ?_, fun m o x r h => ?_, fun m o x y r h => ?_, fun m o x r h => ?_, fun m o x r h => ?_⟩
  all_goals rw [tt1, tt2, tt3, tt4, tt5]; exact h
theorem tt_step {n : Nat} {o : RS8} {x : Bool} {r : Int × RS8} : R1 n o x r → (TT (n + 1)).1 o x r := fun h => .inr h
/-- Where a reader stands behind a job. -/
def fin8 (b : List UInt8) (q : Res) : RS8 := match q.2.1 with
  | [] => rst b q.2.2 (q.2.2.p : Int) 0
  | y :: _ => rst b q.2.2 y.1 y.2
theorem fin_ok {b : List UInt8} {q : Res} (h : q.2.1 = []) : fin8 b q = rst b q.2.2 (q.2.2.p : Int) 0 := by unfold fin8; rw [h]
/-- The document's reader does the same: an error is one, and the node is the same where there is none. -/
def Same8 (q : Res) (k : Int) : Prop := (q.2.1 = [] ∧ k = q.1) ∨ ∃ y : Int × Int, q.2.1 = [y] ∧ y.2 ≠ 0
abbrev FP (r : Int × RS8) := fun (ag : Int × List UInt8 × Int × Int × List ND × Int × Arr 10 Bool → Prop) (s : Int × List UInt8 × Int × Int × List ND × Int × Arr 10 Bool) => palinoderef08_Reader_piece_l8 ag s.1 s.2.1 s.2.2.1 s.2.2.2.1 s.2.2.2.2.1 s.2.2.2.2.2.1 s.2.2.2.2.2.2 r
theorem fp_no (b : List UInt8) (s : Pz) (a e k : Int) (he : e ≠ 0) (n : Nat) : FP (k, rst b s a e) (LT (FP (k, rst b s a e)) n) (k, b, a, e, s.L, (s.g : Int), s.cl) := split_ (fun h => absurd h he) fun _ => rfl
theorem numL_pos : ∀ (l : List UInt8) (n : Int) (gr : Bool), 0 ≤ n → 0 ≤ (numL n gr l).1
  | [], n, gr, h => h
  | c :: t, n, gr, h => by
    rw [numL_cons]
    by_cases h1 : 48 ≤ c.toNat ∧ c.toNat ≤ 57
    · rw [if_pos h1]
      refine numL_pos t _ _ ?_
      split <;> omega
    · rw [if_neg h1]; exact h
theorem numR_pos (b : List UInt8) (p : Nat) : 0 ≤ (numR b p).1 := by
  unfold numR
  split
  · exact Int.le_refl _
  · split
    · exact Int.le_refl _
    · exact numL_pos _ 0 false (Int.le_refl _)
/-- An interval, by the document's reader and by the program's. -/
theorem rep_intv (b : List UInt8) (k : Int) (s : Pz) (hb : b.length ≤ 1000) (hp : s.p + 2 ≤ b.length) (h42 : ¬ hasS b s.p [42] = true) :
    (∃ z : Nat, (intvR b (s.p + 2)).2.2.1 = (z : Int) ∧ z ≤ b.length ∧ (intvR b (s.p + 2)).2.2.2 = true ∧ hasS b z [92, 125] = true ∧ repeatF b k s = okR (putS (4, k, 0, (intvR b (s.p + 2)).1, (intvR b (s.p + 2)).2.1, 0, setZ) { s with p := z + 2 }))
    ∨ ((∃ s', repeatF b k s = (0, [((s.p : Int), 13)], s') ∧ s'.L = s.L ∧ s'.g = s.g ∧ s'.cl = s.cl) ∧ ((intvR b (s.p + 2)).2.2.2 = false ∨ ∃ z : Nat, (intvR b (s.p + 2)).2.2.1 = (z : Int) ∧ z ≤ b.length ∧ hasS b z [92, 125] = false)) := by
  unfold repeatF intvR
  rw [if_neg h42]
  by_cases h1 : (numR b (s.p + 2)).2.2 ≠ 0
  · rw [if_pos h1, if_pos h1]
    exact .inr ⟨⟨s, rfl, rfl, rfl, rfl⟩, .inl rfl⟩
  rw [if_neg h1, if_neg h1]
  obtain ⟨z, hz, hz1, hz2⟩ := num_next (Decidable.not_not.1 h1) hp
  have key : ∀ (lo hi : Int) (a : Nat), a ≤ b.length → ¬ (hi ≠ -1 ∧ hi < lo) → (∃ w : Nat, ((lo, hi, (a : Int), true) : Int × Int × Int × Bool).2.2.1 = (w : Int) ∧ w ≤ b.length ∧ true = true ∧ hasS b w [92, 125] = true ∧ rep2 b k lo hi s a = okR (putS (4, k, 0, lo, hi, 0, setZ) { s with p := w + 2 })) ∨ ((∃ s', rep2 b k lo hi s a = (0, [((s.p : Int), 13)], s') ∧ s'.L = s.L ∧ s'.g = s.g ∧ s'.cl = s.cl) ∧ (true = false ∨ ∃ w : Nat, ((lo, hi, (a : Int), true) : Int × Int × Int × Bool).2.2.1 = (w : Int) ∧ w ≤ b.length ∧ hasS b w [92, 125] = false)) := fun lo hi a ha hh => by
    have h2 : (!(decide (hi = -1)) && decide (hi < lo)) = false := by
      rw [Bool.eq_false_iff]
      intro e
      simp only [Bool.and_eq_true, Bool.not_eq_true', decide_eq_false_iff_not, decide_eq_true_eq] at e
      exact hh e
    unfold rep2
    rw [h2, Bool.or_false]
    cases h3 : hasS b a [92, 125] with
    | true => exact .inl ⟨a, rfl, ha, rfl, h3, by simp⟩
    | false => exact .inr ⟨⟨{ s with p := a }, by simp, rfl, rfl, rfl⟩, .inr ⟨a, rfl, ha, h3⟩⟩
  rw [hz, Int.toNat_natCast]
  by_cases h2 : b[z]? = some 44
  · rw [if_pos h2, if_pos h2]
    have hl := (List.getElem?_eq_some_iff.1 h2).1
    have h39 : (numR b (z + 1)).2.2 = 0 ∨ (numR b (z + 1)).2.2 = 9 ∨ (numR b (z + 1)).2.2 = 3 := by
      unfold numR
      split
      · exact .inr (.inl rfl)
      · split
        · exact .inr (.inr rfl)
        · exact .inl rfl
    rcases h39 with h3 | h3 | h3
    · obtain ⟨w, hw, hw1, hw2⟩ := num_next h3 hl
      have hpos : 0 ≤ (numR b (z + 1)).1 := numR_pos b (z + 1)
      by_cases h4 : (numR b (z + 1)).1 < (numR b (s.p + 2)).1
      · have c1 : (numR b (z + 1)).2.2 = 3 ∨ ((numR b (z + 1)).2.2 = 0 ∧ (numR b (z + 1)).1 < (numR b (s.p + 2)).1) := .inr ⟨h3, h4⟩
        rw [if_pos c1, if_pos h3, hw, Int.toNat_natCast]
        refine .inr ⟨⟨{ s with p := w }, ?_, rfl, rfl, rfl⟩, .inl rfl⟩
        unfold rep2
        rw [if_pos (by rw [decide_eq_false (show ¬ (numR b (z + 1)).1 = -1 by omega), decide_eq_true h4]; simp)]
      · have c1 : ¬ ((numR b (z + 1)).2.2 = 3 ∨ ((numR b (z + 1)).2.2 = 0 ∧ (numR b (z + 1)).1 < (numR b (s.p + 2)).1)) := by
          rintro (e | e)
          · omega
          · exact h4 e.2
        have c2 : ¬ (numR b (z + 1)).2.2 ≠ 0 := fun e => e h3
        rw [if_neg c1, if_neg c2, if_pos h3, hw, Int.toNat_natCast]
        exact key _ _ w hw2 (fun e => h4 e.2)
    · have c1 : ¬ ((numR b (z + 1)).2.2 = 3 ∨ ((numR b (z + 1)).2.2 = 0 ∧ (numR b (z + 1)).1 < (numR b (s.p + 2)).1)) := by
        rintro (e | e)
        · omega
        · have := e.1; omega
      have c2 : (numR b (z + 1)).2.2 ≠ 0 := by omega
      have c3 : ¬ (numR b (z + 1)).2.2 = 0 := by omega
      rw [if_neg c1, if_pos c2, if_neg c3, if_pos h3]
      have := key (numR b (s.p + 2)).1 (-1) (z + 1) hl (fun e => e.1 rfl)
      rw [show ((z + 1 : Nat) : Int) = (z : Int) + 1 by omega] at this
      exact this
    · have c1 : (numR b (z + 1)).2.2 = 3 ∨ ((numR b (z + 1)).2.2 = 0 ∧ (numR b (z + 1)).1 < (numR b (s.p + 2)).1) := .inl h3
      have c3 : ¬ (numR b (z + 1)).2.2 = 0 := by omega
      have c4 : ¬ (numR b (z + 1)).2.2 = 9 := by omega
      rw [if_pos c1, if_neg c3, if_neg c4]
      exact .inr ⟨⟨s, rfl, rfl, rfl, rfl⟩, .inl rfl⟩
  · rw [if_neg h2, if_neg h2]
    exact key _ _ z hz2 (fun e => by omega)
end Go.Proofs.Ytpddiffpanihdaa
