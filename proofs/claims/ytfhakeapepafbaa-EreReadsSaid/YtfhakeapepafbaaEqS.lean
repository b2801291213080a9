/- The document's reader of extended regular expressions: call by call; nodes that may be put. -/
import Derived.Test.YtfhakeapepafbaaRkR
namespace Go.Proofs.Ytfhakeapepafbaa
abbrev PB := RS8 → Bool → (Int × RS8) → Prop
abbrev PG := RS8 → Int → Bool → (Int × RS8) → Prop
/-- What the five functions hand back, call by call. -/
def TT : Nat → PB × PB × PG × PB × PB
  | 0 => (fun _ _ _ => False, fun _ _ _ => False, fun _ _ _ _ => False, fun _ _ _ => False, fun _ _ _ => False)
  | n + 1 => (fun o x r => (TT n).1 o x r ∨ palinoderef08_Reader_Alt_B (TT n).1 (TT n).2.1 (TT n).2.2.1 (TT n).2.2.2.1 (TT n).2.2.2.2 o x r,
    fun o x r => (TT n).2.1 o x r ∨ palinoderef08_Reader_extended_B (TT n).1 (TT n).2.1 (TT n).2.2.1 (TT n).2.2.2.1 (TT n).2.2.2.2 o x r,
    fun o x y r => (TT n).2.2.1 o x y r ∨ palinoderef08_Reader_Group_B (TT n).1 (TT n).2.1 (TT n).2.2.1 (TT n).2.2.2.1 (TT n).2.2.2.2 o x y r,
    fun o x r => (TT n).2.2.2.1 o x r ∨ palinoderef08_Reader_branch_B (TT n).1 (TT n).2.1 (TT n).2.2.1 (TT n).2.2.2.1 (TT n).2.2.2.2 o x r,
    fun o x r => (TT n).2.2.2.2 o x r ∨ palinoderef08_Reader_piece_B (TT n).1 (TT n).2.1 (TT n).2.2.1 (TT n).2.2.2.1 (TT n).2.2.2.2 o x r)
theorem tt_ex {α : Type} {T : Nat → α → Prop} {B : Nat → α → Prop} (h0 : ∀ a, ¬ T 0 a) (hs : ∀ n a, T (n + 1) a ↔ T n a ∨ B n a) (n : Nat) (a : α) : T n a ↔ ∃ m, m < n ∧ B m a := by
  induction n with
  | zero => exact ⟨fun h => (h0 a h).elim, fun ⟨m, h, _⟩ => by omega⟩
  | succ n ih =>
    rw [hs]
    constructor
    · rintro (h | h)
      · obtain ⟨m, h1, h2⟩ := ih.1 h; exact ⟨m, by omega, h2⟩
      · exact ⟨n, by omega, h⟩
    · rintro ⟨m, h1, h2⟩
      rcases (by omega : m < n ∨ m = n) with h3 | rfl
      · exact .inl (ih.2 ⟨m, h3, h2⟩)
      · exact .inr h2
def R1 (m : Nat) : PB := palinoderef08_Reader_Alt_B (TT m).1 (TT m).2.1 (TT m).2.2.1 (TT m).2.2.2.1 (TT m).2.2.2.2
def R2 (m : Nat) : PB := palinoderef08_Reader_extended_B (TT m).1 (TT m).2.1 (TT m).2.2.1 (TT m).2.2.2.1 (TT m).2.2.2.2
def R3 (m : Nat) : PG := palinoderef08_Reader_Group_B (TT m).1 (TT m).2.1 (TT m).2.2.1 (TT m).2.2.2.1 (TT m).2.2.2.2
def R4 (m : Nat) : PB := palinoderef08_Reader_branch_B (TT m).1 (TT m).2.1 (TT m).2.2.1 (TT m).2.2.2.1 (TT m).2.2.2.2
def R5 (m : Nat) : PB := palinoderef08_Reader_piece_B (TT m).1 (TT m).2.1 (TT m).2.2.1 (TT m).2.2.2.1 (TT m).2.2.2.2
theorem tt1 (n : Nat) : (fun o x r => ∃ m, m < n ∧ R1 m o x r) = (TT n).1 := funext fun o => funext fun x => funext fun r => propext (tt_ex (T := fun n (q : RS8 × Bool × Int × RS8) => (TT n).1 q.1 q.2.1 q.2.2) (B := fun n q => R1 n q.1 q.2.1 q.2.2) (fun _ h => h) (fun _ _ => .rfl) n (o, x, r)).symm
theorem tt2 (n : Nat) : (fun o x r => ∃ m, m < n ∧ R2 m o x r) = (TT n).2.1 := funext fun o => funext fun x => funext fun r => propext (tt_ex (T := fun n (q : RS8 × Bool × Int × RS8) => (TT n).2.1 q.1 q.2.1 q.2.2) (B := fun n q => R2 n q.1 q.2.1 q.2.2) (fun _ h => h) (fun _ _ => .rfl) n (o, x, r)).symm
theorem tt3 (n : Nat) : (fun o x y r => ∃ m, m < n ∧ R3 m o x y r) = (TT n).2.2.1 := funext fun o => funext fun x => funext fun y => funext fun r => propext (tt_ex (T := fun n (q : RS8 × Int × Bool × Int × RS8) => (TT n).2.2.1 q.1 q.2.1 q.2.2.1 q.2.2.2) (B := fun n q => R3 n q.1 q.2.1 q.2.2.1 q.2.2.2) (fun _ h => h) (fun _ _ => .rfl) n (o, x, y, r)).symm
theorem tt4 (n : Nat) : (fun o x r => ∃ m, m < n ∧ R4 m o x r) = (TT n).2.2.2.1 := funext fun o => funext fun x => funext fun r => propext (tt_ex (T := fun n (q : RS8 × Bool × Int × RS8) => (TT n).2.2.2.1 q.1 q.2.1 q.2.2) (B := fun n q => R4 n q.1 q.2.1 q.2.2) (fun _ h => h) (fun _ _ => .rfl) n (o, x, r)).symm
theorem tt5 (n : Nat) : (fun o x r => ∃ m, m < n ∧ R5 m o x r) = (TT n).2.2.2.2 := funext fun o => funext fun x => funext fun r => propext (tt_ex (T := fun n (q : RS8 × Bool × Int × RS8) => (TT n).2.2.2.2 q.1 q.2.1 q.2.2) (B := fun n q => R5 n q.1 q.2.1 q.2.2) (fun _ h => h) (fun _ _ => .rfl) n (o, x, r)).symm
theorem rrec_ok : rec_palinoderef08_Reader_Alt_H R1 R2 R3 R4 R5 := by
  refine ⟨fun m o x r h => ?_, fun m o x r h => ?_, fun m o x y r h => ?_, fun m o x r h => ?_, fun m o x r h => ?_⟩
  all_goals rw [tt1, tt2, tt3, tt4, tt5]; exact h
theorem tt_mono {n N : Nat} (h : n ≤ N) : (∀ o x r, (TT n).1 o x r → (TT N).1 o x r) ∧ (∀ o x r, (TT n).2.1 o x r → (TT N).2.1 o x r) ∧ (∀ o x y r, (TT n).2.2.1 o x y r → (TT N).2.2.1 o x y r) := by
  induction N with
  | zero => obtain rfl : n = 0 := by omega
            exact ⟨fun _ _ _ h => h, fun _ _ _ h => h, fun _ _ _ _ h => h⟩
  | succ N ih =>
    rcases (by omega : n ≤ N ∨ n = N + 1) with h1 | rfl
    · obtain ⟨a, b, c⟩ := ih h1
      exact ⟨fun o x r h => .inl (a o x r h), fun o x r h => .inl (b o x r h), fun o x y r h => .inl (c o x y r h)⟩
    · exact ⟨fun _ _ _ h => h, fun _ _ _ h => h, fun _ _ _ _ h => h⟩
/-! ## Nodes that may be put -/
theorem gr_in {L L' : List ND} {g g' : Nat} {R : List Int} {z : Int} (h : Gr L g L' g' R) (hz : z ∈ R) : 0 ≤ z ∧ z < (L'.length : Int) := by
  obtain ⟨N, rfl, _, a2, _⟩ := h
  have h1 := a2 z
  have h2 : 0 < R.count z := List.count_pos_iff.2 hz
  rw [List.length_append]
  split at h1 <;> omega
theorem node_rep {k lo hi a : Int} (g : Int) (hk : 0 ≤ k ∧ k < a) (ht : isTimesB lo hi = true) : isNodeB (4, k, 0, lo, hi, 0, setZ) a g = true := by
  simp [isNodeB, plainL, partsL, hk.1, hk.2, ht]
theorem node_two {kind x y a : Int} (g : Int) (hkd : kind = 2 ∨ kind = 3) (hx : 0 ≤ x ∧ x < a) (hy : 0 ≤ y ∧ y < a) : isNodeB (kind, x, y, 0, 0, 0, setZ) a g = true := by
  rcases hkd with rfl | rfl <;> simp [isNodeB, plainL, partsL, hx.1, hx.2, hy.1, hy.2]
theorem node_grp {k d a g : Int} (hk : 0 ≤ k ∧ k < a) (hd : 1 ≤ d ∧ d ≤ g) : isNodeB (5, k, 0, 0, 0, d, setZ) a g = true := by
  simp [isNodeB, plainL, partsL, hk.1, hk.2, hd.1, hd.2]
theorem node_back {d a g : Int} (hd : 1 ≤ d ∧ d ≤ g) : isNodeB (6, 0, 0, 0, 0, d, setZ) a g = true := by
  simp [isNodeB, plainL, partsL, hd.1, hd.2]
theorem node_bol (a g : Int) : isNodeB (7, 0, 0, 0, 0, 0, setZ) a g = true := by simp [isNodeB, plainL, partsL]
theorem node_eol (a g : Int) : isNodeB (8, 0, 0, 0, 0, 0, setZ) a g = true := by simp [isNodeB, plainL, partsL]
theorem fold_succ {kind : Int} (hkd : kind = 2 ∨ kind = 3) : ∀ (t : List Int) (x : Int) (s : Pz), (0 ≤ x ∧ x < (s.L.length : Int)) → (∀ y ∈ t, 0 ≤ y ∧ y < (s.L.length : Int)) → s.L.length + t.length ≤ 1000 → 0 ≤ (foldS kind t x s).1
  | [], x, s, hx, _, _ => hx.1
  | y :: t, x, s, hx, ht, hl => by
    simp only [List.length_cons] at hl
    rw [fold_cons, if_neg (by omega), put_yes (by omega) (node_two s.g hkd hx (ht y List.mem_cons_self))]
    refine fold_succ hkd t _ _ ?_ (fun z hz => ?_) ?_
    · show 0 ≤ (s.L.length : Int) ∧ (s.L.length : Int) < ((s.L ++ [_]).length : Int)
      simp; omega
    · have := ht z (List.mem_cons_of_mem _ hz)
      show 0 ≤ z ∧ z < ((s.L ++ [_]).length : Int)
      simp; omega
    · show (s.L ++ [_]).length + t.length ≤ 1000
      simp; omega
theorem cat_succ {l : List Int} {s : Pz} (hl : l ≠ []) (hv : ∀ y ∈ l, 0 ≤ y ∧ y < (s.L.length : Int)) (hc : s.L.length + l.length ≤ 1001) : 0 ≤ (catS l s).1 := by
  cases l with
  | nil => exact absurd rfl hl
  | cons x t =>
    have hx := hv x List.mem_cons_self
    simp only [List.length_cons] at hc
    rw [cat_cons, if_neg (by omega)]
    exact fold_succ (.inl rfl) t x s hx (fun y hy => hv y (List.mem_cons_of_mem _ hy)) (by omega)
theorem alt_succ {l : List Int} {s : Pz} (hl : l ≠ []) (hv : ∀ y ∈ l, 0 ≤ y ∧ y < (s.L.length : Int)) (hc : s.L.length + l.length ≤ 1001) : 0 ≤ (altS l s).1 := by
  cases l with
  | nil => exact absurd rfl hl
  | cons x t =>
    have hx := hv x List.mem_cons_self
    simp only [List.length_cons] at hc
    rw [alt_cons, if_neg (by omega)]
    exact fold_succ (.inr rfl) t x s hx (fun y hy => hv y (List.mem_cons_of_mem _ hy)) (by omega)
theorem numL_bd : ∀ (l : List UInt8) (n : Int) (gr : Bool), 0 ≤ n → n ≤ 255 → 0 ≤ (numL n gr l).1 ∧ (numL n gr l).1 ≤ 255
  | [], n, gr, h, h' => ⟨h, h'⟩
  | c :: t, n, gr, h, h' => by
    rw [numL_cons]
    by_cases h1 : 48 ≤ c.toNat ∧ c.toNat ≤ 57
    · rw [if_pos h1]
      cases hg : (gr || decide ((255 - ((c.toNat : Int) - 48)).tdiv 10 < n)) with
      | true => exact numL_bd t n true h h'
      | false =>
        have := of_decide_eq_false (Bool.or_eq_false_iff.1 hg).2
        rw [Int.tdiv_eq_ediv_of_nonneg (by omega)] at this
        exact numL_bd t _ false (by omega) (by omega)
    · rw [if_neg h1]; exact ⟨h, h'⟩
theorem numR_bd (b : List UInt8) (p : Nat) : 0 ≤ (numR b p).1 ∧ (numR b p).1 ≤ 255 := by
  unfold numR
  split
  · exact ⟨Int.le_refl _, by decide⟩
  · split
    · exact ⟨Int.le_refl _, by decide⟩
    · exact numL_bd _ 0 false (Int.le_refl _) (by decide)
theorem put_ref {b : List UInt8} {nd : ND} {s : Pz} (a : Int) (h : 0 ≤ (putS nd s).1) : palinoderef08_Reader_Put_R (rst b s a 0) nd ((putS nd s).1, rst b (putS nd s).2 a 0) := by
  obtain ⟨k, e, h1, rfl, h3, _⟩ := rput_ok' b nd s a
  rw [h3 h] at h1; exact h1
/-- Where the document's reader stands. -/
def fr9 (b : List UInt8) (q : R9) : RS8 := rst b q.2.2 (q.2.2.p : Int) q.2.1
theorem okE_yes {x : Int × Pz} (h : 0 ≤ x.1) : okE x = (x.1, 0, x.2) := if_neg (by omega)
/-- A node may be put: both do. -/
theorem put_both {b : List UInt8} {nd : ND} {s : Pz} (a : Int) (ha : a = (s.p : Int)) (hl : s.L.length < 1000) (hn : isNodeB nd s.L.length s.g = true) :
    palinoderef08_Reader_Put_R (rst b s a 0) nd ((okE (putS nd s)).1, fr9 b (okE (putS nd s))) ∧ (okE (putS nd s)).2.1 = 0 ∧ okE (putS nd s) = ((s.L.length : Int), 0, { s with L := s.L ++ [nd] }) := by
  subst ha
  have e := put_yes hl hn
  have h0 : 0 ≤ (putS nd s).1 := by rw [e]; exact Int.natCast_nonneg _
  have h := put_ref (b := b) (s.p : Int) h0
  rw [okE_yes h0, e] at *
  exact ⟨h, rfl, rfl⟩
end Go.Proofs.Ytfhakeapepafbaa
