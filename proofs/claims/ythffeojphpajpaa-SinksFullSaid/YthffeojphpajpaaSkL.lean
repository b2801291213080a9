/- What sinks hold. -/
import Derived.Test.YthffeojphpajpaaPl
import Derived.Test.YthffeojphpajpaaGK
namespace Go.Proofs.Ythffeojphpajpaa
def sinkW (xs : List UInt8) (sh : Bool) (m : Int) (ys : List UInt8) (short : Bool) : List UInt8 × Bool × Int :=
  let all := xs ++ (if sh then [10] else []) ++ ys
  if m < (all.length : Int) then (xs, sh, 7) else (all, short, 0)
def lnBytes (ys : List UInt8) (nl : Bool) : List UInt8 := ys ++ if nl then [10] else []
def sinkLines (m : Int) : List UInt8 → Bool → List (List UInt8 × Bool) → List UInt8 × Bool × Int
  | xs, sh, [] => (xs, sh, 0)
  | xs, sh, (b, nl) :: ls =>
    let r := sinkW xs sh m (lnBytes b nl) (!nl)
    if r.2.2 = 0 then sinkLines m r.1 r.2.1 ls else r
def sizeLn (ls : List (List UInt8 × Bool)) : Nat := (ls.map fun x => x.1.length + 2).sum
theorem sinkW_or (xs : List UInt8) (sh : Bool) (m : Int) (ys : List UInt8) (short : Bool) : sinkW xs sh m ys short = (xs, sh, 7) ∨ sinkW xs sh m ys short = (xs ++ (if sh then [10] else []) ++ ys, short, 0) := by
  unfold sinkW
  rcases Classical.em (m < ((xs ++ (if sh then [10] else []) ++ ys).length : Int)) with h | h
  · exact .inl (if_pos h)
  · exact .inr (if_neg h)
theorem sinkW_err (xs : List UInt8) (sh : Bool) (m : Int) (ys : List UInt8) (short : Bool) : (sinkW xs sh m ys short).2.2 = 0 ∨ (sinkW xs sh m ys short).2.2 = 7 := by
  rcases sinkW_or xs sh m ys short with h | h <;> rw [h]
  · exact .inr rfl
  · exact .inl rfl
theorem sinkW_len (xs : List UInt8) (sh : Bool) (m : Int) (b : List UInt8) (nl short : Bool) : (sinkW xs sh m (lnBytes b nl) short).1.length ≤ xs.length + b.length + 2 := by
  rcases sinkW_or xs sh m (lnBytes b nl) short with h | h <;> rw [h]
  · simp only []; omega
  · unfold lnBytes; cases sh <;> cases nl <;> simp <;> omega
theorem sinkLines_append (m : Int) : ∀ (xs : List UInt8) (sh : Bool) (ls ls2 : List (List UInt8 × Bool)), sinkLines m xs sh (ls ++ ls2) =
    if (sinkLines m xs sh ls).2.2 = 0 then sinkLines m (sinkLines m xs sh ls).1 (sinkLines m xs sh ls).2.1 ls2 else sinkLines m xs sh ls
  | xs, sh, [], ls2 => by simp [sinkLines]
  | xs, sh, (b, nl) :: ls, ls2 => by
    rw [List.cons_append, sinkLines, sinkLines]
    rcases Classical.em ((sinkW xs sh m (lnBytes b nl) (!nl)).2.2 = 0) with h | h
    · rw [if_pos h, if_pos h]; exact sinkLines_append m _ _ ls ls2
    · rw [if_neg h, if_neg h, if_neg h]
theorem sinkLines_one (m : Int) (xs : List UInt8) (sh : Bool) (b : List UInt8) (nl : Bool) : sinkLines m xs sh [(b, nl)] = sinkW xs sh m (lnBytes b nl) (!nl) := by
  simp only [sinkLines]
  rcases sinkW_or xs sh m (lnBytes b nl) (!nl) with h | h <;> rw [h] <;> rfl
theorem sinkLines_snoc (m : Int) (ls : List (List UInt8 × Bool)) (b : List UInt8) (nl : Bool) : sinkLines m [] false (ls ++ [(b, nl)]) =
    if (sinkLines m [] false ls).2.2 = 0 then sinkW (sinkLines m [] false ls).1 (sinkLines m [] false ls).2.1 m (lnBytes b nl) (!nl) else sinkLines m [] false ls := by
  rw [sinkLines_append, sinkLines_one]
theorem sinkLines_err (m : Int) : ∀ (xs : List UInt8) (sh : Bool) (ls : List (List UInt8 × Bool)), (sinkLines m xs sh ls).2.2 = 0 ∨ (sinkLines m xs sh ls).2.2 = 7
  | _, _, [] => .inl rfl
  | xs, sh, (b, nl) :: ls => by
    rw [sinkLines]
    rcases Classical.em ((sinkW xs sh m (lnBytes b nl) (!nl)).2.2 = 0) with h | h
    · rw [if_pos h]; exact sinkLines_err m _ _ ls
    · rw [if_neg h]; exact sinkW_err _ _ _ _ _
theorem sinkLines_fit (m : Int) : ∀ (xs : List UInt8) (sh : Bool) (ls : List (List UInt8 × Bool)), (xs.length : Int) ≤ m → ((sinkLines m xs sh ls).1.length : Int) ≤ m
  | _, _, [], h => h
  | xs, sh, (b, nl) :: ls, h => by
    have h1 : ((sinkW xs sh m (lnBytes b nl) (!nl)).1.length : Int) ≤ m := by
      unfold sinkW
      rcases Classical.em (m < ((xs ++ (if sh then [10] else []) ++ lnBytes b nl).length : Int)) with h2 | h2
      · dsimp only; rw [if_pos h2]; exact h
      · dsimp only; rw [if_neg h2]; exact Int.not_lt.1 h2
    rw [sinkLines]
    rcases Classical.em ((sinkW xs sh m (lnBytes b nl) (!nl)).2.2 = 0) with h2 | h2
    · rw [if_pos h2]; exact sinkLines_fit m _ _ ls h1
    · rw [if_neg h2]; exact h1
theorem sinkLines_len (m : Int) : ∀ (xs : List UInt8) (sh : Bool) (ls : List (List UInt8 × Bool)), (sinkLines m xs sh ls).1.length ≤ xs.length + sizeLn ls
  | xs, _, [] => Nat.le_add_right _ _
  | xs, sh, (b, nl) :: ls => by
    have h1 := sinkW_len xs sh m b nl (!nl)
    have h3 : sizeLn ((b, nl) :: ls) = b.length + 2 + sizeLn ls := by simp [sizeLn]
    rw [sinkLines, h3]
    rcases Classical.em ((sinkW xs sh m (lnBytes b nl) (!nl)).2.2 = 0) with h2 | h2
    · rw [if_pos h2]
      have := sinkLines_len m (sinkW xs sh m (lnBytes b nl) (!nl)).1 (sinkW xs sh m (lnBytes b nl) (!nl)).2.1 ls
      omega
    · rw [if_neg h2]; omega
def wantTo (ls : List (List UInt8 × Bool)) : Nat → List UInt8
  | 0 => []
  | k + 1 => wantTo ls k ++ match ls[k]? with
    | some (b, nl) => b ++ if nl || decide (k + 1 < ls.length) then [10] else []
    | none => []
theorem wantTo_succ {ls : List (List UInt8 × Bool)} {k : Nat} {b : List UInt8} {nl : Bool} (h : ls[k]? = some (b, nl)) : wantTo ls (k + 1) = wantTo ls k ++ (b ++ if nl || decide (k + 1 < ls.length) then [10] else []) := by rw [wantTo, h]
theorem take_snoc_of {α : Type} {l : List α} {k : Nat} {x : α} (h : l[k]? = some x) : l.take (k + 1) = l.take k ++ [x] := by
  rw [List.take_add_one, h]; rfl
theorem sink_want {ls : List (List UInt8 × Bool)} (hn : ls.length ≤ 40) (hb : ∀ x ∈ ls, x.1.length ≤ 60) : ∀ k, k ≤ ls.length → ∃ bs sh, sinkLines 5000 [] false (ls.take k) = (bs, sh, 0) ∧
    wantTo ls k = bs ++ (if sh && decide (k < ls.length) then [10] else []) ∧ bs.length ≤ 62 * k ∧ (k = 0 → sh = false) ∧ ∀ j b nl, k = j + 1 → ls[j]? = some (b, nl) → sh = !nl
  | 0, _ => ⟨[], false, rfl, rfl, Nat.le_refl _, fun _ => rfl, fun _ _ _ h => by omega⟩
  | k + 1, hk => by
    obtain ⟨bs, sh, h1, h2, h3, _, _⟩ := sink_want hn hb k (by omega)
    obtain ⟨⟨b, nl⟩, hx⟩ : ∃ x, ls[k]? = some x := ⟨_, List.getElem?_eq_getElem (by omega)⟩
    have hbl : b.length ≤ 60 := hb _ (List.mem_of_getElem? hx)
    have hlen : (bs ++ (if sh then [10] else []) ++ lnBytes b nl).length ≤ bs.length + b.length + 2 := by unfold lnBytes; cases sh <;> cases nl <;> simp <;> omega
    have hw : sinkW bs sh 5000 (lnBytes b nl) (!nl) = (bs ++ (if sh then [10] else []) ++ lnBytes b nl, !nl, 0) := by
      unfold sinkW
      exact if_neg (by omega)
    refine ⟨bs ++ (if sh then [10] else []) ++ lnBytes b nl, !nl, ?_, ?_, by omega, fun h => by omega, fun j b' nl' hj hx' => ?_⟩
    · rw [take_snoc_of hx, sinkLines_snoc, h1]; exact hw
    · have hd : decide (k < ls.length) = true := decide_eq_true hk
      rw [wantTo_succ hx, h2, hd]
      unfold lnBytes
      cases sh <;> cases nl <;> simp
    · have : j = k := by omega
      subst this
      rw [hx] at hx'
      injection hx' with e
      injection e with _ e
      rw [e]
abbrev SW := Int × List UInt8 × Bool
def asR (r : List UInt8 × Bool × Int) : SW := (r.2.2, r.1, r.2.1)
theorem write_ok (sh : Bool) (m : Int) (xs ys : List UInt8) (short : Bool) (hl : xs.length + ys.length ≤ 1000000) : sinks_Sink_write_R sh m xs ys short (asR (sinkW xs sh m ys short)) := by
  have key : ∀ zs : List UInt8, zs = xs ++ (if sh then [10] else []) → sinks_Sink_write_j1 ys xs sh short m zs (asR (sinkW xs sh m ys short)) := fun zs hz => by
    have hzl : zs.length ≤ xs.length + 1 := by rw [hz, List.length_append]; cases sh <;> simp
    have htk : (zs ++ ys).take xs.length = xs := by rw [hz, List.append_assoc, List.take_left]
    have hge : xs.length ≤ (zs ++ ys).length := by rw [hz, List.append_assoc, List.length_append]; omega
    refine room_ (by omega) (by omega) ?_
    by_cases h : m < ((zs ++ ys).length : Int)
    · refine ⟨(xs, 7, sh), split_ (fun _ => ⟨⟨by omega, by omega⟩, by rw [Int.toNat_natCast, htk]⟩) fun h' => absurd h h', ?_⟩
      unfold sinkW asR
      simp only
      rw [← hz, if_pos h]
    · refine ⟨(zs ++ ys, 0, short), split_ (fun h' => absurd h' h) fun _ => rfl, ?_⟩
      unfold sinkW asR
      simp only
      rw [← hz, if_neg h]
  refine split_ (fun h => room_ (by simp; omega) (by omega) (key _ (by rw [h]; rfl))) fun h => key _ ?_
  rw [show sh = false from by simpa using h]; simp
theorem clone_ok (l : List UInt8) (hl : l.length ≤ 1000000) : slices_Clone_R l l := by
  intro b hb
  refine split_ (fun h => ?_) fun h => room_ (by rw [List.length_nil]; omega) (by omega) rfl
  by_cases hl0 : l = []
  · exact hl0
  · rw [hb hl0] at h; cases h
theorem line_ok (sh : Bool) (m : Int) (xs : List UInt8) (ln : List UInt8 × Bool) (hl : xs.length + ln.1.length ≤ 900000) : sinks_Sink_Line_R sh m xs ln (asR (sinkW xs sh m (lnBytes ln.1 ln.2) (!ln.2))) := by
  refine split_ (fun h => ?_) fun h => ?_
  · have h2 : ln.2 = false := by simpa using h
    rw [h2, show lnBytes ln.1 false = ln.1 from List.append_nil _]
    exact ⟨_, write_ok sh m xs ln.1 true (by omega), rfl⟩
  · have h2 : ln.2 = true := Decidable.of_not_not h
    rw [h2]
    exact ⟨_, clone_ok ln.1 (by omega), room_ (by rw [List.length_singleton]; omega) (by omega) ⟨_, write_ok sh m xs (ln.1 ++ [10]) false (by rw [List.length_append, List.length_singleton]; omega), rfl⟩⟩
theorem sizeLn_le (ls : List (List UInt8 × Bool)) (hb : ∀ x ∈ ls, x.1.length ≤ 60) : sizeLn ls ≤ 62 * ls.length := by
  induction ls with
  | nil => exact Nat.le_refl _
  | cons x ls ih =>
    have h1 := hb x (by simp)
    have h2 := ih fun y hy => hb y (by simp [hy])
    unfold sizeLn at h2 ⊢
    rw [List.map_cons, List.sum_cons, List.length_cons]
    omega
theorem take_mem {ls : List (List UInt8 × Bool)} (hb : ∀ x ∈ ls, x.1.length ≤ 60) (k : Nat) : ∀ x ∈ ls.take k, x.1.length ≤ 60 := fun x hx => hb x (List.mem_of_mem_take hx)
/-- Lines, one by one. -/
theorem lines_ok (m : Int) (ls : List (List UInt8 × Bool)) (hn : ls.length ≤ 40) (hb : ∀ x ∈ ls, x.1.length ≤ 60) : sinks_Sink_Lines_R false m [] ls (asR (sinkLines m [] false ls)) := by
  refine loop_ (fun (st : Int × Bool × List UInt8) j => ∃ k : Nat, k ≤ ls.length ∧ j = ls.length - k ∧ st = ((k : Int), (sinkLines m [] false (ls.take k)).2.1, (sinkLines m [] false (ls.take k)).1) ∧ (sinkLines m [] false (ls.take k)).2.2 = 0) ls.length ⟨0, by omega, rfl, rfl, rfl⟩ ?_
  rintro _ j ⟨k, hk, rfl, rfl, h0⟩
  show sinks_Sink_Lines_l1 ls m _ (k : Int) _ _ _
  have hsz := sinkLines_len m [] false (ls.take k)
  have hsl := sizeLn_le (ls.take k) (take_mem hb k)
  rw [List.length_take] at hsl
  rw [List.length_nil] at hsz
  refine split_ (fun h => at_ (by omega) (by omega) fun x hx => ?_) fun h => ?_
  · rw [Int.toNat_natCast] at hx
    have hx60 := hb x (List.mem_of_getElem? hx)
    have hsn := sinkLines_snoc m (ls.take k) x.1 x.2
    rw [← take_snoc_of (show ls[k]? = some (x.1, x.2) from hx), if_pos h0] at hsn
    refine ⟨_, line_ok (sinkLines m [] false (ls.take k)).2.1 m (sinkLines m [] false (ls.take k)).1 x (by omega), split_ (fun h1 => ?_) fun h1 => inR_ (by omega) ⟨ls.length - (k + 1), by omega, k + 1, by omega, rfl, ?_, ?_⟩⟩
    · have h1 : ¬ (sinkW (sinkLines m [] false (ls.take k)).1 (sinkLines m [] false (ls.take k)).2.1 m (lnBytes x.1 x.2) (!x.2)).2.2 = 0 := h1
      rw [← hsn] at h1
      have hall : sinkLines m [] false ls = sinkLines m [] false (ls.take (k + 1)) := by
        have e := sinkLines_append m [] false (ls.take (k + 1)) (ls.drop (k + 1))
        rw [List.take_append_drop, if_neg h1] at e
        exact e
      rw [hall, hsn]
    · rw [hsn]; try rfl
    · rw [hsn]; exact Decidable.of_not_not h1
  · have : k = ls.length := by omega
    subst this
    rw [List.take_length] at h0 ⊢
    refine Prod.ext ?_ rfl
    show (sinkLines m [] false ls).2.2 = 0
    exact h0
theorem skawake : palinodelaw19_awake_R true := palinodelaw19_awake_ok (fuel := 50) (by kernel_rfl)
end Go.Proofs.Ythffeojphpajpaa
