/- What was written with backslashes is told whole. -/
import Derived.Test.YtfngfgiikpofgaaScn
import Derived.Test.YtfngfgiikpofgaaGKL2
namespace Go.Proofs.Ytfngfgiikpofgaa
theorem same_ok (a b : List UInt8) (hl : a.length ≤ 1000000) : palinoderef01_Same_R a b (decide (a = b)) := by
  refine split_ (fun h => ?_) fun h => ?_
  · exact decide_eq_false fun e : a = b => h (by rw [e])
  · have hlen : a.length = b.length := by omega
    refine loop_ (fun st m => ∃ k : Nat, k ≤ a.length ∧ m = a.length - k ∧ st = (k : Int) ∧ a.take k = b.take k) _ ⟨0, by omega, rfl, rfl, rfl⟩ ?_
    rintro st m ⟨k, hk, rfl, rfl, h2⟩
    refine split_ (fun h3 => ?_) fun h3 => ?_
    · refine at_ (by omega) (by omega) fun x hx => at_ (by omega) (by omega) fun y hy => ?_
      rw [Int.toNat_natCast] at hx hy
      refine split_ (fun h4 => ?_) fun h4 => ?_
      · refine decide_eq_false fun e : a = b => h4 ?_
        rw [e, hy] at hx
        injection hx with hx
        rw [hx]
      · have hxy : x = y := UInt8.toNat_inj.1 (by omega)
        refine inR_ (by omega) ⟨a.length - (k + 1), by omega, k + 1, by omega, rfl, by simp, ?_⟩
        rw [List.take_add_one, List.take_add_one, h2, hx, hy, hxy]
    · rw [List.take_of_length_le (by omega), List.take_of_length_le (by omega)] at h2
      exact decide_eq_true h2
theorem copy_ok (l : List UInt8) (hl : l.length ≤ 1000000) : palinoderef01_Copy_R l l := room_ (by simp; omega) (by omega) (List.nil_append l).symm
theorem bent_ok (b : List UInt8) (d : UInt8) (hb : b.length ≤ 1000) : palinodelaw14_bent_R b d (bentL d b) := by
  refine loop_ (fun st m => ∃ k : Nat, k ≤ b.length ∧ m = b.length - k ∧ st.2 = (k : Int) ∧ st.1 = bentL d (b.take k)) b.length ⟨0, by omega, rfl, rfl, rfl⟩ ?_
  rintro ⟨o, i⟩ m ⟨k, hk, rfl, h1, h2⟩
  simp only at h1 h2
  subst h1; subst h2
  show palinodelaw14_bent_l1 b d _ (bentL d (b.take k)) (k : Int) _
  have hl := bentL_len d (b.take k)
  rw [List.length_take] at hl
  refine split_ (fun h => ?_) fun h => ?_
  · have hkl : k < b.length := by omega
    have hc := List.getElem?_eq_getElem hkl
    generalize b[k] = c at hc
    have hsn := bentL_snoc (d := d) hc
    have same : ∀ y, b[(k : Int).toNat]? = some y → y = c := fun y hy => by
      rw [Int.toNat_natCast, hc] at hy; exact (Option.some.inj hy).symm
    have j2 : ∀ o, o.length ≤ 10000 → o ++ [c] = bentL d (b.take (k + 1)) → palinodelaw14_bent_j2 (k : Int) b (fun s' => ∃ m', m' < b.length - k ∧ ∃ k : Nat, k ≤ b.length ∧ m' = b.length - k ∧ s'.2 = (k : Int) ∧ s'.1 = bentL d (b.take k)) o (bentL d b) := by
      intro o ho he
      refine at_ (by omega) (by omega) fun y hy => ?_
      obtain rfl := same y hy
      exact room_ (by simp; omega) (by omega) (inR_ (by omega) ⟨b.length - (k + 1), by omega, k + 1, by omega, rfl, by simp, he⟩)
    have yes : (c.toNat = 92 ∨ c.toNat = 10 ∨ c.toNat = d.toNat) → palinodelaw14_bent_j3 (bentL d (b.take k)) (k : Int) b (fun s' => ∃ m', m' < b.length - k ∧ ∃ k : Nat, k ≤ b.length ∧ m' = b.length - k ∧ s'.2 = (k : Int) ∧ s'.1 = bentL d (b.take k)) true (bentL d b) := by
      intro hs
      refine split_ (fun _ => room_ (by simp; omega) (by omega) (j2 _ (by simp; omega) ?_)) fun h => absurd rfl h
      rw [hsn]
      unfold bentC
      rw [if_pos hs, List.append_assoc]; rfl
    refine at_ (by omega) (by omega) fun y hy => ?_
    obtain rfl := same y hy
    refine split_ (fun h1 => yes (by omega)) fun h1 => at_ (by omega) (by omega) fun z hz => ?_
    obtain rfl := same z hz
    refine split_ (fun h2 => yes (by omega)) fun h2 => at_ (by omega) (by omega) fun w hw => ?_
    obtain rfl := same w hw
    by_cases h3 : (w.toNat : Int) = (d.toNat : Int)
    · rw [decide_eq_true h3]; exact yes (by omega)
    · rw [decide_eq_false h3]
      refine split_ (fun h => by cases h) fun _ => j2 _ (by omega) ?_
      rw [hsn]
      unfold bentC
      rw [if_neg (by omega)]
  · rw [List.take_of_length_le (by omega)]
def line (l : List UInt8) : List UInt8 := l.takeWhile (fun c => !(decide ((c.toNat : Int) = 10)))
theorem while_ok (pre more : List UInt8) (h1 : pre.length ≤ 10000) (h2 : more.length ≤ 10000) : ∃ f : Nat, (pre.length ≤ f ∧ f ≤ (pre ++ more).length) ∧ scan_Cursor_while_R (pre ++ more, (pre.length : Int)) (line more, (pre ++ more, (f : Int))) := by
  have key : ∀ k, k ≤ more.length → line more = more.take k → (k < more.length → ∃ c, more[k]? = some c ∧ c.toNat = 10) → True := fun _ _ _ _ => trivial
  clear key
  let f := pre.length + (line more).length
  have hpf : (line more).length ≤ more.length := (List.takeWhile_sublist _).length_le
  have hll : (pre ++ more).length = pre.length + more.length := List.length_append
  refine ⟨f, ⟨Nat.le_add_right _ _, by show pre.length + _ ≤ _; omega⟩, ?_⟩
  refine loop_ (fun st m => ∃ k : Nat, k ≤ more.length ∧ m = more.length - k ∧ st = ((pre.length + k : Nat) : Int) ∧ line more = more.take k ++ line (more.drop k)) more.length ⟨0, by omega, rfl, rfl, rfl⟩ ?_
  rintro st m ⟨k, hk, rfl, rfl, hl⟩
  have stop : line (more.drop k) = [] → scan_Cursor_while_j1 (pre ++ more, (pre.length : Int)) ((pre.length + k : Nat) : Int) (line more, (pre ++ more, (f : Int))) := by
    intro hs
    rw [hs, List.append_nil] at hl
    have hf : f = pre.length + k := by show pre.length + (line more).length = _; rw [hl, List.length_take, Nat.min_eq_left hk]
    have ht : ((pre ++ more).take ((pre.length + k : Nat) : Int).toNat).drop (pre.length : Int).toNat = line more := by
      rw [Int.toNat_natCast, Int.toNat_natCast, List.take_length_add_append, List.drop_left, hl]
    refine ⟨⟨by omega, by omega, by show _ ≤ ((pre ++ more).length : Int); omega⟩, line more, ?_, by rw [hf]⟩
    show slices_Clone_R (((pre ++ more).take ((pre.length + k : Nat) : Int).toNat).drop (pre.length : Int).toNat) _
    rw [ht]
    exact clone_ok _ (by omega)
  refine split_ (fun h => ?_) fun h => ?_
  · have h : ((pre.length + k : Nat) : Int) < ((pre ++ more).length : Int) := h
    have hkl : k < more.length := by omega
    have hc := List.getElem?_eq_getElem hkl
    have hd := List.drop_eq_getElem_cons hkl
    generalize more[k] = c at hc hd
    refine at_ (by omega) h fun y hy => ⟨_, rfl, ?_⟩
    have hy : (pre ++ more)[((pre.length + k : Nat) : Int).toNat]? = some y := hy
    rw [Int.toNat_natCast, List.getElem?_append_right (by omega), Nat.add_sub_cancel_left, hc] at hy
    obtain rfl := Option.some.inj hy
    rw [hd] at hl
    unfold line at hl
    rw [List.takeWhile_cons] at hl
    refine split_ (fun h3 => inR_ (by omega) ⟨more.length - (k + 1), by omega, k + 1, by omega, rfl, by omega, ?_⟩) fun h3 => stop ?_
    · rw [if_pos h3] at hl
      unfold line
      rw [hl, List.take_add_one, hc]
      simp
    · rw [hd]
      unfold line
      rw [List.takeWhile_cons, if_neg h3]
  · have h : ¬ ((pre.length + k : Nat) : Int) < ((pre ++ more).length : Int) := h
    refine stop ?_
    rw [List.drop_eq_nil_of_le (by omega)]; rfl
theorem next_ok (l : List UInt8) (f : Nat) (hf : f ≤ l.length) (hl : l.length ≤ 100000) : ∃ y, scan_Cursor_Next_R (l, (f : Int)) y := by
  by_cases h : f = l.length
  · subst h
    refine ⟨((0 : UInt8), false, (l, (l.length : Int))), _, split_ (fun _ => rfl) fun h => absurd rfl h, split_ (fun h => by cases h) fun _ => rfl⟩
  · have hx := List.getElem?_eq_getElem (show f < l.length by omega)
    refine ⟨(l[f]'(by omega), true, (l, (f : Int) + 1)), (l[f]'(by omega), true), split_ (fun h1 => ?_) fun h1 => ⟨Int.natCast_nonneg _, l[f]'(by omega), hx, rfl⟩, split_ (fun _ => inR_ (by omega) rfl) fun h => absurd rfl h⟩
    have h1 : (f : Int) = (l.length : Int) := h1
    omega
theorem rest_ok (pre more : List UInt8) (h1 : pre.length ≤ 10000) (h2 : more.length ≤ 10000) : ∃ o, scan_Cursor_Rest_R (pre ++ more, (pre.length : Int)) (line more, o) := by
  obtain ⟨f, ⟨hf1, hf2⟩, hw⟩ := while_ok pre more h1 h2
  have hll : (pre ++ more).length = pre.length + more.length := List.length_append
  obtain ⟨y, hy⟩ := next_ok (pre ++ more) f hf2 (by omega)
  exact ⟨_, _, hw, y, hy, rfl⟩
theorem until_true (b more : List UInt8) (d : UInt8) : palinodelaw14_ScanUntil_R b more d true := by
  have aw : palinodelaw14_ScanUntil_j1 b d more true true := split_ (fun _ => ⟨true, awake_ok, rfl⟩) fun h => absurd rfl h
  refine split_ (fun _ => aw) fun h1 => split_ (fun _ => aw) fun h2 => ⟨_, rdelim_ok d, ?_⟩
  cases hd : delim d.toNat with
  | false => exact aw
  | true =>
    have hl := bentL_len d b
    refine split_ (fun h => by cases h) fun _ => ?_
    refine ⟨_, bent_ok b d (by omega), _, copy_ok _ (by omega), room_ (by simp; omega) (by omega) (room_ (by simp; omega) (by omega) ?_)⟩
    have ha : bentL d b ++ [d] ++ more = bentL d b ++ d :: more := by rw [List.append_assoc]; rfl
    rw [ha]
    refine ⟨_, open_ok _ (by simp; omega), _, until_ok b more d hd (by omega) (by omega), split_ (fun _ => ?_) fun h => absurd rfl h⟩
    refine ⟨_, same_ok (bentL d b) (bentL d b) (by omega), split_ (fun _ => ?_) fun h => absurd (decide_eq_true rfl) h⟩
    refine ⟨_, rfl, inR_ (by omega) (split_ (fun _ => ?_) fun h => absurd rfl h)⟩
    obtain ⟨o1, hr1⟩ := rest_ok [] more (by simp) (by omega)
    obtain ⟨o2, hr2⟩ := rest_ok (bentL d b ++ [d]) more (by simp; omega) (by omega)
    rw [ha, show (((bentL d b ++ [d]).length : Nat) : Int) = ((bentL d b).length : Int) + 1 by simp] at hr2
    refine ⟨_, open_ok more (by omega), _, hr1, _, hr2, _, same_ok _ _ ?_, split_ (fun _ => ⟨true, awake_ok, rfl⟩) fun h => absurd (decide_eq_true rfl) h⟩
    have : (line more).length ≤ more.length := (List.takeWhile_sublist _).length_le
    show (line more).length ≤ _
    omega
theorem until_law (b more : List UInt8) (d : UInt8) : Con Try.prog 5 [.sl 1 none (List.map eb b), .sl 1 none (List.map eb more), .v (.int .u8 (d.toNat : Int))] [] [] (Ret (.v (.bool true))) := palinodelaw14_ScanUntil_con b more d true (until_true b more d)
end Go.Proofs.Ytfngfgiikpofgaa
