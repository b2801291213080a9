/- Line by line a cursor tells the whole text. -/
import Derived.Test.YtfngfgiikpofgaaScU
import Derived.Test.YtfngfgiikpofgaaGKL4
namespace Go.Proofs.Ytfngfgiikpofgaa
theorem while_all (pre more : List UInt8) (h1 : pre.length ≤ 10000) (h2 : more.length ≤ 10000) : scan_Cursor_while_R (pre ++ more, (pre.length : Int)) (line more, (pre ++ more, ((pre.length + (line more).length : Nat) : Int))) := by
  generalize hfd : pre.length + (line more).length = f
  have hpf : (line more).length ≤ more.length := (List.takeWhile_sublist _).length_le
  have hll : (pre ++ more).length = pre.length + more.length := List.length_append
  refine loop_ (fun st m => ∃ k : Nat, k ≤ more.length ∧ m = more.length - k ∧ st = ((pre.length + k : Nat) : Int) ∧ line more = more.take k ++ line (more.drop k)) more.length ⟨0, by omega, rfl, rfl, rfl⟩ ?_
  rintro st m ⟨k, hk, rfl, rfl, hl⟩
  have stop : line (more.drop k) = [] → scan_Cursor_while_j1 (pre ++ more, (pre.length : Int)) ((pre.length + k : Nat) : Int) (line more, (pre ++ more, (f : Int))) := by
    intro hs
    rw [hs, List.append_nil] at hl
    have hf : f = pre.length + k := by rw [← hfd, hl, List.length_take, Nat.min_eq_left hk]
    have ht : ((pre ++ more).take ((pre.length + k : Nat) : Int).toNat).drop (pre.length : Int).toNat = line more := by
      rw [Int.toNat_natCast, Int.toNat_natCast, List.take_length_add_append, List.drop_left, hl]
    refine ⟨⟨by omega, by omega, by show _ ≤ ((pre ++ more).length : Int); omega⟩, line more, ?_, by rw [hf]⟩
    show slices_Clone_R (((pre ++ more).take ((pre.length + k : Nat) : Int).toNat).drop (pre.length : Int).toNat) _
    rw [ht]
    exact clone_ok _ (by omega)
  refine split_ (fun h => ?_) fun h => ?_
  · have h : ((pre.length + k : Nat) : Int) < ((pre ++ more).length : Int) := h
    have hkl : k < more.length := by omega
    have hc := List.getElem?_eq_getElem hkl
    have hd := List.drop_eq_getElem_cons hkl
    generalize more[k] = c at hc hd
    refine at_ (by omega) h fun y hy => ⟨_, rfl, ?_⟩
    have hy : (pre ++ more)[((pre.length + k : Nat) : Int).toNat]? = some y := hy
    rw [Int.toNat_natCast, List.getElem?_append_right (by omega), Nat.add_sub_cancel_left, hc] at hy
    obtain rfl := Option.some.inj hy
    rw [hd] at hl
    unfold line at hl
    rw [List.takeWhile_cons] at hl
    refine split_ (fun h3 => inR_ (by omega) ⟨more.length - (k + 1), by omega, k + 1, by omega, rfl, by omega, ?_⟩) fun h3 => stop ?_
    · rw [if_pos h3] at hl
      unfold line
      rw [hl, List.take_add_one, hc]
      simp
    · rw [hd]
      unfold line
      rw [List.takeWhile_cons, if_neg h3]
  · have h : ¬ ((pre.length + k : Nat) : Int) < ((pre ++ more).length : Int) := h
    refine stop ?_
    rw [List.drop_eq_nil_of_le (by omega)]; rfl
theorem line_next : ∀ (l : List UInt8) (c : UInt8), l[(line l).length]? = some c → c.toNat = 10
  | [], c, h => by simp [line] at h
  | a :: l, c, h => by
    unfold line at h
    rw [List.takeWhile_cons] at h
    by_cases ha : (a.toNat : Int) = 10
    · rw [if_neg (by rw [decide_eq_true ha]; decide)] at h
      obtain rfl : a = c := Option.some.inj h
      omega
    · rw [if_pos (by rw [decide_eq_false ha]; rfl), List.length_cons, List.getElem?_cons_succ] at h
      exact line_next l c h
theorem line_no : ∀ (l : List UInt8) (j : Nat) (x : UInt8), j < (line l).length → l[j]? = some x → x.toNat ≠ 10
  | [], j, x, hj, h => by simp at h
  | a :: l, j, x, hj, h => by
    unfold line at hj
    rw [List.takeWhile_cons] at hj
    by_cases ha : (a.toNat : Int) = 10
    · rw [if_neg (by rw [decide_eq_true ha]; decide)] at hj
      exact absurd hj (Nat.not_lt_zero _)
    · rw [if_pos (by rw [decide_eq_false ha]; rfl), List.length_cons] at hj
      cases j with
      | zero =>
        obtain rfl : a = x := Option.some.inj h
        omega
      | succ j =>
        rw [List.getElem?_cons_succ] at h
        exact line_no l j x (by unfold line; omega) h
theorem line_take (l : List UInt8) : l.take (line l).length = line l := (List.prefix_iff_eq_take.1 (List.takeWhile_prefix _)).symm
/-- A line, and where the next one begins. -/
theorem rest_all (T : List UInt8) (f : Nat) (hf : f < T.length) (hT : T.length ≤ 10000) : ∃ e : Nat, f ≤ e ∧ e ≤ T.length ∧ (∀ j x, f ≤ j → j < e → T[j]? = some x → x.toNat ≠ 10) ∧ (∀ x, T[e]? = some x → x.toNat = 10) ∧
    scan_Cursor_Rest_R (T, (f : Int)) ((T.take e).drop f, (T, if e < T.length then (e : Int) + 1 else (e : Int))) := by
  have hw := while_all (T.take f) (T.drop f) (by rw [List.length_take]; omega) (by rw [List.length_drop]; omega)
  have hn := line_next (T.drop f)
  have hno := line_no (T.drop f)
  have hlt := line_take (T.drop f)
  have hle : (line (T.drop f)).length ≤ (T.drop f).length := (List.takeWhile_sublist _).length_le
  rw [List.length_drop] at hle
  rw [List.take_append_drop, List.length_take, Nat.min_eq_left (by omega)] at hw
  refine ⟨f + (line (T.drop f)).length, by omega, by omega, fun j x h1 h2 hx => ?_, fun x hx => ?_, ?_⟩
  · exact hno (j - f) x (by omega) (by rw [List.getElem?_drop, show f + (j - f) = j by omega]; exact hx)
  · exact hn x (by rw [List.getElem?_drop]; exact hx)
  · have hb : (T.take (f + (line (T.drop f)).length)).drop f = line (T.drop f) := by
      rw [List.drop_take, Nat.add_sub_cancel_left, hlt]
    rw [hb]
    have hel : f + (line (T.drop f)).length ≤ T.length := by omega
    generalize f + (line (T.drop f)).length = e at *
    by_cases he : e < T.length
    · rw [if_pos he]
      have hx := List.getElem?_eq_getElem he
      refine ⟨_, hw, (T[e], true, (T, (e : Int) + 1)), ⟨(T[e], true), split_ (fun h1 => ?_) fun h1 => ⟨Int.natCast_nonneg _, T[e], hx, rfl⟩, split_ (fun _ => inR_ (by show -9223372036854775808 ≤ (e : Int) + 1 ∧ (e : Int) + 1 ≤ 9223372036854775807; omega) rfl) fun h => absurd rfl h⟩, rfl⟩
      have h1 : (e : Int) = (T.length : Int) := h1
      omega
    · rw [if_neg he]
      have he : e = T.length := by omega
      exact ⟨_, hw, ((0 : UInt8), false, (T, (e : Int))), ⟨((0 : UInt8), false), split_ (fun _ => rfl) fun h => absurd (by show (e : Int) = (T.length : Int); omega) h, split_ (fun h => by cases h) fun _ => rfl⟩, rfl⟩
theorem whole_true (b : List UInt8) : palinodelaw14_ScanWhole_R b true := by
  refine split_ (fun _ => ⟨true, awake_ok, rfl⟩) fun h => ⟨_, open_ok b (by omega), ?_⟩
  refine loop_ (fun st m => ∃ k i : Nat, k ≤ b.length ∧ i ≤ k ∧ m = b.length - k ∧ st = (b.take k, (i : Int), b, (k : Int))) b.length ⟨0, 0, by omega, by omega, rfl, rfl⟩ ?_
  rintro st m ⟨k, i, hk, hi, rfl, rfl⟩
  show palinodelaw14_ScanWhole_l2 b _ (b.take k) (i : Int) b (k : Int) true
  refine split_ (fun h1 => ⟨_, rfl, split_ (fun h2 => ?_) fun h2 => ?_⟩) fun h1 => ?_
  · have h2 : (k : Int) < (b.length : Int) := h2
    obtain ⟨e, he1, he2, hno, hnl, hr⟩ := rest_all b k (by omega) (by omega)
    have hte : b.take k ++ (b.take e).drop k = b.take e := by
      conv => rhs; rw [← List.take_append_drop k (b.take e), List.take_take, Nat.min_eq_left he1]
    refine ⟨_, hr, room_ (by simp; omega) (by omega) ⟨_, rfl, ?_⟩⟩
    have ag : ∀ (o : List UInt8) (e' : Nat), k < e' → e' ≤ b.length → o = b.take e' → InR ((i : Int) + 1) ∧ ∃ m', m' < b.length - k ∧ ∃ k i' : Nat, k ≤ b.length ∧ i' ≤ k ∧ m' = b.length - k ∧ (o, (i : Int) + 1, b, (e' : Int)) = (b.take k, (i' : Int), b, (k : Int)) := by
      intro o e' h3 h4 ho
      exact inR_ (by omega) ⟨b.length - e', by omega, e', i + 1, by omega, by omega, rfl, by rw [ho]; rfl⟩
    by_cases he : e < b.length
    · rw [if_pos he]
      have hx := List.getElem?_eq_getElem he
      have h10 := hnl _ hx
      refine split_ (fun _ => ⟨_, rfl, split_ (fun _ => ⟨_, rfl, inR_ (by show _ ∧ _; simp only; omega) (at_ (by show (0 : Int) ≤ (e : Int) + 1 - 1; omega) (by show (e : Int) + 1 - 1 < _; omega) fun y hy => ?_)⟩) fun h => absurd (by show (e : Int) + 1 ≤ _; omega) h⟩) fun h => absurd (by show (0 : Int) < (e : Int) + 1; omega) h
      have hy : b[((e : Int) + 1 - 1).toNat]? = some y := hy
      rw [show ((e : Int) + 1 - 1).toNat = e by omega, hx] at hy
      obtain rfl := Option.some.inj hy
      refine split_ (fun _ => room_ (by simp; omega) (by omega) (ag _ (e + 1) (by omega) (by omega) ?_)) fun h => absurd (decide_eq_true (by omega)) h
      show b.take k ++ (b.take e).drop k ++ [10] = _
      rw [hte, List.take_add_one, hx]
      congr 1
      show [10] = [b[e]]
      rw [← UInt8.toNat_inj.1 (show b[e].toNat = (10 : UInt8).toNat from h10)]
    · have he : e = b.length := by omega
      subst he
      rw [if_neg (by omega)]
      have hx := List.getElem?_eq_getElem (show b.length - 1 < b.length by omega)
      have h10 := hno _ _ (by omega) (by omega) hx
      refine split_ (fun _ => ⟨_, rfl, split_ (fun _ => ⟨_, rfl, inR_ (by show _ ∧ _; simp only; omega) (at_ (by show (0 : Int) ≤ (b.length : Int) - 1; omega) (by show (b.length : Int) - 1 < _; omega) fun y hy => ?_)⟩) fun h => absurd (by show (b.length : Int) ≤ _; omega) h⟩) fun h => absurd (by show (0 : Int) < (b.length : Int); omega) h
      have hy : b[((b.length : Int) - 1).toNat]? = some y := hy
      rw [show ((b.length : Int) - 1).toNat = b.length - 1 by omega, hx] at hy
      obtain rfl := Option.some.inj hy
      refine split_ (fun h => absurd (of_decide_eq_true h) (by omega)) fun _ => ag _ b.length (by omega) (by omega) hte
  · have h2 : ¬ (k : Int) < (b.length : Int) := h2
    obtain rfl : k = b.length := by omega
    rw [List.take_length]
    refine ⟨_, rfl, ((0 : UInt8), false), ⟨((0 : UInt8), false), rfl, fun h => (by cases h), fun _ => rfl⟩, _, rfl, _, rfl, _, rfl, ?_⟩
    refine split_ (fun h => by cases h) fun _ => split_ (fun h => by cases h) fun _ => split_ (fun h => absurd rfl h) fun _ => split_ (fun h => absurd rfl h) fun _ => split_ (fun h => absurd rfl h) fun _ => ⟨_, rfl, split_ (fun h => absurd rfl h) fun _ => ⟨_, ⟨_, rfl, rfl⟩, split_ (fun h => absurd rfl h) fun _ => ⟨_, ⟨_, rfl, rfl⟩, split_ (fun h => absurd (by decide +kernel) h) fun _ => ⟨_, ⟨_, rfl, ((0 : UInt8), false), ⟨((0 : UInt8), false), rfl, fun h => (by cases h), fun _ => rfl⟩, rfl⟩, ?_⟩⟩⟩⟩
    refine split_ (fun h => by cases h) fun _ => ⟨_, same_ok b b (by omega), split_ (fun _ => ⟨_, rfl, split_ (fun _ => ⟨true, awake_ok, rfl⟩) fun h => absurd rfl h⟩) fun h => absurd (decide_eq_true rfl) h⟩
  · omega
theorem whole_law (b : List UInt8) : Con Try.prog 6 [.sl 1 none (List.map eb b)] [] [] (Ret (.v (.bool true))) := palinodelaw14_ScanWhole_con b true (whole_true b)
end Go.Proofs.Ytfngfgiikpofgaa
