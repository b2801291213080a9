/- A cursor's steps: delimiters, up to a delimiter, the rest of a line. -/
import Derived.Test.YtfngfgiikpofgaaDig
namespace Go.Proofs.Ytfngfgiikpofgaa
theorem isS_graph (n : Nat) : isS (⟨#[103, 114, 97, 112, 104]⟩ : ByteArray) n = (decide (33 ≤ n ∧ n ≤ 126), true) := by
  unfold isS
  rw [if_neg (by decide +kernel), if_neg (by decide +kernel), if_neg (by decide +kernel), if_neg (by decide +kernel), if_neg (by decide +kernel), if_neg (by decide +kernel), if_neg (by decide +kernel), if_neg (by decide +kernel), if_pos (by decide +kernel)]
theorem isS_alnum (n : Nat) : isS (⟨#[97, 108, 110, 117, 109]⟩ : ByteArray) n = (decide ((65 ≤ n ∧ n ≤ 90) ∨ (97 ≤ n ∧ n ≤ 122) ∨ (48 ≤ n ∧ n ≤ 57)), true) := by
  unfold isS
  rw [if_neg (by decide +kernel), if_neg (by decide +kernel), if_neg (by decide +kernel), if_neg (by decide +kernel), if_pos (by decide +kernel)]
def meant : List Nat := [92, 40, 41, 123, 125, 91, 93, 46, 42, 94, 36, 43, 63, 38]
def delim (n : Nat) : Bool := decide ((33 ≤ n ∧ n ≤ 126) ∧ ¬ ((65 ≤ n ∧ n ≤ 90) ∨ (97 ≤ n ∧ n ≤ 122) ∨ (48 ≤ n ∧ n ≤ 57)) ∧ n ∉ meant)
theorem idx_meant : ∀ n, n < 256 → decide (idxB (⟨#[92, 40, 41, 123, 125, 91, 93, 46, 42, 94, 36, 43, 63, 38]⟩ : ByteArray).data.toList (UInt8.ofNat n) < 0) = decide (n ∉ meant) := by decide +kernel
theorem delim_ok (c : UInt8) : scan_IsDelim_R c (delim c.toNat) := by
  refine ⟨_, dis_ok _ c, _, dis_ok _ c, ?_⟩
  rw [isS_graph, isS_alnum]
  unfold delim
  refine split_ (fun h1 => split_ (fun h2 => ⟨_, ⟨_, rfl, rfl⟩, ?_⟩) fun h2 => ?_) fun h1 => ?_
  · have := idx_meant c.toNat c.toNat_lt
    rw [UInt8.ofNat_toNat] at this
    rw [this, decide_eq_decide]
    have h1 := of_decide_eq_true h1
    have h2 : ¬ _ := fun h => h2 (decide_eq_true h)
    exact ⟨fun h => h.2.2, fun h => ⟨h1, h2, h⟩⟩
  · rw [Decidable.not_not] at h2
    have h2 := of_decide_eq_true h2
    exact decide_eq_false fun h => h.2.1 h2
  · exact decide_eq_false fun h => h1 (decide_eq_true h.1)
theorem row_meant : ∀ k, k < 14 → ((⟨#[92, 40, 41, 123, 125, 91, 93, 46, 42, 94, 36, 43, 63, 38]⟩ : ByteArray)[k]?).map (·.toNat) = meant[k]? := by decide +kernel
theorem rdelim_ok (c : UInt8) : palinoderef14_IsDelim_R c (delim c.toNat) := by
  refine split_ (fun h1 => ?_) fun h1 => split_ (fun h2 => ?_) fun h2 => ⟨_, in3 _ _ _ _ _ _ _, split_ (fun h3 => ?_) fun h3 => ?_⟩
  · exact decide_eq_false fun h => by omega
  · exact decide_eq_false fun h => by omega
  · have h3 := of_decide_eq_true h3
    exact decide_eq_false fun h => h.2.1 h3
  · have h3 : ¬ _ := fun h => h3 (decide_eq_true h)
    refine loop_ (fun st m => ∃ k : Nat, k ≤ 14 ∧ m = 14 - k ∧ st = (k : Int) ∧ ∀ j, j < k → meant[j]? ≠ some c.toNat) 14 ⟨0, by omega, rfl, rfl, fun j hj => absurd hj (by omega)⟩ ?_
    rintro st m ⟨k, hk, rfl, rfl, hno⟩
    have hsz : ((⟨#[92, 40, 41, 123, 125, 91, 93, 46, 42, 94, 36, 43, 63, 38]⟩ : ByteArray).size : Int) = 14 := rfl
    refine split_ (fun h4 => ?_) fun h4 => ?_
    · rw [hsz] at h4
      have hr := row_meant k (by omega)
      rw [Int.toNat_natCast]
      cases hx : (⟨#[92, 40, 41, 123, 125, 91, 93, 46, 42, 94, 36, 43, 63, 38]⟩ : ByteArray)[k]? with
      | none =>
        rw [hx] at hr
        have : meant.length ≤ k := List.getElem?_eq_none_iff.1 hr.symm
        have hl : meant.length = 14 := rfl
        omega
      | some x =>
        rw [hx] at hr
        refine ⟨by omega, x, rfl, split_ (fun h5 => ?_) fun h5 => inR_ (by omega) ⟨14 - (k + 1), by omega, k + 1, by omega, rfl, by simp, fun j hj => ?_⟩⟩
        · have : x.toNat = c.toNat := by omega
          exact decide_eq_false fun h => h.2.2 (List.mem_of_getElem? (by rw [← hr, ← this]; rfl))
        · by_cases hjk : j = k
          · subst hjk
            rw [← hr]
            intro e
            have : x.toNat = c.toNat := Option.some.inj e
            omega
          · exact hno j (by omega)
    · rw [hsz] at h4
      obtain rfl : k = 14 := by omega
      refine decide_eq_true ⟨by omega, h3, fun hm => ?_⟩
      obtain ⟨j, hj, he⟩ := List.getElem_of_mem hm
      exact hno j hj (by rw [List.getElem?_eq_getElem hj, he])
theorem delim_not {n : Nat} (h : delim n = true) : n ≠ 10 ∧ n ≠ 92 ∧ n ≠ 97 := by
  have h := of_decide_eq_true h
  refine ⟨by omega, fun e => h.2.2 (by rw [e]; decide), by omega⟩
theorem clone_ok (l : List UInt8) (hl : l.length ≤ 1000000) : slices_Clone_R l l := by
  intro b hb
  refine split_ (fun h => ?_) fun h => ?_
  · apply Decidable.byContradiction
    intro hne
    rw [hb hne] at h
    cases h
  · exact room_ (by simp; omega) (by omega) (List.nil_append l).symm
theorem open_ok (l : List UInt8) (hl : l.length ≤ 1000000) : scan_Open_R l (l, 0) := ⟨l, clone_ok l hl, rfl⟩
/-- Bytes with a backslash ahead of some. -/
def bentC (d c : UInt8) : List UInt8 := if c.toNat = 92 ∨ c.toNat = 10 ∨ c.toNat = d.toNat then [92, c] else [c]
def bentL (d : UInt8) (b : List UInt8) : List UInt8 := b.flatMap (bentC d)
theorem bentL_len (d : UInt8) (b : List UInt8) : (bentL d b).length ≤ 2 * b.length := by
  unfold bentL
  induction b with
  | nil => simp
  | cons c b ih =>
    rw [List.flatMap_cons, List.length_append, List.length_cons]
    have : (bentC d c).length ≤ 2 := by unfold bentC; split <;> simp
    omega
theorem bentL_at {d c : UInt8} {b : List UInt8} {k : Nat} (h : b[k]? = some c) : bentL d b = bentL d (b.take k) ++ bentC d c ++ bentL d (b.drop (k + 1)) := by
  have hk : k < b.length := (List.getElem?_eq_some_iff.1 h).1
  have he : b[k] = c := (List.getElem?_eq_some_iff.1 h).2
  have : b = b.take k ++ c :: b.drop (k + 1) := by rw [← he, ← List.drop_eq_getElem_cons hk, List.take_append_drop]
  conv => lhs; rw [this]
  unfold bentL
  rw [List.flatMap_append, List.flatMap_cons, List.append_assoc]
theorem bentL_snoc {d c : UInt8} {b : List UInt8} {k : Nat} (h : b[k]? = some c) : bentL d (b.take (k + 1)) = bentL d (b.take k) ++ bentC d c := by
  unfold bentL
  rw [List.take_add_one, h, List.flatMap_append]
  simp
theorem until_no (o : List UInt8 × Int) (d : UInt8) (h : delim d.toNat = false) : scan_Cursor_Until_R o d ([], 19, (o.1, o.2)) :=
  ⟨_, delim_ok d, split_ (fun _ => rfl) fun h1 => absurd (by rw [h]; decide) h1⟩
theorem until_ok (b more : List UInt8) (d : UInt8) (hd : delim d.toNat = true) (hb : b.length ≤ 1000) (hm : more.length ≤ 1000) : scan_Cursor_Until_R (bentL d b ++ d :: more, 0) d (bentL d b, 0, (bentL d b ++ d :: more, ((bentL d b).length : Int) + 1)) := by
  have hlen := bentL_len d b
  have hn := delim_not hd
  generalize hT : bentL d b ++ d :: more = T
  have hTl : T.length = (bentL d b).length + (more.length + 1) := by rw [← hT, List.length_append, List.length_cons]
  refine ⟨_, delim_ok d, split_ (fun h1 => absurd hd h1) fun _ => ?_⟩
  refine loop_ (fun st m => ∃ k : Nat, k ≤ b.length ∧ m = b.length - k ∧ st = ((bentL d (b.take k)).length : Int)) b.length ⟨0, by omega, rfl, rfl⟩ ?_
  rintro st m ⟨k, hk, rfl, rfl⟩
  have at0 : ∀ x, T[(bentL d (b.take k)).length]? = some x → scan_Cursor_Until_l1 (T, 0) d (fun s' => ∃ m', m' < b.length - k ∧ ∃ k : Nat, k ≤ b.length ∧ m' = b.length - k ∧ s' = ((bentL d (b.take k)).length : Int)) ((bentL d (b.take k)).length : Int) (bentL d b, 0, (T, ((bentL d b).length : Int) + 1)) := by
    intro x hx
    have hxl : (bentL d (b.take k)).length < T.length := (List.getElem?_eq_some_iff.1 hx).1
    have same : ∀ y, T[((bentL d (b.take k)).length : Int).toNat]? = some y → y = x := fun y hy => by
      rw [Int.toNat_natCast, hx] at hy; exact (Option.some.inj hy).symm
    refine split_ (fun _ => at_ (by omega) (by omega) fun y hy => ?_) fun h => absurd (by show _ < (T.length : Int); omega) h
    obtain rfl := same y hy
    by_cases hkl : k < b.length
    · have hc := List.getElem?_eq_getElem hkl
      generalize hcv : b[k] = c at hc
      have hsn := bentL_snoc (d := d) hc
      have hTT : T = bentL d (b.take k) ++ (bentC d c ++ (bentL d (b.drop (k + 1)) ++ d :: more)) := by rw [← hT, bentL_at hc]; simp only [List.append_assoc]
      rw [hTT, List.getElem?_append_right (by omega), Nat.sub_self] at hx
      by_cases hsp : c.toNat = 92 ∨ c.toNat = 10 ∨ c.toNat = d.toNat
      · have hbc : bentC d c = [92, c] := by unfold bentC; rw [if_pos hsp]
        rw [hbc] at hx hsn
        have hy92 : (92 : UInt8) = y := Option.some.inj hx
        have hyn : y.toNat = 92 := by rw [← hy92]; rfl
        have hl2 : (bentL d (b.take (k + 1))).length = (bentL d (b.take k)).length + 2 := by rw [hsn, List.length_append]; rfl
        refine split_ (fun _ => at_ (by omega) (by omega) fun z hz => ?_) fun h => absurd (by omega) h
        obtain rfl := same z hz
        refine split_ (fun h => by omega) fun _ => at_ (by omega) (by omega) fun w hw => ?_
        obtain rfl := same w hw
        refine split_ (fun _ => inR_ (by omega) (inR_ (by omega) ⟨b.length - (k + 1), by omega, k + 1, by omega, rfl, by omega⟩)) fun h => absurd (by omega) h
      · have hbc : bentC d c = [c] := by unfold bentC; rw [if_neg hsp]
        rw [hbc] at hx hsn
        have hyc : c = y := Option.some.inj hx
        subst hyc
        have hl2 : (bentL d (b.take (k + 1))).length = (bentL d (b.take k)).length + 1 := by rw [hsn, List.length_append]; rfl
        refine split_ (fun _ => at_ (by omega) (by omega) fun z hz => ?_) fun h => absurd (by omega) h
        obtain rfl := same z hz
        refine split_ (fun h => by omega) fun _ => at_ (by omega) (by omega) fun w hw => ?_
        obtain rfl := same w hw
        exact split_ (fun h => by omega) fun _ => inR_ (by omega) ⟨b.length - (k + 1), by omega, k + 1, by omega, rfl, by omega⟩
    · obtain rfl : k = b.length := by omega
      have hgl : (bentL d (b.take b.length)).length = (bentL d b).length := by rw [List.take_length]
      have hfl : ((T, (0 : Int)).1).length = T.length := rfl
      rw [List.take_length] at hx hxl ⊢
      rw [← hT, List.getElem?_append_right (by omega), Nat.sub_self] at hx
      have hyd : d = y := Option.some.inj hx
      subst hyd
      rw [List.take_length] at same
      refine split_ (fun _ => at_ (by omega) (by omega) fun z hz => ?_) fun h => absurd (by omega) h
      obtain rfl := same z hz
      refine split_ (fun _ => ⟨by omega, bentL z b, ?_, inR_ (by omega) rfl⟩) fun h => absurd rfl h
      have ht : (T.take ((bentL z b).length : Int).toNat).drop (0 : Int).toNat = bentL z b := by
        rw [Int.toNat_natCast, ← hT, List.take_left']
        · rfl
        · rfl
      show slices_Clone_R ((T.take ((bentL z b).length : Int).toNat).drop (0 : Int).toNat) _
      rw [ht]
      exact clone_ok _ (by omega)
  by_cases hlt : (bentL d (b.take k)).length < T.length
  · exact at0 _ (List.getElem?_eq_getElem hlt)
  · exfalso
    have : bentL d b = bentL d (b.take k) ++ bentL d (b.drop k) := by
      unfold bentL
      rw [← List.flatMap_append, List.take_append_drop]
    have := congrArg List.length this
    rw [List.length_append] at this
    omega
theorem awake_ok : palinodelaw14_awake_R true := by
  refine ⟨_, open_ok _ (by simp), _, until_ok [97, 47, 98] [99] 47 (by decide) (by simp) (by simp), split_ (fun _ => split_ (fun _ => ⟨_, rfl, by decide⟩) fun h => absurd (by decide +kernel) h) fun h => absurd rfl h⟩
end Go.Proofs.Ytfngfgiikpofgaa
