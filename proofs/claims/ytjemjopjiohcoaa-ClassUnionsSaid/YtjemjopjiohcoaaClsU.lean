/- The law ClassUnions, plain. -/
import Derived.Test.YtjemjopjiohcoaaClsL
import Derived.Test.YtjemjopjiohcoaaGKL2
namespace Go.Proofs.Ytjemjopjiohcoaa
theorem union2_ok (u : SetT) (x : Int) (ag1 : Int × SetT → Prop) (f : SetT) (r : SetT) (hx : 0 ≤ x ∧ x ≤ 1000) (h : ag1 (x + 1, orS f u)) : LoopR (fun ag2 s => class_Union_l2 u x ag1 ag2 s.1 s.2 r) (0, f) := by
  refine loop_ (fun st m => ∃ k, k ≤ 4 ∧ m = 4 - k ∧ st.1 = (k : Int) ∧ st.2.l = List.zipWith (· ||| ·) (f.l.take k) (u.l.take k) ++ f.l.drop k) 4 ⟨0, by omega, rfl, rfl, by simp⟩ ?_
  rintro ⟨y, g⟩ m ⟨k, hk, rfl, h1, h2⟩
  simp only at h1 h2
  subst h1
  show class_Union_l2 u x ag1 _ (k : Int) g _
  refine split_ (fun h3 => ?_) fun h3 => ?_
  · have hf4 : k < f.l.length := by rw [f.len]; omega
    have hu4 : k < u.l.length := by rw [u.len]; omega
    have hml : (List.zipWith (· ||| ·) (f.l.take k) (u.l.take k)).length = k := by rw [List.length_zipWith, List.length_take, List.length_take]; omega
    have hg : g.l[k]? = some f.l[k] := by rw [h2, List.getElem?_append_right (by omega), hml, Nat.sub_self, List.getElem?_drop, Nat.add_zero, List.getElem?_eq_getElem hf4]
    refine atA (by omega) (by omega) fun a ha => atA (by omega) (by omega) fun b hb => exOr (atA (by omega) (by omega) fun c hc => inR_ (by omega) ⟨4 - (k + 1), by omega, k + 1, by omega, rfl, by simp, ?_⟩)
    rw [Int.toNat_natCast, hg] at ha
    rw [Int.toNat_natCast, List.getElem?_eq_getElem hu4] at hb
    injection ha with ha
    injection hb with hb
    show g.l.set ((k : Int).toNat) _ = _
    rw [Int.toNat_natCast, h2, ← ha, ← hb, List.set_append_right _ _ (by omega), hml, Nat.sub_self, List.drop_eq_getElem_cons hf4, List.set_cons_zero, List.take_add_one, List.take_add_one, List.getElem?_eq_getElem hf4, List.getElem?_eq_getElem hu4, List.zipWith_append (by rw [List.length_take, List.length_take]; omega), List.append_assoc]
    rfl
  · obtain rfl : k = 4 := by omega
    have : g = orS f u := by
      apply Arr.ext
      show g.l = List.zipWith _ f.l u.l
      rw [h2, List.take_of_length_le (by rw [f.len]; omega), List.take_of_length_le (by rw [u.len]; omega), List.drop_eq_nil_of_le (by rw [f.len]; omega), List.append_nil]
    subst this
    exact ⟨⟨by omega, by omega⟩, h⟩
def unS (l : List SetT) : SetT := l.foldl orS (Arr.rep 4 0)
theorem unS_snoc {l : List SetT} {k : Nat} {u : SetT} (h : l[k]? = some u) : unS (l.take (k + 1)) = orS (unS (l.take k)) u := by
  unfold unS
  rw [List.take_add_one, h, List.foldl_append]; rfl
theorem union_ok (l : List SetT) (hl : l.length ≤ 100) : class_Union_R l (unS l) := by
  refine loop_ (fun st m => ∃ k, k ≤ l.length ∧ m = l.length - k ∧ st.1 = (k : Int) ∧ st.2 = unS (l.take k)) _ ⟨0, by omega, rfl, rfl, rfl⟩ ?_
  rintro ⟨x, f⟩ m ⟨k, hk, rfl, h1, h2⟩
  simp only at h1 h2
  subst h1; subst h2
  show class_Union_l1 l _ (k : Int) _ _
  refine split_ (fun h3 => ?_) fun h3 => ?_
  · refine at_ (by omega) (by omega) fun u hu => union2_ok _ _ _ _ _ (by omega) ⟨l.length - (k + 1), by omega, k + 1, by omega, rfl, by simp, ?_⟩
    rw [Int.toNat_natCast] at hu
    exact (unS_snoc hu).symm
  · rw [List.take_of_length_le (by omega)]
theorem mem_or (s u : SetT) (c : Nat) (hc : c < 256) : memS (orS s u) c = (memS s c || memS u c) := by
  have h1 : c / 64 < s.l.length := by rw [s.len]; omega
  have h2 : c / 64 < u.l.length := by rw [u.len]; omega
  unfold memS orS
  simp only [List.getD_eq_getElem?_getD, List.getElem?_zipWith, List.getElem?_eq_getElem h1, List.getElem?_eq_getElem h2, Option.getD_some, UInt64.toNat_or, Nat.testBit_or]
theorem mem_un (l : List SetT) (c : Nat) (hc : c < 256) : memS (unS l) c = l.any (memS · c) := by
  have h : ∀ (l : List SetT) (s : SetT), memS (l.foldl orS s) c = (memS s c || l.any (memS · c)) := by
    intro l
    induction l with
    | nil => intro s; simp
    | cons u l ih => intro s; rw [List.foldl_cons, ih, mem_or _ _ _ hc, List.any_cons, Bool.or_assoc]
  unfold unS
  rw [h]
  have : memS (Arr.rep 4 0) c = false := by
    unfold memS
    rw [List.getD_eq_getElem?_getD]
    show (((List.replicate 4 (0 : UInt64))[c / 64]?).getD 0).toNat.testBit _ = false
    rw [List.getElem?_replicate, if_pos (by omega)]
    simp
  rw [this, Bool.false_or]
theorem or_zero (u : UInt64) : (0 : UInt64) ||| u = u := UInt64.toNat_inj.1 (by rw [UInt64.toNat_or]; exact Nat.zero_or _)
theorem or_self (u : UInt64) : u ||| u = u := UInt64.toNat_inj.1 (by rw [UInt64.toNat_or]; exact Nat.or_self _)
theorem un_twice (u : SetT) : unS [u, u] = u := by
  apply Arr.ext
  revert u
  apply setT_cases
  intro a b c d
  show [(0 ||| a) ||| a, (0 ||| b) ||| b, (0 ||| c) ||| c, (0 ||| d) ||| d] = [a, b, c, d]
  simp only [or_zero, or_self]
theorem unions_true (l : List SetT) (c : UInt8) : palinodelaw05_ClassUnions_R l c true := by
  refine split_ (fun _ => ⟨true, awake_ok, rfl⟩) fun h12 => ?_
  refine loop_ (fun st m => ∃ k, k ≤ l.length ∧ m = l.length - k ∧ st.2 = (k : Int) ∧ st.1 = (l.take k).any (memS · c.toNat)) _ ⟨0, by omega, rfl, rfl, rfl⟩ ?_
  rintro ⟨b, i⟩ m ⟨k, hk, rfl, h1, h2⟩
  simp only at h1 h2
  subst h1; subst h2
  show palinodelaw05_ClassUnions_l1 l c _ ((l.take k).any (memS · c.toNat)) (k : Int) _
  have hnext : ∀ b', b' = (l.take (k + 1)).any (memS · c.toNat) → k < l.length → palinodelaw05_ClassUnions_j2 (k : Int) (fun s' => ∃ m', m' < l.length - k ∧ ∃ k, k ≤ l.length ∧ m' = l.length - k ∧ s'.2 = (k : Int) ∧ s'.1 = (l.take k).any (memS · c.toNat)) b' true := fun b' hb hkl =>
    inR_ (by omega) ⟨l.length - (k + 1), by omega, k + 1, by omega, rfl, by simp, hb⟩
  refine split_ (fun h3 => ?_) fun h3 => ?_
  · have hkl : k < l.length := by omega
    have hs : (l.take (k + 1)).any (memS · c.toNat) = ((l.take k).any (memS · c.toNat) || memS l[k] c.toNat) := by
      rw [List.take_add_one, List.getElem?_eq_getElem hkl, List.any_append]; simp
    refine split_ (fun h4 => hnext _ (by rw [hs, h4, Bool.true_or]) hkl) fun h4 => ?_
    refine at_ (by omega) (by omega) fun y hy => ⟨_, rhas_ok _ _, hnext _ ?_ hkl⟩
    rw [Int.toNat_natCast, List.getElem?_eq_getElem hkl] at hy
    injection hy with hy
    rw [hs, b_f h4, Bool.false_or, hy]
  · rw [List.take_of_length_le (show l.length ≤ k by omega)]
    refine ⟨_, union_ok l (by omega), _, has_ok _ _, split_ (fun _ => ?_) fun h4 => ?_⟩
    · refine ⟨_, union_ok _ (by simp), split_ (fun _ => ?_) fun h5 => absurd (un_twice _) h5⟩
      exact ⟨_, union_ok [] (by simp), split_ (fun _ => ⟨true, awake_ok, rfl⟩) fun h5 => absurd rfl h5⟩
    · exact absurd (by rw [mem_un _ _ (c.toNat_lt)]; simp) h4
theorem unions_law (l : List SetT) (c : UInt8) : Con Try.prog 4 [.sl 4 none (List.map E_palinode_api_Set l), .v (.int .u8 (c.toNat : Int))] [] [] (Ret (.v (.bool true))) := palinodelaw05_ClassUnions_con l c true (unions_true l c)
end Go.Proofs.Ytjemjopjiohcoaa
