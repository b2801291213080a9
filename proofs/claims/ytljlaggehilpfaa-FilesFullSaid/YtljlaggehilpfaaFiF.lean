/- What has no room is refused. -/
import Derived.Test.YtljlaggehilpfaaFiQ
import Derived.Test.YtljlaggehilpfaaGKL2
namespace Go.Proofs.Ytljlaggehilpfaa
def nmF (k : Nat) : ByteArray := ((⟨#[102]⟩ : ByteArray)) ++ ((⟨([UInt8.ofNat (97 + k)]).toArray⟩ : ByteArray))
def nf (k : Nat) : List FL := (List.range (min k 16)).map fun i => (nmF i, [])
theorem full_step : ((List.range 20).all fun k => decide (putL (nf k) (nmF k) [] = (if k < 16 then 0 else 7, nf (k + 1)))) = true := by kernel_rfl
theorem clone2_ok (b : List UInt8) (hb : b.length ≤ 1000000000) : slices_Clone_v2_R b b := by
  intro v hv
  refine split_ (fun h => ?_) fun _ => room_ (by simp; omega) (by omega) rfl
  by_cases hb0 : b = []
  · exact hb0
  · rw [hv (List.length_pos_iff.2 hb0)] at h; cases h
theorem put2_ok (l : List FL) (s : ByteArray) (b : List UInt8) (hl : l.length ≤ 1000000) (hs : s.size ≤ 1000000) : files_Table_Put_v2_R b l s (putL l s b) := by
  refine ⟨_, at_ok l s hl, _, isName_ok s hs, split_ (fun h => ?_) fun h => ?_⟩
  · unfold putL; rw [if_neg h]
  have hn : nameB s = true := Decidable.of_not_not h
  unfold putL
  rw [if_pos hn]
  refine split_ (fun h1 => ?_) fun h1 => ?_
  · rw [if_pos (by omega)]
  rw [if_neg (by omega)]
  unfold atI
  cases hf : findL l s with
  | none =>
    refine split_ (fun h2 => ?_) fun h2 => split_ (fun _ => ?_) fun h3 => absurd (by decide) h3
    · have : 16 ≤ l.length := by simp at h2; omega
      simp only [if_pos this]
    · have : ¬ 16 ≤ l.length := by simp at h2; omega
      simp only [if_neg this]
      refine room_ (by simp; omega) (by omega) (inR_ (by simp; omega) ?_)
      have hc : (((l ++ [(s, ([] : List UInt8))]).length : Nat) : Int) - 1 = (l.length : Int) := by simp
      rw [hc]
      refine ⟨b, clone2_ok b (by omega), by omega, (s, []), by simp, ?_⟩
      simp
  | some i =>
    obtain ⟨b0, h3, _⟩ := find_some hf
    refine split_ (fun h2 => by simp at h2; omega) fun h2 => split_ (fun h3 => absurd h3 (by simp only; omega)) fun _ => ?_
    exact ⟨b, clone2_ok b (by omega), by simp only; omega, (s, b0), by simpa using h3, by simp⟩
theorem make_ {n : Int} {P : Prop} (h : 0 ≤ n ∧ n ≤ 100000) (k : P) : MakeOk n n 1 ∧ P := ⟨⟨by omega, by omega, by omega, by omega⟩, k⟩
def nmA : ByteArray := (⟨#[97]⟩ : ByteArray)
theorem nmA_ok : nameB nmA = true := by kernel_rfl
theorem nmA_eq : (nmA.toList == nmA.toList) = true := beq_self_eq_true _
theorem fput (l : List FL) (b : List UInt8) (hl : l = [] ∨ ∃ c, l = [(nmA, c)]) (hb : b.length ≤ 65536) : putL l nmA b = (0, [(nmA, b)]) := by
  unfold putL
  rw [if_pos nmA_ok, if_neg (by omega)]
  rcases hl with rfl | ⟨c, rfl⟩
  · rfl
  · simp only [findL, if_pos nmA_eq]; rfl
theorem fput8 (l : List FL) (b : List UInt8) (hb : 65536 < b.length) : putL l nmA b = (8, l) := by
  unfold putL
  rw [if_pos nmA_ok, if_pos hb]
theorem flook (b : List UInt8) : lookL [(nmA, b)] nmA = some b := by simp only [lookL, if_pos nmA_eq]
theorem flen (b : List UInt8) : files_Table_Len_R [(nmA, b)] nmA (b.length : Int) := by
  have := len_ok [(nmA, b)] nmA (by simp)
  rw [flook] at this; exact this
theorem fadd (b : List UInt8) (ps : List (List UInt8)) (hb : b.length ≤ 65536) (hp : ps.length ≤ 1000) (hp2 : ∀ p ∈ ps, p.length ≤ 100000) : files_Table_Add_R [(nmA, b)] nmA ps (putL [(nmA, b)] nmA (b ++ ps.flatten)) := by
  have := add_ok [(nmA, b)] nmA ps (by simp) (by show 1 ≤ 1000000; omega) (by simp; omega) hp hp2
  rw [flook] at this; exact this
theorem full_j3 (x : UInt8) (y : UInt16) (k : Nat) (hk : k = x.toNat % 20) (b : List UInt8) (hb : b.length = 65536 - y.toNat % 100) : palinodelaw03_FilesFull_j3 ((y.toNat : Nat) : Int) (nf k) x false [(nmA, b)] true := by
  have hq := Nat.mod_lt y.toNat (show 0 < 100 by omega)
  have hn20 := Nat.mod_lt x.toNat (show 0 < 20 by omega)
  unfold palinodelaw03_FilesFull_j3
  rw [show (((y.toNat : Nat) : Int).tmod 100) = ((y.toNat % 100 : Nat) : Int) from tm y.toNat 100, show (((x.toNat : Int) : Int).tmod 20) = ((x.toNat % 20 : Nat) : Int) from tm x.toNat 20]
  generalize y.toNat % 100 = q at hq hb
  refine split_ (fun h => by cases h) fun _ => make_ ⟨by omega, by omega⟩ ?_
  rw [Int.toNat_natCast]
  have ha := fadd b [List.replicate q 0] (by omega) (by simp) (by simp; omega)
  rw [fput _ _ (.inr ⟨b, rfl⟩) (by simp; omega)] at ha
  refine ⟨_, ha, split_ (fun _ => ⟨_, flen _, split_ (fun _ => ?_) fun h => absurd (by simp; omega) h⟩) fun h => absurd rfl h⟩
  have hnfl : (nf k).length = min k 16 := by simp [nf]
  refine ⟨_, all_ok (nf k) (by rw [hnfl]; omega) (fun f hf => by obtain ⟨i, _, rfl⟩ := List.mem_map.1 hf; simp), split_ (fun _ => ⟨true, fiawake, rfl⟩) fun h => absurd ?_ h⟩
  rw [hnfl, hk]
  split <;> omega
theorem full_law (x : UInt8) (y : UInt16) : palinodelaw03_FilesFull_R x y true := by
  refine ⟨(0, some []), new_ok [] (by simp), ⟨fun h => (by cases h), fun x5 hx => ?_⟩⟩
  injection hx with hx; subst hx
  refine ⟨by decide, ?_⟩
  rw [show (0, ([] : List FL)) = ((((0 : Nat) : Int)), nf 0) from rfl]
  have hn20 := Nat.mod_lt x.toNat (show 0 < 20 by omega)
  refine loop_ (fun (st : Int × List FL) m => ∃ k : Nat, k ≤ x.toNat % 20 ∧ m = 20 - k ∧ st = ((k : Int), nf k)) 20 ⟨0, by omega, rfl, rfl⟩ ?_
  rintro _ m ⟨k, hk, rfl, rfl⟩
  show palinodelaw03_FilesFull_l1 x y _ (k : Int) (nf k) true
  have htm : (((x.toNat : Int) : Int).tmod 20) = ((x.toNat % 20 : Nat) : Int) := tm x.toNat 20
  unfold palinodelaw03_FilesFull_l1
  rw [htm]
  have hnfl : ∀ k, (nf k).length = min k 16 := fun k => by simp [nf]
  refine split_ (fun h => ?_) fun h => ?_
  · have hk20 : k < 20 := by omega
    have hst := of_decide_eq_true (List.all_eq_true.1 full_step k (List.mem_range.2 hk20))
    refine inR_ (by omega) (exU8 ⟨by omega, by omega⟩ fun c hc => ?_)
    have hc' : c = UInt8.ofNat (97 + k) := by
      apply UInt8.toNat_inj.1
      have := u8_of (97 + k) (by omega)
      omega
    subst hc'
    have hp := put_ok (nf k) (nmF k) [] (by rw [hnfl]; omega) (by show 2 ≤ 1000000; omega)
    rw [hst] at hp
    refine inR_ (show -9223372036854775808 ≤ ((1 : Nat) : Int) + ((1 : Nat) : Int) ∧ ((1 : Nat) : Int) + ((1 : Nat) : Int) ≤ 9223372036854775807 by omega) ⟨_, hp, ?_⟩
    by_cases h16 : k < 16
    · rw [if_pos h16]
      refine split_ (fun h2 => absurd (by simp; omega) h2) fun _ => split_ (fun h2 => absurd rfl h2) fun _ => ?_
      exact inR_ (by omega) ⟨20 - (k + 1), by omega, k + 1, by omega, rfl, rfl⟩
    · rw [if_neg h16]
      refine split_ (fun h2 => absurd (by simp; omega) h2) fun _ => split_ (fun _ => split_ (fun h2 => absurd rfl h2) fun _ => ?_) fun h2 => absurd (by simp) h2
      exact inR_ (by omega) ⟨20 - (k + 1), by omega, k + 1, by omega, rfl, rfl⟩
  · have hk' : k = x.toNat % 20 := by omega
    have hw : IntKind.i64.wrap ((y.toNat : Int)) = ((y.toNat : Nat) : Int) := IntWalk.i64_in _ (by have := y.toNat_lt; omega)
    rw [hw]
    refine exZ ⟨by decide, ?_⟩
    rw [show (((y.toNat : Nat) : Int).tmod 100) = ((y.toNat % 100 : Nat) : Int) from tm y.toNat 100]
    have hq := Nat.mod_lt y.toNat (show 0 < 100 by omega)
    refine ⟨(0, some []), new_ok [] (by simp), ⟨fun h => (by cases h), fun x5 hx => ?_⟩⟩
    injection hx with hx; subst hx
    refine make_ ⟨by omega, by omega⟩ ?_
    have hL1 : (List.replicate ((65537 : Int)).toNat (0 : UInt8)).length = 65537 := by rw [List.length_replicate]; rfl
    generalize List.replicate ((65537 : Int)).toNat (0 : UInt8) = L1 at hL1
    have hp1 := put2_ok [] nmA L1 (by simp) (by show 1 ≤ 1000000; omega)
    rw [fput8 _ _ (by omega)] at hp1
    refine ⟨_, hp1, split_ (fun h => absurd rfl h) fun _ => inR_ (by omega) (make_ ⟨by omega, by omega⟩ ?_)⟩
    have hL2 : (List.replicate (((65536 : Int) - ((y.toNat % 100 : Nat) : Int))).toNat (0 : UInt8)).length = 65536 - y.toNat % 100 := by rw [List.length_replicate]; omega
    generalize List.replicate (((65536 : Int) - ((y.toNat % 100 : Nat) : Int))).toNat (0 : UInt8) = L2 at hL2
    have hp2 := put2_ok [] nmA L2 (by simp) (by show 1 ≤ 1000000; omega)
    rw [fput _ _ (.inl rfl) (by omega)] at hp2
    refine ⟨_, hp2, split_ (fun h => absurd rfl h) fun _ => make_ ⟨by omega, by omega⟩ ?_⟩
    have hL3 : (List.replicate (((y.toNat % 100 : Nat) : Int)).toNat (0 : UInt8)).length = y.toNat % 100 := by rw [List.length_replicate]; omega
    generalize List.replicate (((y.toNat % 100 : Nat) : Int)).toNat (0 : UInt8) = L3 at hL3
    have ha := fadd L2 [L3, [(1 : UInt8)]] (by omega) (by simp) (by simp; omega)
    rw [fput8 _ _ (by simp; omega)] at ha
    refine ⟨_, ha, split_ (fun h => absurd rfl h) fun _ => ⟨_, flen L2, inR_ (by omega) ?_⟩⟩
    have e : (!(decide ((L2.length : Int) = 65536 - ((y.toNat % 100 : Nat) : Int)))) = false := by
      rw [decide_eq_true (by omega)]; rfl
    rw [e]
    exact full_j3 x y k hk' L2 hL2
end Go.Proofs.Ytljlaggehilpfaa
