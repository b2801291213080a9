/- bytes.Index as a contract on what a walk knows (laid by the shelf; its variable MaxLen holds some number). -/
import Derived.Shelf.Bytes.SlIndexWhole
import Derived.Test.YtpddiffpanihdaaEv
import Derived.Test.YtpddiffpanihdaaProg
namespace Go.Proofs
open Go.Shelf Go.RowKit
def Try.laysM185_ren : Go.Shelf.Ren := ⟨fun | 185 => 86 | 187 => 88 | 115 => 89 | 253 => 90 | 224 => 91 | 254 => 92 | 255 => 93 | 291 => 94 | n => n, fun | 37 => 22 | 3 => 3 | 4 => 4 | 0 => 0 | 5 => 5 | 46 => 129 | 9 => 9 | 146 => 131 | 51 => 130 | n => n, fun | 1 => 0 | n => n⟩
theorem Try.laysM185 : Go.Proofs.LaysM.n185 Try.prog Try.laysM185_ren := {
  mixed := by kernel_rfl
  f115 := Try.func89.trans (congrArg some (by kernel_rfl))
  f185 := Try.func86.trans (congrArg some (by kernel_rfl))
  f187 := Try.func88.trans (congrArg some (by kernel_rfl))
  f224 := Try.func91.trans (congrArg some (by kernel_rfl))
  f253 := Try.func90.trans (congrArg some (by kernel_rfl))
  f254 := Try.func92.trans (congrArg some (by kernel_rfl))
  f255 := Try.func93.trans (congrArg some (by kernel_rfl))
  f291 := Try.func94.trans (congrArg some (by kernel_rfl))
  t0 := Try.underlying0
  a0 := Try.isAgg0
  z0 := Try.sizeOf0
  v0 := Try.zeroValue0
  t3 := Try.underlying3
  a3 := Try.isAgg3
  z3 := Try.sizeOf3
  v3 := Try.zeroValue3
  t4 := Try.underlying4
  a4 := Try.isAgg4
  z4 := Try.sizeOf4
  v4 := Try.zeroValue4
  t5 := Try.underlying5
  a5 := Try.isAgg5
  z5 := Try.sizeOf5
  v5 := Try.zeroValue5
  t9 := Try.underlying9
  a9 := Try.isAgg9
  z9 := Try.sizeOf9
  v9 := Try.zeroValue9
  t37 := Try.underlying22
  a37 := Try.isAgg22
  z37 := Try.sizeOf22
  v37 := Try.zeroValue22
  t46 := Try.underlying129
  a46 := Try.isAgg129
  z46 := Try.sizeOf129
  v46 := Try.zeroValue129
  t51 := Try.underlying130
  a51 := Try.isAgg130
  z51 := Try.sizeOf130
  v51 := Try.zeroValue130
  t146 := Try.underlying131
  a146 := Try.isAgg131
  z146 := Try.sizeOf131
  v146 := Try.zeroValue131
  g1 := by kernel_rfl
  i0 := by kernel_rfl
  i3 := by kernel_rfl
  i4 := by kernel_rfl
  i5 := by kernel_rfl
  i9 := by kernel_rfl
  i37 := by kernel_rfl
  i46 := by kernel_rfl
  i51 := by kernel_rfl
  i146 := by kernel_rfl
  m1 := by kernel_rfl
  s1_3 := fun w h => Go.Proofs.cell_of_shapedOpen_int (zero := #[.int .i64 0]) (t := 3) h (of_decide_eq_true (by kernel_rfl)) (by kernel_rfl) rfl (by kernel_rfl) (by kernel_rfl) Try.underlying3 }
theorem Try.bytes_Index_at (a1 a2 : Addr) (n c1 k c2 : Nat) (xs ys : List Int) (m : Int) (w : World) (hx : xs.length = n) (hy : ys.length = k) (hr1 : ∀ x ∈ xs, 0 ≤ x ∧ x < 256) (hr2 : ∀ y ∈ ys, 0 ≤ y ∧ y < 256)
    (hc1 : ∀ i, i < n → w.cell? (a1.add i) = some (.int .u8 (xs.getD i 0))) (hc2 : ∀ i, i < k → w.cell? (a2.add i) = some (.int .u8 (ys.getD i 0))) (hcap : n ≤ c1) (hs : n < 4294967281) (hk : k ≤ 9223372036854775807) (hm : w.cell? ⟨0, 0, none⟩ = some (.int .i64 m)) :
    Calls Try.prog 86 #[.slice (some a1) n c1, .slice (some a2) k c2] w fun e w' => e = .returned (.int .i64 (Lib.index (Lib.bytesOf xs) (Lib.bytesOf ys))) ∧ ∃ q, w' = w.drewN q := Any.bytes_Index_at { Try.laysM185 with } a1 a2 n c1 k c2 xs ys m w hx hy hr1 hr2 hc1 hc2 hcap hs hk hm
theorem Try.bytes_Index_longer (p q : Option Addr) (n c m d : Nat) (w : World) (h2 : 2 ≤ m) (hnm : n < m) (hm : m ≤ 9223372036854775807) :
    Calls Try.prog 86 #[.slice p n c, .slice q m d] w fun e w' => e = .returned (.int .i64 (-1)) ∧ w' = w := Any.bytes_Index_longer { Try.laysM185 with } p q n c m d w h2 hnm hm
namespace Ytpddiffpanihdaa
open Go.RowKit
theorem glb_ok (W : World) (h : W.ShapedOpen Try.prog) : ∀ b ∈ glb, ∃ m : Int, W.cell? ⟨b, 0, none⟩ = some (.int .i64 m) := fun b hb => by
  obtain rfl := List.mem_singleton.1 hb
  exact Try.laysM185.s1_3 W h
theorem bytesOf_nums (l : List UInt8) : Lib.bytesOf (l.map fun c => (c.toNat : Int)) = l := by
  unfold Lib.bytesOf
  rw [List.map_map]
  conv => rhs; rw [← List.map_id l]
  apply List.map_congr_left
  intro c _
  simp
theorem getD_nums (l : List UInt8) (i : Nat) (h : i < l.length) : (l.map fun c => (c.toNat : Int)).getD i 0 = ((l[i]).toNat : Int) := by
  rw [List.getD_eq_getElem?_getD, List.getElem?_map, List.getElem?_eq_getElem h]; rfl
theorem index_short {l sep : List UInt8} (h : l.length < sep.length) : Lib.index l sep = -1 := by
  rcases Lib.index_spec l sep with h1 | ⟨i, h1, _, h3, _⟩
  · exact h1.1
  · rcases Lib.occAt_room h3 with h4 | h4
    · omega
    · rw [h4] at h; simp at h
def bytes_Index_R (l sep : List UInt8) (r : Int) : Prop := (l.length ≤ 1000000000 ∧ (2 ≤ sep.length ∧ sep.length ≤ 1000000000)) ∧ r = Lib.index l sep
def bytes_Index_ev (_fuel : Nat) (l sep : List UInt8) : Option Int := if l.length ≤ 1000000000 ∧ (2 ≤ sep.length ∧ sep.length ≤ 1000000000) then some (Lib.index l sep) else none
theorem bytes_Index_ok {fuel : Nat} {l sep : List UInt8} {r : Int} (h : bytes_Index_ev fuel l sep = some r) : bytes_Index_R l sep r := by
  obtain ⟨h1, h2⟩ := if_ok h
  exact ⟨h1, (Option.some.inj h2).symm⟩
theorem drewN_block (w : World) (q : Nat) : (w.drewN q).os = w.os ∧ (w.drewN q).tape = w.tape ∧ (w.drewN q).output = w.output ∧ (w.drewN q).heap = w.heap := ⟨rfl, rfl, rfl, rfl⟩
theorem bytes_Index_con (l sep : List UInt8) (r : Int) (h : bytes_Index_R l sep r) : Con Try.prog 86 [.sl 1 none (List.map eb l), .sl 1 none (List.map eb sep)] [] [] (Ret (.v (.int .i64 r))) := by
  obtain ⟨⟨h1, h2, h3⟩, rfl⟩ := h
  rintro Rd w vals hgl hm ⟨u0, _, rfl, hs, u1, _, rfl, ht, rfl⟩
  obtain ⟨A, c, rfl, ⟨hc1, hc2⟩, _, _, hrr⟩ := hs
  obtain ⟨B, d, rfl, ⟨hd1, hd2⟩, _, _, htt⟩ := ht
  rw [List.length_map] at hc1 hd1 ⊢
  rw [List.length_map]
  have fin : ∀ e w', e = Ending.returned (Value.int .i64 (Lib.index l sep)) ∧ (∃ q, w' = w.drewN q) → RP [] [] Rd w (Ret (.v (.int .i64 (Lib.index l sep)))) e w' := by
    rintro e w' ⟨rfl, q, rfl⟩
    obtain ⟨e1, e2, e3, e4⟩ := drewN_block w q
    refine ⟨_, _, [], [], Rd, rfl, ⟨rfl, rfl, rfl⟩, ⟨fun b o h => by rw [e4]; exact hm.lt b o h, by simp, by simp, by simp⟩, rfl, ⟨e1, e2, e3, by rw [e4]; exact Nat.le_refl _, fun k hk _ => by rw [e4], fun b o h => ⟨h, ?_⟩, fun _ _ h => .inl h⟩, fun b hb => by simp [dom] at hb⟩
    simp only [World.cell?, e4]
  have hat : ∀ (l : List UInt8) (bk o : Nat), RepR Rd w bk o 1 (List.map eb l) → ∀ i, i < (l.map fun c => (c.toNat : Int)).length → w.cell? ((⟨bk, o, none⟩ : Addr).add i) = some (.int .u8 ((l.map fun c => (c.toNat : Int)).getD i 0)) := fun l bk o hR i hi => by
    rw [List.length_map] at hi
    rw [getD_nums l i hi]
    have h3 : (List.map eb l)[i]? = some (eb l[i]) := by rw [List.getElem?_map, List.getElem?_eq_getElem hi]; rfl
    obtain ⟨_, h4, ⟨v, h5, _, h6⟩, _⟩ := hR.at_ h3
    have h6 : v = _ := h6
    subst h6
    rw [Nat.mul_one] at h5
    rw [add_lit_]
    exact h5
  have hrng : ∀ l : List UInt8, ∀ x ∈ l.map (fun c => (c.toNat : Int)), 0 ≤ x ∧ x < 256 := fun l x hx => by
    obtain ⟨c, _, rfl⟩ := List.mem_map.1 hx
    have := c.toNat_lt
    omega
  by_cases hlt : l.length < sep.length
  · refine (Try.bytes_Index_longer A B l.length c sep.length d w h2 hlt (by omega)).mono fun e w' ⟨he, hw⟩ => fin e w' ⟨?_, 0, ?_⟩
    · rw [he, index_short hlt]
    · rw [hw]; rfl
  · have hne : ∀ l : List UInt8, 2 ≤ l.length → List.map eb l ≠ [] := fun l hl e => by
      rw [List.map_eq_nil_iff.1 e] at hl; simp at hl
    obtain ⟨bk, o, rfl, hR⟩ := hrr.resolve_left (hne l (by omega))
    obtain ⟨bk2, o2, rfl, hR2⟩ := htt.resolve_left (hne sep h2)
    obtain ⟨_, m, hmm⟩ := hgl.1 0 (by simp [glb])
    have := Try.bytes_Index_at ⟨bk, o, none⟩ ⟨bk2, o2, none⟩ l.length c sep.length d (l.map fun c => (c.toNat : Int)) (sep.map fun c => (c.toNat : Int)) m w (List.length_map _) (List.length_map _) (hrng l) (hrng sep) (fun i hi => hat l bk o hR i (by rwa [List.length_map])) (fun i hi => hat sep bk2 o2 hR2 i (by rwa [List.length_map])) hc1 (by omega) (by omega) hmm
    rw [bytesOf_nums, bytesOf_nums] at this
    exact this.mono fin
end Ytpddiffpanihdaa
end Go.Proofs
