/- strings.Builder's String, strings.Join, as contracts on what a walk knows; steps that the Builder's other methods want. -/
import Derived.Shelf.Strings.Builder1
import Derived.Shelf.Strings.OnBuilder
import Derived.Test.YtefpkpiadnpkeaaStr
import Derived.Test.YtefpkpiadnpkeaaEv
import Derived.Test.YtefpkpiadnpkeaaProg
namespace Go.Proofs
open Go.Shelf Go.RowKit
def Try.lays169_ren : Go.Shelf.Ren := ⟨fun | 169 => 19 | n => n, fun | 70 => 40 | 9 => 9 | 0 => 0 | 72 => 42 | 37 => 22 | 127 => 53 | 3 => 3 | 5 => 5 | n => n, fun | n => n⟩
theorem Try.lays169 : Go.Proofs.Lays.n169 Try.prog Try.lays169_ren := {
  mixed := by kernel_rfl
  f169 := Try.func19.trans (congrArg some (by kernel_rfl))
  t0 := Try.underlying0
  a0 := Try.isAgg0
  z0 := Try.sizeOf0
  v0 := Try.zeroValue0
  t3 := Try.underlying3
  a3 := Try.isAgg3
  z3 := Try.sizeOf3
  v3 := Try.zeroValue3
  t9 := Try.underlying9
  a9 := Try.isAgg9
  z9 := Try.sizeOf9
  v9 := Try.zeroValue9
  t37 := Try.underlying22
  a37 := Try.isAgg22
  z37 := Try.sizeOf22
  v37 := Try.zeroValue22
  t70 := Try.underlying40
  a70 := Try.isAgg40
  z70 := Try.sizeOf40
  v70 := Try.zeroValue40
  t72 := Try.underlying42
  a72 := Try.isAgg42
  z72 := Try.sizeOf42
  v72 := Try.zeroValue42
  t127 := Try.underlying53
  a127 := Try.isAgg53
  z127 := Try.sizeOf53
  v127 := Try.zeroValue53 }
theorem Try.Builder_Extra_169 : Builder.Extra Try.prog Try.lays169_ren := {
  sizeBuilder := by kernel_rfl
  liesBuilder := by kernel_rfl
  t5 := Try.underlying5
  a5 := Try.isAgg5
  z5 := Try.sizeOf5
  v5 := Try.zeroValue5
  infoByte := by kernel_rfl
  cellsByte := by kernel_rfl
  sizeByte := by kernel_rfl
  neB5 := by decide }
def Try.lays156_ren : Go.Shelf.Ren := ⟨fun | 156 => 16 | 165 => 22 | 166 => 18 | 169 => 19 | 240 => 23 | 241 => 26 | 276 => 27 | 277 => 29 | n => n, fun | 31 => 27 | 9 => 9 | 3 => 3 | 4 => 4 | 0 => 0 | 20 => 20 | 72 => 42 | 76 => 46 | 70 => 40 | 37 => 22 | 75 => 44 | 127 => 53 | 164 => 56 | 5 => 5 | 80 => 48 | n => n, fun | n => n⟩
theorem Try.lays156 : Go.Proofs.Lays.n156 Try.prog Try.lays156_ren := {
  mixed := by kernel_rfl
  f156 := Try.func16.trans (congrArg some (by kernel_rfl))
  f165 := Try.func22.trans (congrArg some (by kernel_rfl))
  f166 := Try.func18.trans (congrArg some (by kernel_rfl))
  f169 := Try.func19.trans (congrArg some (by kernel_rfl))
  f240 := Try.func23.trans (congrArg some (by kernel_rfl))
  f241 := Try.func26.trans (congrArg some (by kernel_rfl))
  f276 := Try.func27.trans (congrArg some (by kernel_rfl))
  f277 := Try.func29.trans (congrArg some (by kernel_rfl))
  t0 := Try.underlying0
  a0 := Try.isAgg0
  z0 := Try.sizeOf0
  v0 := Try.zeroValue0
  t3 := Try.underlying3
  a3 := Try.isAgg3
  z3 := Try.sizeOf3
  v3 := Try.zeroValue3
  t4 := Try.underlying4
  a4 := Try.isAgg4
  z4 := Try.sizeOf4
  v4 := Try.zeroValue4
  t9 := Try.underlying9
  a9 := Try.isAgg9
  z9 := Try.sizeOf9
  v9 := Try.zeroValue9
  t20 := Try.underlying20
  a20 := Try.isAgg20
  z20 := Try.sizeOf20
  v20 := Try.zeroValue20
  t31 := Try.underlying27
  a31 := Try.isAgg27
  z31 := Try.sizeOf27
  v31 := Try.zeroValue27
  t37 := Try.underlying22
  a37 := Try.isAgg22
  z37 := Try.sizeOf22
  v37 := Try.zeroValue22
  t70 := Try.underlying40
  a70 := Try.isAgg40
  z70 := Try.sizeOf40
  v70 := Try.zeroValue40
  t72 := Try.underlying42
  a72 := Try.isAgg42
  z72 := Try.sizeOf42
  v72 := Try.zeroValue42
  t75 := Try.underlying44
  a75 := Try.isAgg44
  z75 := Try.sizeOf44
  v75 := Try.zeroValue44
  t76 := Try.underlying46
  a76 := Try.isAgg46
  z76 := Try.sizeOf46
  v76 := Try.zeroValue46
  t127 := Try.underlying53
  a127 := Try.isAgg53
  z127 := Try.sizeOf53
  v127 := Try.zeroValue53
  t164 := Try.underlying56
  a164 := Try.isAgg56
  z164 := Try.sizeOf56
  v164 := Try.zeroValue56 }
theorem Try.Builder_Extra_156 : Builder.Extra Try.prog Try.lays156_ren := {
  sizeBuilder := by kernel_rfl
  liesBuilder := by kernel_rfl
  t5 := Try.underlying5
  a5 := Try.isAgg5
  z5 := Try.sizeOf5
  v5 := Try.zeroValue5
  infoByte := by kernel_rfl
  cellsByte := by kernel_rfl
  sizeByte := by kernel_rfl
  neB5 := by decide }
theorem Try.lays240 : Lays.n240 Try.prog Try.lays156_ren := {
  mixed := Try.lays156.mixed
  f240 := Try.lays156.f240
  f276 := Try.lays156.f276
  t0 := Try.lays156.t0
  a0 := Try.lays156.a0
  z0 := Try.lays156.z0
  v0 := Try.lays156.v0
  t4 := Try.lays156.t4
  a4 := Try.lays156.a4
  z4 := Try.lays156.z4
  v4 := Try.lays156.v4
  t9 := Try.lays156.t9
  a9 := Try.lays156.a9
  z9 := Try.lays156.z9
  v9 := Try.lays156.v9
  t20 := Try.lays156.t20
  a20 := Try.lays156.a20
  z20 := Try.lays156.z20
  v20 := Try.lays156.v20
  t70 := Try.lays156.t70
  a70 := Try.lays156.a70
  z70 := Try.lays156.z70
  v70 := Try.lays156.v70
  t72 := Try.lays156.t72
  a72 := Try.lays156.a72
  z72 := Try.lays156.z72
  v72 := Try.lays156.v72
  t164 := Try.lays156.t164
  a164 := Try.lays156.a164
  z164 := Try.lays156.z164
  v164 := Try.lays156.v164 }
theorem Try.Builder_X72_240 : Builder.X72 Try.prog Try.lays156_ren := {
  sizeBuilder := by kernel_rfl
  liesBuilder := by kernel_rfl }
section
variable {P : Program} {ρ : Ren}
set_option maxHeartbeats 1000000 in
set_option maxRecDepth 100000 in
theorem Builder_String_exact (L : Lays.n169 P ρ) (X : Builder.Extra P ρ) (b g cap : Nat) (p : Value) (cur : Array Value) (l : List UInt8) (w : World) (hbk : w.heap[b]? = some (.cells #[p, .slice (some ⟨g, 0, none⟩) l.length cap] (ρ.t 72) (0, 0))) (hg : w.heap[g]? = some (.cells cur (ρ.t 5) (0, 0)))
    (hcells : ∀ (j : Nat) (x : UInt8), l[j]? = some x → w.cell? ⟨g, j, none⟩ = some (.int .u8 x.toNat)) (hnc : l.length ≤ cap) (hcm : cap ≤ maxLen) (hcs : cur.size = cap) (h0 : l ≠ []) :
    Calls P (ρ.f 169) #[.pointer (some ⟨b, 0, none⟩)] w fun e w' => e = .returned (.string ⟨l.toArray⟩) ∧ w' = w.drew.freeze ⟨g, 0, none⟩ l.length := by
  have hl0 : l.length ≠ 0 := by simpa using h0
  have c1 : w.drew.cell? ⟨b, 1, none⟩ = some (.slice (some ⟨g, 0, none⟩) l.length cap) := by
    have : w.drew.heap[b]? = some (.cells #[p, .slice (some ⟨g, 0, none⟩) l.length cap] (ρ.t 72) (0, 0)) := hbk
    rw [Lib.cell_of_heap this]; rfl
  have hSD : (Builtin.unsafeSliceData_ #[(ρ.t 37)] (ρ.t 127) #[.slice (some ⟨g, 0, none⟩) l.length cap]).run P w.drew = .ok (.pointer (some ⟨g, 0, none⟩)) w.drew :=
    Lib.run_unsafeSliceData_row _ _ _ _ _ _ (by omega)
  have hUS : (Builtin.unsafeString_ #[(ρ.t 127), (ρ.t 3)] (ρ.t 9) #[.pointer (some ⟨g, 0, none⟩), .int .i64 l.length]).run P w.drew = .ok (.string ⟨l.toArray⟩) (w.drew.freeze ⟨g, 0, none⟩ l.length) := by
    refine Lib.run_unsafeString_row w.drew (ρ.t 127) (ρ.t 3) (ρ.t 9) (ρ.t 5) L.t127 X.cellsByte g cur.size (by have hg' : w.drew.heap[g]? = some (.cells cur (ρ.t 5) (0, 0)) := hg; simp [World.shape?, hg']) l h0 (by omega) (by unfold maxLen at hcm; omega) ?_
    intro j x hx
    have e : (⟨g, 0, none⟩ : Addr).add j = ⟨g, j, none⟩ := by unfold Addr.add; split <;> simp_all
    rw [e]
    exact hcells j x hx
  have mixed := L.mixed
  have t72 := L.t72; have a72 := L.a72; have z72 := L.z72; have v72 := L.v72; have u72 := run_underlying L.t72
  have t70 := L.t70; have a70 := L.a70; have z70 := L.z70; have v70 := L.v70; have u70 := run_underlying L.t70
  have t37 := L.t37; have a37 := L.a37; have z37 := L.z37; have v37 := L.v37; have u37 := run_underlying L.t37
  have t127 := L.t127; have a127 := L.a127; have z127 := L.z127; have v127 := L.v127; have u127 := run_underlying L.t127
  have t3 := L.t3; have a3 := L.a3; have z3 := L.z3; have v3 := L.v3; have u3 := run_underlying L.t3
  have t9 := L.t9; have a9 := L.a9; have z9 := L.z9; have v9 := L.v9; have u9 := run_underlying L.t9
  have t5 := X.t5; have a5 := X.a5; have z5 := X.z5; have v5 := X.v5; have u5 := run_underlying X.t5
  go_enter L.f169, Body.n169_ntmps ρ
  go_wp2
  go_region_o
  all_goals (go_wp2; go_ret; exact ⟨rfl, rfl⟩)
end
theorem Try.Builder_String_exact (b g cap : Nat) (p : Value) (cur : Array Value) (l : List UInt8) (w : World) (hbk : w.heap[b]? = some (.cells #[p, .slice (some ⟨g, 0, none⟩) l.length cap] 42 (0, 0))) (hg : w.heap[g]? = some (.cells cur 5 (0, 0)))
    (hcells : ∀ (j : Nat) (x : UInt8), l[j]? = some x → w.cell? ⟨g, j, none⟩ = some (.int .u8 x.toNat)) (hnc : l.length ≤ cap) (hcm : cap ≤ maxLen) (hcs : cur.size = cap) (h0 : l ≠ []) :
    Calls Try.prog 19 #[.pointer (some ⟨b, 0, none⟩)] w fun e w' => e = .returned (.string ⟨l.toArray⟩) ∧ w' = w.drew.freeze ⟨g, 0, none⟩ l.length := Go.Proofs.Builder_String_exact Try.lays169 Try.Builder_Extra_169 b g cap p cur l w hbk hg hcells hnc hcm hcs h0
theorem Try.copyCheck_used (b : Nat) (w : World) (h0 : w.cell? ⟨b, 0, none⟩ = some (.pointer (some ⟨b, 0, none⟩))) :
    Calls Try.prog 23 #[.pointer (some ⟨b, 0, none⟩)] w fun e w' => e = .returned (.tuple #[]) ∧ w' = w := Any.Builder_copyCheck_used Try.lays240 Try.Builder_X72_240 b w h0
theorem Try.copyCheck_fresh (b : Nat) (w : World) (h0 : w.cell? ⟨b, 0, none⟩ = some (.pointer none)) (hsh : w.shape? b = some (42, 2)) (hfz : w.frozen? ⟨b, 0, none⟩ = false) :
    Calls Try.prog 23 #[.pointer (some ⟨b, 0, none⟩)] w fun e w' => e = .returned (.tuple #[]) ∧ w' = w.setCell ⟨b, 0, none⟩ (.pointer (some ⟨b, 0, none⟩)) := Any.Builder_copyCheck_fresh Try.lays240 Try.Builder_X72_240 b w h0 hsh hfz
theorem Try.strings_Join_none (a : Option Addr) (c : Nat) (sep : ByteArray) (w : World) :
    Calls Try.prog 16 #[.slice a 0 c, .string sep] w fun e w' => e = .returned (.string ⟨#[]⟩) ∧ w' = w := Any.strings_Join_none Try.lays156 Try.Builder_Extra_156 a c sep w
theorem Try.strings_Join (bk o c : Nat) (xs : List ByteArray) (sep : ByteArray) (w : World) (hcells : ∀ (j : Nat) x, xs[j]? = some x → w.cell? ⟨bk, o + j, none⟩ = some (.string x)) (hbk : bk < w.heap.size) (hN : xs.length ≤ 140737488355328) (hcap : xs.length ≤ c) (hlen : (Lib.join (xs.map (·.data.toList)) sep.data.toList).length ≤ 140737488355328) :
    Calls Try.prog 16 #[.slice (some ⟨bk, o, none⟩) xs.length c, .string sep] w fun e w' => e = .returned (.string ⟨(Lib.join (xs.map (·.data.toList)) sep.data.toList).toArray⟩) ∧ Below w.heap.size w w' := Any.strings_Join Try.lays156 Try.Builder_Extra_156 bk o c xs sep w hcells hbk hN hcap hlen
namespace Ytefpkpiadnpkeaa
open Go.RowKit
theorem Builder_String_con (l : List UInt8) (b : Nat) (id : Option (Nat × Nat)) (h0 : l ≠ []) : Con Try.prog 19 [.v (.pointer (some ⟨b, 0, none⟩))] [⟨b, 42, [.v (.pointer (some ⟨b, 0, none⟩)), .sl 1 (some id) (List.map eb l)]⟩] [⟨id, 5, 1, l.length⟩] (fun rr bx tk => rr = .v (.string ⟨l.toArray⟩) ∧ bx = [] ∧ tk = []) := by
  rintro Rd w vals hm ⟨u0, r0, rfl, rfl, rfl⟩
  obtain ⟨⟨us, k1, k2, k3⟩, k4⟩ := hm.box _ (List.mem_singleton.2 rfl) (by simp)
  obtain ⟨u1, r1, e1, e2, u2, r2, e3, hsl, e4⟩ := k2
  have e2 : u1 = _ := e2
  have e4 : r2 = [] := e4
  subst e2 e4 e3
  have hus : us = #[.pointer (some ⟨b, 0, none⟩), u2] := by apply Array.ext'; rw [e1]
  obtain ⟨A, c, rfl, ⟨hc1, hc2⟩, hn, hid, hrr⟩ := hsl
  have hl : (List.map eb l).length = l.length := List.length_map _
  cases id with
  | none =>
    obtain ⟨rfl, rfl⟩ := hn rfl
    exact absurd (List.eq_nil_of_length_eq_zero (by omega)) h0
  | some q =>
    obtain ⟨g, m⟩ := q
    obtain ⟨rfl, rfl⟩ := hid g m rfl
    obtain ⟨⟨cur, q1, q2⟩, q3, q4⟩ := hm.own _ (List.mem_singleton.2 rfl) g c rfl
    have hne : List.map eb l ≠ [] := fun e => h0 (List.map_eq_nil_iff.1 e)
    obtain ⟨b', o', e5, hR⟩ := hrr.resolve_left hne
    injection e5 with e5
    injection e5 with e6 e7
    subst e6 e7
    have hcell : ∀ (j : Nat) (x : UInt8), l[j]? = some x → w.cell? ⟨g, j, none⟩ = some (.int .u8 x.toNat) := fun j x hx => by
      have h1 : (List.map eb l)[j]? = some (eb x) := by rw [List.getElem?_map, hx]; rfl
      obtain ⟨_, h2, ⟨v, h3, _, h4⟩, _⟩ := hR.at_ h1
      have h4 : v = _ := h4
      subst h4
      simpa using h3
    rw [hl] at hus
    rw [hus] at k1
    have hcall := Try.Builder_String_exact b g c (.pointer (some ⟨b, 0, none⟩)) cur l w k1 q1 hcell (by omega) hc2 (by simpa using q2) h0
    refine hcall.mono ?_
    rintro e w' ⟨rfl, rfl⟩
    have hkp : Kp Rd w Rd (w.drew.freeze ⟨g, 0, none⟩ l.length) := fun b' o' hb => ⟨hb, by
      by_cases e' : b' = g
      · subst e'
        have hq : w.drew.heap[b']? = some (.cells cur 5 (0, 0)) := q1
        have hf := freeze_heap w.drew b' l.length 0 cur 5 hq (by simpa using h0)
        simp only [World.cell?, hf, q1]
      · have : (w.drew.freeze ⟨g, 0, none⟩ l.length).heap[b']? = w.heap[b']? := freeze_other _ _ _ _ _ e'
        simp only [World.cell?, this]⟩
    refine ⟨_, _, [], [], Rd, rfl, ⟨rfl, rfl, rfl⟩, ⟨fun b' o' hb => ?_, by simp, by simp, by simp⟩, rfl, ⟨?_, ?_, ?_, ?_, fun k hk hd => ?_, hkp, fun _ _ hb => .inl hb⟩, fun b' hb => by simp [dom] at hb⟩
    · have := hm.lt b' o' hb
      unfold World.freeze; split
      · exact this
      · simpa using this
    · unfold World.freeze; split <;> rfl
    · unfold World.freeze; split <;> rfl
    · unfold World.freeze; split <;> rfl
    · unfold World.freeze; split <;> simp
    · refine freeze_other _ _ _ _ _ fun e => hd ?_
      subst e
      unfold dom
      rw [List.mem_append]
      exact .inr (by simp [tkb])
def strings_Join_R (l : List ByteArray) (sep : ByteArray) (r : ByteArray) : Prop := (l.length ≤ 1000000 ∧ (Lib.join (l.map (·.data.toList)) sep.data.toList).length ≤ 140737488355328) ∧ r = ⟨(Lib.join (l.map (·.data.toList)) sep.data.toList).toArray⟩
def strings_Join_ev (_fuel : Nat) (l : List ByteArray) (sep : ByteArray) : Option ByteArray := if l.length ≤ 1000000 ∧ (Lib.join (l.map (·.data.toList)) sep.data.toList).length ≤ 140737488355328 then some ⟨(Lib.join (l.map (·.data.toList)) sep.data.toList).toArray⟩ else none
theorem strings_Join_ok {fuel : Nat} {l : List ByteArray} {sep r : ByteArray} (h : strings_Join_ev fuel l sep = some r) : strings_Join_R l sep r := by
  obtain ⟨h1, h2⟩ := if_ok h
  exact ⟨h1, (Option.some.inj h2).symm⟩
theorem strings_Join_con (l : List ByteArray) (sep r : ByteArray) (h : strings_Join_R l sep r) : Con Try.prog 16 [.sl 1 none (List.map es l), .v (.string sep)] [] [] (Ret (.v (.string r))) := by
  obtain ⟨⟨h1, h2⟩, rfl⟩ := h
  rintro Rd w vals hm ⟨u0, _, rfl, hs, u1, _, rfl, rfl, rfl⟩
  obtain ⟨A, c, rfl, ⟨hc1, hc2⟩, _, _, hrr⟩ := hs
  rw [List.length_map] at hc1 ⊢
  have fin : ∀ e w', e = Ending.returned (Value.string ⟨(Lib.join (l.map (·.data.toList)) sep.data.toList).toArray⟩) ∧ Below w.heap.size w w' → RP [] [] Rd w (Ret (.v (.string ⟨(Lib.join (l.map (·.data.toList)) sep.data.toList).toArray⟩))) e w' := by
    rintro e w' ⟨rfl, hb⟩
    refine ⟨_, _, [], [], Rd, rfl, ⟨rfl, rfl, rfl⟩, ⟨fun b o h => Nat.lt_of_lt_of_le (hm.lt b o h) hb.size, by simp, by simp, by simp⟩, rfl, ⟨hb.os, hb.tape, hb.output, hb.size, fun k hk _ => hb.block k hk, fun b o h => ⟨h, ?_⟩, fun _ _ h => .inl h⟩, fun b hb => by simp [dom] at hb⟩
    simp only [World.cell?, hb.block b (hm.lt b o h)]
  rcases hrr with hnil | ⟨bk, o, rfl, hR⟩
  · obtain rfl := List.map_eq_nil_iff.1 hnil
    refine (Try.strings_Join_none A c sep w).mono fun e w' ⟨he, hw⟩ => fin e w' ⟨?_, hw ▸ Below.refl _ _⟩
    rw [he]; rfl
  · by_cases hl0 : l = []
    · subst hl0
      refine (Try.strings_Join_none _ c sep w).mono fun e w' ⟨he, hw⟩ => fin e w' ⟨?_, hw ▸ Below.refl _ _⟩
      rw [he]; rfl
    · have hat : ∀ (j : Nat) x, l[j]? = some x → Rd bk (o + j) ∧ w.cell? ⟨bk, o + j, none⟩ = some (.string x) := fun j x hx => by
        have h3 : (List.map es l)[j]? = some (es x) := by rw [List.getElem?_map, hx]; rfl
        obtain ⟨_, h4, ⟨v, h5, _, h6⟩, _⟩ := hR.at_ h3
        have h6 : v = _ := h6
        subst h6
        rw [Nat.mul_one] at h4 h5
        exact ⟨h4, h5⟩
      obtain ⟨x0, hx0⟩ : ∃ x, l[0]? = some x := ⟨_, List.getElem?_eq_getElem (List.length_pos_iff.2 hl0)⟩
      exact (Try.strings_Join bk o c l sep w (fun j x hx => (hat j x hx).2) (hm.lt bk _ (hat 0 x0 hx0).1) (by omega) hc1 h2).mono fin
/-- copyCheck. -/
theorem copy_used (b : Nat) (s : Sd) : Con Try.prog 23 [.v (.pointer (some ⟨b, 0, none⟩))] [⟨b, 42, [.v (.pointer (some ⟨b, 0, none⟩)), s]⟩] [] (fun rr bx tk => rr = .tup [] ∧ bx = [⟨b, 42, [.v (.pointer (some ⟨b, 0, none⟩)), s]⟩] ∧ tk = []) := by
  rintro Rd w vals hm ⟨u0, r0, rfl, rfl, rfl⟩
  obtain ⟨⟨us, k1, k2, k3⟩, k4⟩ := hm.box _ (List.mem_singleton.2 rfl) (by simp)
  have k2' := k2
  obtain ⟨u1, r1, e1, e2, _⟩ := k2'
  have e2 : u1 = _ := e2
  subst e2
  have hc : w.cell? ⟨b, 0, none⟩ = some (.pointer (some ⟨b, 0, none⟩)) := by
    rw [cell_of_row w b 0 us _ (0, 0) k1, ← Array.getElem?_toList, e1]; rfl
  refine (Try.copyCheck_used b w hc).mono ?_
  rintro e w' ⟨rfl, rfl⟩
  exact ⟨_, _, _, _, Rd, rfl, ⟨rfl, rfl, rfl⟩, hm, ⟨#[], rfl, rfl⟩, Mv.refl _ _ _, fun b' hb => .inl hb⟩
theorem copy_fresh (b : Nat) (s : Sd) : Con Try.prog 23 [.v (.pointer (some ⟨b, 0, none⟩))] [⟨b, 42, [.v (.pointer none), s]⟩] [] (fun rr bx tk => rr = .tup [] ∧ bx = [⟨b, 42, [.v (.pointer (some ⟨b, 0, none⟩)), s]⟩] ∧ tk = []) := by
  rintro Rd w vals hm ⟨u0, r0, rfl, rfl, rfl⟩
  obtain ⟨⟨us, k1, k2, k3⟩, k4⟩ := hm.box _ (List.mem_singleton.2 rfl) (by simp)
  obtain ⟨u1, r1, e1, e2, u2, r2, e3, hs, e4⟩ := k2
  have e2 : u1 = _ := e2
  have e4 : r2 = [] := e4
  subst e2 e4 e3
  have hus : us = #[.pointer none, u2] := by apply Array.ext'; rw [e1]
  subst hus
  have k1' : w.heap[b]? = some (.cells #[.pointer none, u2] 42 (0, 0)) := k1
  have hlt := (Array.getElem?_eq_some_iff.1 k1').1
  have hc : w.cell? ⟨b, 0, none⟩ = some (.pointer none) := by rw [cell_of_row w b 0 _ _ (0, 0) k1']; rfl
  refine (Try.copyCheck_fresh b w hc (by simp [World.shape?, k1']) (by simp [World.frozen?, k1'])).mono ?_
  rintro e w' ⟨rfl, rfl⟩
  have hoth : ∀ k, k ≠ b → (w.setCell ⟨b, 0, none⟩ (.pointer (some ⟨b, 0, none⟩))).heap[k]? = w.heap[k]? := fun k hk => Below.heap_setCell _ _ _ _ hk
  have hnew : (w.setCell ⟨b, 0, none⟩ (.pointer (some ⟨b, 0, none⟩))).heap[b]? = some (.cells #[.pointer (some ⟨b, 0, none⟩), u2] 42 (0, 0)) := by
    simp [World.setCell, Array.getElem?_modify, k1']
  have hsz : (w.setCell ⟨b, 0, none⟩ (.pointer (some ⟨b, 0, none⟩))).heap.size = w.heap.size := by simp [World.setCell]
  have kp : Kp Rd w Rd (w.setCell ⟨b, 0, none⟩ (.pointer (some ⟨b, 0, none⟩))) := fun b' o' hb => ⟨hb, by
    have hne : b' ≠ b := fun e => k4 o' (e ▸ hb)
    simp only [World.cell?, hoth b' hne]⟩
  refine ⟨_, _, _, _, Rd, rfl, ⟨rfl, rfl, rfl⟩, ⟨fun b' o' hb => by rw [hsz]; exact hm.lt b' o' hb, fun x hx hne => ?_, by simp, by simp [bxb]⟩, ⟨#[], rfl, rfl⟩, ⟨rfl, rfl, rfl, by rw [hsz]; exact Nat.le_refl _, fun k hk hd => hoth k fun e => hd ?_, kp, fun _ _ hb => .inl hb⟩, fun b' hb => .inl ?_⟩
  · obtain rfl := List.mem_singleton.1 hx
    refine ⟨⟨_, hnew, ⟨_, _, rfl, rfl, _, _, rfl, hs.mono kp, rfl⟩, fun u hu => ?_⟩, k4⟩
    simp at hu
    rcases hu with rfl | rfl
    · rfl
    · exact k3 u (by simp)
  · subst e; simp [dom, bxb]
  · simpa [dom, bxb] using hb
end Ytefpkpiadnpkeaa
end Go.Proofs
