/- The walks of slices.Clone at bytes, bytes.IndexByte, lines.Cut. -/
import Derived.Test.YtamlifoakcoikaaRows
import Derived.Test.YtamlifoakcoikaaOwn
import Derived.Test.YtamlifoakcoikaaSame
import Derived.Lib.BytesEntry
import Derived.Test.YtamlifoakcoikaaNl
namespace Go.Proofs.Ytamlifoakcoikaa
open Go.RowKit

theorem rowBytes : RowTy Try.prog 22 5 (Rp.size UInt8) 1 := by
  refine ⟨Try.underlying22, ?_, by decide⟩
  obtain ⟨i, h1, h2, h3, h4⟩ := info_parts (show (Try.prog.info? 5).map (fun i => (i.zero, i.size, i.bytes)) = some (some (.int .u8 0), 1, 1) by kernel_rfl)
  exact ⟨i, _, h1, h2, h3, h4, rfl⟩
theorem rowLine : RowTy Try.prog 24 27 (Rp.size (List UInt8 × Bool)) 32 := by
  refine ⟨Try.underlying24, ?_, by decide⟩
  obtain ⟨i, h1, h2, h3, h4⟩ := info_parts (show (Try.prog.info? 27).map (fun i => (i.zero, i.size, i.bytes)) = some (some (.agg #[.slice none 0 0, .bool false]), 2, 32) by kernel_rfl)
  exact ⟨i, _, h1, h2, h3, h4, rfl⟩

set_option maxHeartbeats 400000 in
theorem clone_any {S : Nat → Prop} (A : Option Addr) (n c : Nat) (xs : List UInt8) (w : World) (hx : SlRep S w A n c xs) (hS : ∀ b, S b → b < w.heap.size) (hn : n ≤ 1000000) :
    Calls Try.prog 17 #[.slice A n c] w fun e w' => ∃ A' c', e = .returned (.slice A' xs.length c') ∧ OwnB w' w.heap.size 5 (.slice A' xs.length c') xs ∧ Below w.heap.size w w' := by
  have hq := fun W => Lib.run_eql_slice_nil (P := Try.prog) W 22 _ A n c 0 0 Try.underlying22
  cases A with
  | none =>
    simp only [Option.isNone] at hq
    have hx0 : xs = [] := by
      rcases Nat.eq_zero_or_pos n with h | h
      · exact List.eq_nil_of_length_eq_zero (hx.1.trans h)
      · obtain ⟨_, _, h', _⟩ := hx.2.2 h; cases h'
    go_enter Try.func17, Try.ntmps17
    go_wp2
    go_ret
    exact ⟨none, 0, by rw [hx0]; rfl, by rw [hx0]; exact OwnB.nil_ _ _ _, Below.refl _ _⟩
  | some ad =>
    simp only [Option.isNone] at hq
    have h0 : OwnB (w.alloc (.cells #[] 5)) w.heap.size 5 (.slice (some ⟨w.heap.size, 0, none⟩) 0 0) ([] : List UInt8) :=
      Own.new_ w #[] _ 0 rfl (by simp [maxLen]) (fun _ h => h.elim) (Nat.le_refl _) rfl
    have hx1 : SlRep S (w.alloc (.cells #[] 5)) (some ad) n c xs := hx.below hS ((Below.refl _ _).alloc (Nat.le_refl _) _)
    go_enter Try.func17, Try.ntmps17
    have c1 : ∀ b, S b → False ∨ b < (w.alloc (.cells #[] 5)).heap.size ∧ (Value.slice (some ⟨w.heap.size, 0, none⟩) 0 0).ownBlock ≠ some b :=
      fun b hb => .inr ⟨Nat.lt_of_lt_of_le (hS b hb) (by simp), by have := hS b hb; simp [Value.ownBlock]; omega⟩
    have H1 := hide c1
    clear c1
    go_wp2_with (at_builtin; refine wpList_app rowBytes rfl _ _ rfl h0 rfl hx1 rfl H1.out (by simp only [maxLen, List.length_nil]; omega) (by simp only [List.length_nil]; omega) (by simp) ?_; intro v' w' hown hgr hat)
    go_ret
    obtain ⟨A', c', rfl, _, _⟩ := hown.form
    exact ⟨_, _, rfl, hown.flat, ((Below.refl _ _).alloc (Nat.le_refl _) _).grown hgr (by simp) (by simp [Value.ownBlock])⟩

set_option maxHeartbeats 400000 in
theorem indexByte_any {S : Nat → Prop} (A : Option Addr) (n c : Nat) (xs : List UInt8) (cv : Int) (x : UInt8) (w : World) (hcv : cv = (x.toNat : Int)) (hx : SlRep S w A n c xs) :
    Calls Try.prog 16 #[.slice A n c, .int .u8 cv] w fun e w' => e = .returned (.int .i64 (Lib.indexByte xs x)) ∧ w = w' := by
  subst hcv
  have hr : (Extern.BytealgIndexByte.indexByte #[.slice A n c, .int .u8 (x.toNat : Int)]).run Try.prog w = .ok (.int .i64 (Lib.indexByte xs x)) w := by
    have hs := Lib.run_indexByteString (P := Try.prog) ⟨xs.toArray⟩ (x.toNat : Int) w
    have hl : (Extern.Bytes.bytesOf (.slice A n c)).run Try.prog w = .ok ⟨xs.toArray⟩ w := by
      rcases Nat.eq_zero_or_pos n with h | h
      · subst h
        have hx0 : xs = [] := List.eq_nil_of_length_eq_zero hx.1
        subst hx0
        cases A <;> rfl
      · obtain ⟨b0, o0, rfl, _, hrow⟩ := hx.2.2 h
        have := Lib.run_loadBytesX (P := Try.prog) w (xs.map fun b => (b.toNat : Int)) ⟨b0, o0, none⟩ .empty (fun j y hj => by
          rw [List.getElem?_map] at hj
          cases hb : xs[j]? with
          | none => rw [hb] at hj; cases hj
          | some b =>
            rw [hb] at hj
            simp at hj
            subst hj
            obtain ⟨cs, hc, hr⟩ := hrow j b hb
            have hr : cs = [.int .u8 b.toNat] := hr
            subst hr
            have h1 := hc 0 _ rfl
            rw [show j * Rp.size UInt8 = j from Nat.mul_one j, Nat.add_zero] at h1
            rw [add_mk]; exact h1)
        rw [List.length_map, hx.1] at this
        rw [show Extern.Bytes.bytesOf (.slice (some ⟨b0, o0, none⟩) n c) = Extern.Bytes.loadBytes ⟨b0, o0, none⟩ n .empty from rfl, this]
        congr 1
        apply ByteArray.ext
        show (#[] : Array UInt8) ++ (Lib.bytesOf (xs.map fun b => (b.toNat : Int))).toArray = xs.toArray
        simp only [Lib.bytesOf, List.map_map]
        rw [show ((fun n : Int => UInt8.ofNat n.toNat) ∘ fun b : UInt8 => (b.toNat : Int)) = id from funext fun b => by simp, List.map_id]
        simp
    have e2 : (Extern.Bytes.bytesOf (.string ⟨xs.toArray⟩)).run Try.prog w = .ok ⟨xs.toArray⟩ w := rfl
    have e3 : ∀ v, Extern.BytealgIndexByte.indexByte #[v, .int .u8 (x.toNat : Int)] = (do
        let b ← Extern.Bytes.bytesOf v
        let c ← Extern.Bytes.asByte (.int .u8 (x.toNat : Int))
        match (List.range b.size).find? fun i => b[i]! == c with
        | some i => pure (goInt i)
        | none => pure (goInt (-1))) := fun _ => rfl
    rw [e3, Sem.run_bind, e2, Result.andThen_ok] at hs
    rw [e3, Sem.run_bind, hl, Result.andThen_ok, hs]
    simp
  go_enter Try.func16, Try.ntmps16
  go_wp2
  rw [run_callFunc_extern Try.func18 (by kernel_rfl) (by kernel_rfl) (by kernel_rfl) (e := Extern.BytealgIndexByte.indexByte) (by kernel_rfl), hr]
  simp only [Result.andThen]
  rw [Oper.upon_value]
  go_wp2
  go_ret
  exact ⟨rfl, rfl⟩

set_option maxHeartbeats 400000 in
theorem cut_any {S : Nat → Prop} (A : Option Addr) (n c k : Nat) (xs : List UInt8) (w : World) (hx : SlRep S w A n c xs) (hS : ∀ b, S b → b < w.heap.size) (hn : n ≤ 1000000) (hk : k < n) :
    Calls Try.prog 15 #[.slice A n c, .int .i64 (k : Int)] w fun e w' => ∃ A' c', e = .returned (.tuple #[.agg #[.slice A' (headLn (xs.drop k)).length c', .bool (hasNl (xs.drop k))],
      .int .i64 ((k + (headLn (xs.drop k)).length + (if hasNl (xs.drop k) then 1 else 0) : Nat) : Int), .bool true]) ∧ OwnB w' w.heap.size 5 (.slice A' (headLn (xs.drop k)).length c') (headLn (xs.drop k)) ∧ Below w.heap.size w w' := by
  obtain ⟨hnc, hcm⟩ := hx.2.1
  unfold maxLen at hcm
  have hck : ¬ c = k := by omega
  obtain ⟨b0, o0, rfl, _, hd⟩ := hx.dropB hk
  have hdl := hide (hd.later hS)
  have h0 : decide ((k : Int) < 0) = false := by simp
  have h1 : decide ((n : Int) ≤ (k : Int)) = false := by simp; omega
  have hi := index_nl (xs.drop k)
  have hle := headLn_le (xs.drop k)
  have hlt := @headLn_lt (xs.drop k)
  have htk := headLn_take (xs.drop k)
  have hal := @headLn_all (xs.drop k)
  rw [List.length_drop, hx.1] at hle hlt
  generalize hasNl (xs.drop k) = b at *
  generalize hH : headLn (xs.drop k) = H at *
  generalize hl : H.length = l at *
  have HT := hide htk
  have HA := hide hal
  clear htk hal hH
  cases b with
  | true =>
    have hlt := hlt rfl
    simp only [if_true] at hi ⊢
    have HI := hide hi
    have HL := hide hl
    clear hi hl
    have h2 : decide ((0 : Int) ≤ (l : Int)) = true := by simp
    go_enter Try.func15, Try.ntmps15
    go_wp2_with (first
      | (go_at_call 16; refine (indexByte_any _ _ _ _ _ 10 _ rfl (hdl.out _ (by repeat (first | exact Below.refl _ _ | assumption | refine Below.alloc ?_ (by first | assumption | omega | (simp; done) | (simp; omega)) _ | refine Below.drew ?_ | refine below_drewN ?_ _ | refine Below.setCell ?_ (by first | assumption | omega | (simp; done) | (simp; omega)) _)))).mono ?_; rintro e w' ⟨rfl, rfl⟩; rw [HI.out])
      | (go_at_call 17; refine (clone_any _ _ _ H _ (HT.out ▸ (hdl.out _ (by repeat (first | exact Below.refl _ _ | assumption | refine Below.alloc ?_ (by first | assumption | omega | (simp; done) | (simp; omega)) _ | refine Below.drew ?_ | refine below_drewN ?_ _ | refine Below.setCell ?_ (by first | assumption | omega | (simp; done) | (simp; omega)) _))).take hle) (fun b hb => Nat.lt_of_lt_of_le (hS b hb) (Below.size (B := w.heap.size) (w := w) (by repeat (first | exact Below.refl _ _ | assumption | refine Below.alloc ?_ (by first | assumption | omega | (simp; done) | (simp; omega)) _ | refine Below.drew ?_ | refine below_drewN ?_ _ | refine Below.setCell ?_ (by first | assumption | omega | (simp; done) | (simp; omega)) _)))) (by omega)).mono ?_; rintro e w1 ⟨A', c', rfl, hown, hb⟩; obtain ⟨hcl, hfz⟩ := bcell hb))
    have HL := HL.out
    subst HL
    refine bodyPost_ret (v := .tuple #[.agg #[.slice A' H.length c', .bool true], .int .i64 ((k + H.length + 1 : Nat) : Int), .bool true]) (by simp [results, Try.results15, go_sem, hcl]) rfl ⟨_, _, rfl, ?_, ?_⟩
    · exact ((hown.setBelow (by simp) _).setBelow (by simp) _).base_le (by simp)
    · exact ((((Below.refl _ _).alloc (Nat.le_refl _) _).trans (hb.mono (by simp))).setCell (by simp) _).setCell (by simp) _
  | false =>
    have hal := HA.out rfl
    have hl' : l = n - k := by rw [← hl, hal, List.length_drop, hx.1]
    simp only [Bool.false_eq_true, if_false] at hi ⊢
    have HI := hide hi
    have HL := hide hl
    have HX := hide hal
    have HN := hide hl'
    clear hi hl hal hl' hlt
    have h2 : decide ((0 : Int) ≤ (-1 : Int)) = false := by simp
    go_enter Try.func15, Try.ntmps15
    go_wp2_with (first
      | (go_at_call 16; refine (indexByte_any _ _ _ _ _ 10 _ rfl (hdl.out _ (by repeat (first | exact Below.refl _ _ | assumption | refine Below.alloc ?_ (by first | assumption | omega | (simp; done) | (simp; omega)) _ | refine Below.drew ?_ | refine below_drewN ?_ _ | refine Below.setCell ?_ (by first | assumption | omega | (simp; done) | (simp; omega)) _)))).mono ?_; rintro e w' ⟨rfl, rfl⟩; rw [HI.out])
      | (go_at_call 17; refine (clone_any _ _ _ H _ (HX.out ▸ (hdl.out _ (by repeat (first | exact Below.refl _ _ | assumption | refine Below.alloc ?_ (by first | assumption | omega | (simp; done) | (simp; omega)) _ | refine Below.drew ?_ | refine below_drewN ?_ _ | refine Below.setCell ?_ (by first | assumption | omega | (simp; done) | (simp; omega)) _)))) (fun b hb => Nat.lt_of_lt_of_le (hS b hb) (Below.size (B := w.heap.size) (w := w) (by repeat (first | exact Below.refl _ _ | assumption | refine Below.alloc ?_ (by first | assumption | omega | (simp; done) | (simp; omega)) _ | refine Below.drew ?_ | refine below_drewN ?_ _ | refine Below.setCell ?_ (by first | assumption | omega | (simp; done) | (simp; omega)) _)))) (by omega)).mono ?_; rintro e w1 ⟨A', c', rfl, hown, hb⟩; obtain ⟨hcl, hfz⟩ := bcell hb))
    have HL := HL.out
    subst HL
    have HN := HN.out
    have e : ((n : Nat) : Int) = ((k + H.length + 0 : Nat) : Int) := by omega
    refine bodyPost_ret (v := .tuple #[.agg #[.slice A' H.length c', .bool false], .int .i64 ((k + H.length + 0 : Nat) : Int), .bool true]) (by rw [← e]; simp [results, Try.results15, go_sem, hcl]) rfl ⟨_, _, rfl, ?_, ?_⟩
    · exact ((hown.setBelow (by simp) _).setBelow (by simp) _).base_le (by simp)
    · exact ((((Below.refl _ _).alloc (Nat.le_refl _) _).trans (hb.mono (by simp))).setCell (by simp) _).setCell (by simp) _

/-- A place that is none. -/
theorem cut_none (A : Option Addr) (n c : Nat) (k : Int) (w : World) (hk : k < 0 ∨ (n : Int) ≤ k) :
    Calls Try.prog 15 #[.slice A n c, .int .i64 k] w fun e w' => e = .returned (.tuple #[.agg #[.slice none 0 0, .bool false], .int .i64 0, .bool false]) ∧ Below w.heap.size w w' := by
  by_cases h0 : k < 0
  · have h1 : decide (k < 0) = true := by simpa using h0
    go_enter Try.func15, Try.ntmps15
    go_wp2
    exact bodyPost_ret (v := .tuple #[.agg #[.slice none 0 0, .bool false], .int .i64 0, .bool false]) (by simp [results, Try.results15, go_sem]) rfl ⟨rfl, (by repeat (first | exact Below.refl _ _ | assumption | refine Below.alloc ?_ (by first | assumption | omega | (simp; done) | (simp; omega)) _ | refine Below.drew ?_ | refine below_drewN ?_ _ | refine Below.setCell ?_ (by first | assumption | omega | (simp; done) | (simp; omega)) _))⟩
  · have h1 : decide (k < 0) = false := by simpa using h0
    have h2 : decide ((n : Int) ≤ k) = true := by simp; omega
    go_enter Try.func15, Try.ntmps15
    go_wp2
    exact bodyPost_ret (v := .tuple #[.agg #[.slice none 0 0, .bool false], .int .i64 0, .bool false]) (by simp [results, Try.results15, go_sem]) rfl ⟨rfl, (by repeat (first | exact Below.refl _ _ | assumption | refine Below.alloc ?_ (by first | assumption | omega | (simp; done) | (simp; omega)) _ | refine Below.drew ?_ | refine below_drewN ?_ _ | refine Below.setCell ?_ (by first | assumption | omega | (simp; done) | (simp; omega)) _))⟩
end Go.Proofs.Ytamlifoakcoikaa
