/- Lines in memory; the walk of lines.Join. -/
import Derived.Test.YtamlifoakcoikaaSplit
import Derived.Handy
namespace Go.Proofs.Ytamlifoakcoikaa
open Go.RowKit

theorem SlRep.line {S : Nat → Prop} {w : World} {A : Option Addr} {n c k : Nat} {xs : List (List UInt8 × Bool)} (h : SlRep S w A n c xs) (hk : k < n) :
    ∃ b o hd nl A' c', A = some ⟨b, o, none⟩ ∧ S b ∧ xs[k]? = some (hd, nl) ∧ w.cell? ⟨b, o + k * 2, none⟩ = some (.slice A' (hd : List UInt8).length c') ∧ w.cell? ⟨b, o + k * 2 + 1, none⟩ = some (.bool nl) ∧ SlRep S w A' hd.length c' hd := by
  obtain ⟨b0, o, ⟨hd, nl⟩, cs, rfl, hS, hx, hc, c1, c2, rfl, ⟨A', m, c', rfl, h1⟩, h2⟩ := h.at_ hk
  have h2 : c2 = [.bool nl] := h2
  subst h2
  have hm := h1.1
  subst hm
  exact ⟨b0, o, hd, nl, A', c', rfl, hS, hx, hc 0 _ rfl, hc 1 _ rfl, h1⟩

/-- Lines as a text. -/
def joinLn (ls : List (List UInt8 × Bool)) : List UInt8 := ls.flatMap fun x => x.1 ++ if x.2 then [10] else []
theorem joinLn_snoc (ls : List (List UInt8 × Bool)) (x : List UInt8 × Bool) : joinLn (ls ++ [x]) = joinLn ls ++ (x.1 ++ if x.2 then [10] else []) := by simp [joinLn]
theorem joinLn_take_le (ls : List (List UInt8 × Bool)) (k : Nat) : (joinLn (ls.take k)).length ≤ (joinLn ls).length := by
  conv => rhs; rw [← List.take_append_drop k ls]
  unfold joinLn; rw [List.flatMap_append, List.length_append]; omega
theorem take_snoc_of {α : Type} {l : List α} {k : Nat} {x : α} (h : l[k]? = some x) : l.take (k + 1) = l.take k ++ [x] := by
  rw [List.take_add_one, h]; rfl

set_option maxHeartbeats 400000 in
theorem join_any {S : Nat → Prop} (A : Option Addr) (n c : Nat) (ls : List (List UInt8 × Bool)) (w : World) (hx : SlRep S w A n c ls) (hS : ∀ b, S b → b < w.heap.size) (hn : n ≤ 1000000) (hj : (joinLn ls).length ≤ 1000000) :
    Calls Try.prog 14 #[.slice A n c] w fun e w' => ∃ A' c', e = .returned (.slice A' (joinLn ls).length c') ∧ OwnB w' w.heap.size 5 (.slice A' (joinLn ls).length c') (joinLn ls) ∧ Below w.heap.size w w' := by
  have hxl := hide (hx.later hS)
  have hl := hide hx.1
  go_enter Try.func14, Try.ntmps14
  go_wp2
  go_loopw [3, 8] (fun vo vi wr => ∃ k : Nat, k ≤ n ∧ vi = .int .i64 k ∧ OwnB wr w.heap.size 5 vo (joinLn (ls.take k)) ∧ Below w.heap.size w wr) (fun _ vi _ => n - (intOf vi).toNat)
  case atStart => exact ⟨0, by omega, rfl, OwnB.nil_ _ _ _, Below.refl _ _⟩
  case round =>
    obtain ⟨k, hk, rfl, hown, hb⟩ := hrel
    by_cases hlt : k < n
    · obtain ⟨b0, o, hd, nl, A', c', rfl, hSb, hxk, hc0, hc1, hsl⟩ := (hxl.out _ hb).line hlt
      have hz := hb.size
      have hd1 : decide ((k : Int) < (n : Int)) = true := by simpa using hlt
      have hjl := joinLn_take_le ls (k + 1)
      rw [take_snoc_of hxk, joinLn_snoc, List.length_append, List.length_append] at hjl
      simp only [] at hjl
      have HJ := hide hjl
      have Hk := hide hxk
      clear hjl hxk
      have hdl : hd.length ≤ 1000000 := by have := HJ.out; omega
      have hown' := hown.alloc (.cells #[.slice A' hd.length c', .bool nl] 27)
      have hsl' : SlRep S (wr.alloc (.cells #[.slice A' hd.length c', .bool nl] 27)) A' hd.length c' hd := hsl.below hS (by go_grown)
      have hlo : ∀ b, S b → False ∨ b < (wr.alloc (.cells #[.slice A' hd.length c', .bool nl] 27)).heap.size ∧ u3.ownBlock ≠ some b := fun b h => .inr ⟨by have := hS b h; rw [World.size_alloc]; omega, fun e => by have := (hown.block _ e).1; have := hS b h; omega⟩
      have HL := hide hlo
      clear hlo
      have hbi : (wr.alloc (.cells #[.slice A' hd.length c', .bool nl] 27)).cell? ⟨wr.heap.size, 1, none⟩ = some (.bool nl) := World.cell?_alloc_at _ _ _ _ rfl
      have hbx := hide hbi
      have hba := hide (show w.heap.size ≤ (wr.alloc (.cells #[.slice A' hd.length c', .bool nl] 27)).heap.size by rw [World.size_alloc]; omega)
      have h63 : Hid ((joinLn (ls.take k)).length + hd.length ≤ maxLen) := by have := HJ.out; show _ ≤ _; simp only [maxLen]; omega
      have hby : Hid (((joinLn (ls.take k)).length + hd.length) * 1 ≤ 140737488355328) := by have := HJ.out; show _ ≤ _; omega
      clear hbi
      go_wp2_with (at_builtin; refine wpList_app rowBytes rfl _ _ rfl hown' rfl hsl' rfl HL.out h63.out hby.out hba.out ?_)
      intro v2 w2 hown2 hgr2 hat2
      have hb2 := (hb.alloc hz _).grown hgr2 (by rw [World.size_alloc]; omega) fun q hq => (hown.block q hq).1
      have hown2 := hown2.flat
      have hz2 := hb2.size
      have hbb := (gcell hgr2 (g := wr.heap.size) (o := 1) (by simp) (fun e => Nat.lt_irrefl _ (hown.block _ e).2)).1.trans hbx.out
      have hat := hide hat2
      clear hat2 hown' hsl'
      cases nl with
      | true =>
        have hch : Chunks (fun _ => False) w2 (#[Value.int .u8 10] : Array Value).toList [(10 : UInt8)] := Chunks.single rfl
        have hjj := HJ.out
        simp only [if_true, List.length_singleton] at hjj
        have h63' : Hid ((joinLn (ls.take k) ++ hd).length + 1 ≤ maxLen) := by show _ ≤ _; rw [List.length_append]; simp only [maxLen]; omega
        have hby' : Hid (((joinLn (ls.take k) ++ hd).length + 1) * 1 ≤ 140737488355328) := by show _ ≤ _; rw [List.length_append]; omega
        clear hjj
        go_wp2_with (at_builtin; refine wpList_push rowBytes rfl _ _ rfl hown2 rfl rfl hch rfl h63'.out hby'.out hz2 ?_)
        intro v3 w3 hown3 hgr3 hat3
        have hb3 := hb2.grown hgr3 hz2 fun q hq => (hown2.block q hq).1
        clear hat3
        go_wp2
        refine ⟨⟨k + 1, by omega, by go_num, ?_, hb3⟩, by simp [intOf]; omega⟩
        rw [take_snoc_of Hk.out, joinLn_snoc]
        simpa using hown3
      | false =>
        go_wp2
        refine ⟨⟨k + 1, by omega, by go_num, ?_, hb2⟩, by simp [intOf]; omega⟩
        rw [take_snoc_of Hk.out, joinLn_snoc]
        simpa using hown2
    · have hd1 : decide ((k : Int) < (n : Int)) = false := by simpa using hlt
      rw [List.take_of_length_le (by have := hl.out; omega)] at hown
      go_wp2
      go_ret
      obtain ⟨Ao, co, rfl, _, _⟩ := hown.form
      exact ⟨_, _, rfl, hown, hb⟩
end Go.Proofs.Ytamlifoakcoikaa
