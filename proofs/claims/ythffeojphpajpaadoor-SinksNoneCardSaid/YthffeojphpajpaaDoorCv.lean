/- The bytes of a string, as a slice. -/
import Derived.Lib.ConvBytes
import Derived.Test.YthffeojphpajpaaDoorFl
namespace Go.Proofs.YthffeojphpajpaaDoor
open Go.RowKit
theorem repC_bytes {R : Nat → Nat → Prop} {w : World} {b : Nat} : ∀ (l : List UInt8) (o : Nat), (∀ j, j < l.length → R b (o + j) ∧ w.cell? ⟨b, o + j, none⟩ = some (.int .u8 ((l.getD j 0).toNat : Int))) → RepR R w b o 1 (l.map eb)
  | [], _, _ => trivial
  | c :: l, o, h => by
    refine ⟨rfl, ⟨(h 0 (by simp)).1, ⟨_, (h 0 (by simp)).2, rfl, rfl⟩, trivial⟩, repC_bytes l (o + 1) fun j hj => ?_⟩
    have := h (j + 1) (by simpa using hj)
    rw [show o + (j + 1) = o + 1 + j by omega] at this
    exact this
section
variable {P : Program} {Q : Exit → Act → World → Prop} {ops : Array Oper} {g : Gh} {n : Nat} {σ : St} {K : Act → World → Prop} {t : List (Nat × Sd)} {bx : List Bx} {tk : List Tk} {rest : List Oper} {ty : TypeId} {ps : String} {af : Array Edge} {gd : Option (Nat × Bool)} {fuel : Nat} {listed : Array Bool}
theorem wp_convSB {d : Nat} {S T E : TypeId} {u : TypeDesc} {x : Operand} {s : ByteArray} (hs : s.size ≤ maxLen) (hS : P.underlying S = some u) (hT : P.underlying T = some (.slice E)) (hE : P.underlying E = some (.int .u8)) (hx : ev σ.t x = some (.v (.string s))) (hd : Nat.blt d n = true)
    (h : Hx g n ⟨(d, .sl 1 none (s.data.toList.map eb)) :: σ.t, σ.bx, σ.tk⟩ K) : Hx g n σ (fun a w => Oper.wp P ⟨some d, .convert S T x, ty, ps, af, gd⟩ a w K Q) := by
  rintro a w ⟨R, hr⟩
  have ex : a.eval x = .string s := hr.ev hx
  have hrun : (execOp a.eval ⟨some d, .convert S T x, ty, ps, af, gd⟩).run P w = .ok (.value (.slice (some ⟨w.heap.size, 0, none⟩) s.size (grownCap w s.size 0 E))) (Lib.bytesWorld w E s) := by
    simp only [execOp, ex, Sem.run_bind, Lib.run_convert_string_bytes w S T E s hS hT hE, Result.andThen_ok, Sem.run_pure]
  unfold Oper.wp
  rw [hrun]
  have hsz := Lib.bytesWorld_size w E s
  have kp : Kp R w (fun b o => R b o ∨ (b = w.heap.size ∧ o < s.size)) (Lib.bytesWorld w E s) := fun b o hb => ⟨.inl hb, Lib.bytesWorld_old w E s _ (hr.mem.lt b o hb)⟩
  have hsl : s.size = s.data.toList.length := by rw [Array.length_toList]; rfl
  have hrl : Rl (fun b o => R b o ∨ (b = w.heap.size ∧ o < s.size)) g n ⟨σ.t, σ.bx, σ.tk⟩ a (Lib.bytesWorld w E s) := by
    refine hr.move (D := fun _ => False) ⟨fun b o hb => ?_, fun x hx hne => ?_, fun t ht b c e => ?_, hr.mem.nod⟩
      ⟨rfl, rfl, rfl, by omega, fun k hk _ => Lib.bytesWorld_at_old w E s k hk, kp, fun b o hb => hb.imp id fun hb => .inl (by omega)⟩ (fun _ h => h.elim) fun _ h => .inl h
    · rcases hb with hb | hb
      · have := hr.mem.lt b o hb; omega
      · omega
    · obtain ⟨⟨us, k1, k2, k3⟩, k4⟩ := hr.mem.box x hx hne
      have hlt : x.b < w.heap.size := by
        rcases Nat.lt_or_ge x.b w.heap.size with h | h
        · exact h
        · rw [Array.getElem?_eq_none h] at k1; cases k1
      exact ⟨⟨us, (Lib.bytesWorld_at_old w E s x.b hlt).trans k1, k2.mono kp, k3⟩, fun o ho => ho.elim (k4 o) fun q => by omega⟩
    · obtain ⟨⟨us, k1, k2⟩, k3, k4⟩ := hr.mem.own t ht b c e
      have hlt : b < w.heap.size := by
        rcases Nat.lt_or_ge b w.heap.size with h | h
        · exact h
        · rw [Array.getElem?_eq_none h] at k1; cases k1
      exact ⟨⟨us, (Lib.bytesWorld_at_old w E s b hlt).trans k1, k2⟩, k3, fun o ho q => q.elim (k4 o ho) fun q => by omega⟩
  refine h _ _ ⟨_, hrl.put (by simpa [Nat.blt_eq] using hd) ⟨_, _, by rw [List.length_map, ← hsl], ⟨by rw [List.length_map, ← hsl]; exact grownCap_ge w s.size 0 E, grownCap_le_maxLen w s.size 0 E hs⟩, fun e => (by cases e), fun _ _ e => (by cases e), .inr ⟨_, _, rfl, repC_bytes _ 0 fun j hj => ?_⟩⟩⟩
  rw [← hsl] at hj
  exact ⟨.inr ⟨rfl, by omega⟩, by rw [Nat.zero_add]; exact Lib.bytesWorld_cell w E s j hj⟩
theorem xconvSB {d : Nat} {S T E : TypeId} {u : TypeDesc} {x : Operand} {s : ByteArray} (hs : s.size ≤ maxLen) (hS : P.underlying S = some u) (hT : P.underlying T = some (.slice E)) (hE : P.underlying E = some (.int .u8)) (hx : ev t x = some (.v (.string s))) (hw : want ops t gd = some true) (hd : Nat.blt d n = true)
    (h : HL P ops Q g n ⟨(d, .sl 1 none (s.data.toList.map eb)) :: t, bx, tk⟩ rest) : HL P ops Q g n ⟨t, bx, tk⟩ (⟨some d, .convert S T x, ty, ps, af, gd⟩ :: rest) :=
  ⟨hx_world (σ := ⟨t, bx, tk⟩) hw (wp_convSB (σ := ⟨t, bx, tk⟩) hs hS hT hE hx hd h.h)⟩
theorem wconvSB {d : Nat} {S T E : TypeId} {u : TypeDesc} {x : Operand} {s : ByteArray} (hs : s.size ≤ maxLen) (hS : P.underlying S = some u) (hT : P.underlying T = some (.slice E)) (hE : P.underlying E = some (.int .u8)) (hx : ev t x = some (.v (.string s))) (hw : want ops t gd = some true) (hd : Nat.blt d n = true)
    (h : HA P ops Q g n ⟨(d, .sl 1 none (s.data.toList.map eb)) :: t, bx, tk⟩ fuel listed) : HW P ops Q g n ⟨t, bx, tk⟩ fuel listed ⟨some d, .convert S T x, ty, ps, af, gd⟩ :=
  hw_ hw fun _ hK => wp_convSB (σ := ⟨t, bx, tk⟩) hs hS hT hE hx hd (h.k hK)
end
end Go.Proofs.YthffeojphpajpaaDoor
