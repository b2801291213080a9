/- Pointers to what nobody changes, as lists; a variable that is written no more. -/
import Derived.Test.YtpddiffpanihdaaRng
namespace Go.Proofs.Ytpddiffpanihdaa
open Go.RowKit
theorem Wk.nil_pt (cs : List Sd) : Wk (.v (.pointer none)) (.pt true cs) := fun _ _ _ h => h
theorem Wk.el_pt (cs : List Sd) : Wk (.el cs) (.pt false cs) := fun _ _ _ h => h
section
variable {P : Program} {g : Gh} {n : Nat} {σ : St} {d : Option Nat} {ty : TypeId} {ps : String} {af : Array Edge} {gd : Option (Nat × Bool)}
theorem pv_nilCheckPt {x : Operand} {z : Bool} {cs cs' : List Sd} (hz : z = false) (hc : cs = cs') (hx : ev σ.t x = some (.pt z cs)) : Val P g n σ ⟨d, .nilCheck x, ty, ps, af, gd⟩ (.el cs') := by
  subst hz; subst hc
  refine ⟨fun R a w hr => ?_⟩
  obtain ⟨b, o, h1, h2⟩ := hr.ev hx
  exact ⟨_, ⟨b, o, rfl, h2⟩, fun W => by simp [execOp, h1]⟩
theorem eqpt_run {t e : TypeId} {z : Bool} {cs : List Sd} {R : Nat → Nat → Prop} {w : World} {u : Value} (hu : P.underlying t = some (.pointer e)) (h : RepS R w (.pt z cs) u) (x y : Operand) (W : World) :
    (do eqGuard .eql t x y u (.pointer none); binOp .eql t u (.pointer none) : Sem Value).run P W = .ok (.bool z) W ∧ (do eqGuard .neq t x y u (.pointer none); binOp .neq t u (.pointer none) : Sem Value).run P W = .ok (.bool (!z)) W := by
  have key : ∃ q, u = .pointer q ∧ (Op.equal t u (.pointer none)).run P W = .ok z W := by
    cases z with
    | true => obtain rfl : u = .pointer none := h; exact ⟨_, rfl, equal_run hu W rfl⟩
    | false => obtain ⟨b, o, rfl, _⟩ := h; exact ⟨_, rfl, equal_run hu W rfl⟩
  obtain ⟨q, rfl, h3⟩ := key
  constructor
  · show Sem.run P (Op.equal t _ _ >>= fun q => pure (Value.bool q)) W = _
    rw [Sem.run_bind, h3]; rfl
  · show Sem.run P (Op.equal t _ _ >>= fun q => pure (Value.bool (!q))) W = _
    rw [Sem.run_bind, h3]; rfl
theorem pv_eqPt {t yt e : TypeId} {x y : Operand} {z : Bool} {cs : List Sd} (hu : P.underlying t = some (.pointer e)) (hx : ev σ.t x = some (.pt z cs)) (hy : ev σ.t y = some (.v (.pointer none))) : Val P g n σ ⟨d, .binOp .eql t x y yt, ty, ps, af, gd⟩ (.v (.bool z)) := by
  refine ⟨fun R a w hr => ⟨_, rfl, fun W => ?_⟩⟩
  have h2 : a.eval y = .pointer none := hr.ev hy
  have h3 := (eqpt_run (P := P) hu (hr.ev hx) x y W).1
  simp only [Sem.run_bind] at h3
  simp only [execOp, Sem.run_bind, h2, h3]
  rfl
theorem pv_nePt {t yt e : TypeId} {x y : Operand} {z : Bool} {cs : List Sd} (hu : P.underlying t = some (.pointer e)) (hx : ev σ.t x = some (.pt z cs)) (hy : ev σ.t y = some (.v (.pointer none))) : Val P g n σ ⟨d, .binOp .neq t x y yt, ty, ps, af, gd⟩ (.v (.bool (!z))) := by
  refine ⟨fun R a w hr => ⟨_, rfl, fun W => ?_⟩⟩
  have h2 : a.eval y = .pointer none := hr.ev hy
  have h3 := (eqpt_run (P := P) hu (hr.ev hx) x y W).2
  simp only [Sem.run_bind] at h3
  simp only [execOp, Sem.run_bind, h2, h3]
  rfl
/-- A variable that is written no more. -/
theorem hx_freezeB {Φ : Act → World → Prop} {i dd b : Nat} {E : TypeId} {cs : List Sd} (hb : σ.bx[i]? = some ⟨b, E, cs⟩) (hcs : cs ≠ []) (hl : look σ.t dd = some (.v (.pointer (some ⟨b, 0, none⟩))))
    (h : Hx g n ⟨(dd, .pt false cs) :: σ.t, σ.bx.eraseIdx i, σ.tk⟩ Φ) : Hx g n σ Φ := by
  rintro a w ⟨R, hr⟩
  obtain ⟨v, hv, hv2⟩ := hr.tm _ _ hl
  obtain rfl : v = .pointer (some ⟨b, 0, none⟩) := hv2
  have hsub : (σ.bx.eraseIdx i).Sublist σ.bx := List.eraseIdx_sublist _ _
  have hmem := List.mem_of_getElem? hb
  obtain ⟨⟨us, k1, k2, k3⟩, k4⟩ := hr.mem.box _ hmem hcs
  have hnod := hr.mem.nod
  have hblt := k1.lt
  have hxb : bxb (⟨b, E, cs⟩ : Bx) = some b := bxb_some (x := ⟨b, E, cs⟩) hcs
  have hnotin : b ∉ (σ.bx.eraseIdx i).filterMap bxb ++ σ.tk.filterMap tkb := by
    have h6 : σ.bx = σ.bx.take i ++ (⟨b, E, cs⟩ : Bx) :: σ.bx.drop (i + 1) := by
      have hlt := (List.getElem?_eq_some_iff.1 hb).1
      have he := (List.getElem?_eq_some_iff.1 hb).2
      rw [← he, ← List.drop_eq_getElem_cons hlt, List.take_append_drop]
    rw [h6, List.filterMap_append, List.filterMap_cons, hxb, List.append_assoc] at hnod
    have h8 := (List.nodup_cons.1 (List.perm_middle.nodup_iff.1 hnod)).1
    rw [List.eraseIdx_eq_take_drop_succ, List.filterMap_append, List.append_assoc]
    exact h8
  have hlen := k2.length
  have kp : Kp R w (fun b' o => R b' o ∨ (b' = b ∧ o < cs.length)) w := fun b' o hb => ⟨.inl hb, rfl⟩
  have hm : MemOk (fun b' o => R b' o ∨ (b' = b ∧ o < cs.length)) (σ.bx.eraseIdx i) σ.tk w := by
    refine ⟨fun b' o hb => ?_, fun x hx hne0 => ?_, fun t ht b' c e => ?_, hnod.sublist ((hsub.filterMap _).append (List.Sublist.refl _))⟩
    · rcases hb with hb | ⟨rfl, _⟩
      · exact hr.mem.lt b' o hb
      · exact hblt
    · obtain ⟨⟨us', q1, q2, q3⟩, q4⟩ := hr.mem.box x (hsub.subset hx) hne0
      refine ⟨⟨us', q1, q2.mono kp, q3⟩, fun o ho => ?_⟩
      rcases ho with ho | ⟨e, _⟩
      · exact q4 o ho
      · exact hnotin (List.mem_append.2 (.inl (List.mem_filterMap.2 ⟨x, hx, by rw [bxb_some hne0, e]⟩)))
    · obtain ⟨q1, q2, q3⟩ := hr.mem.own t ht b' c e
      refine ⟨q1, q2, fun o ho hR => ?_⟩
      rcases hR with hR | ⟨e2, _⟩
      · exact q3 o ho hR
      · exact hnotin (List.mem_append.2 (.inr (List.mem_filterMap.2 ⟨t, ht, by simp [tkb, e, e2]⟩)))
  have hdb : g.D b ∨ g.w.heap.size ≤ b := hr.dm b (by unfold dom; exact List.mem_append.2 (.inl (List.mem_filterMap.2 ⟨_, hmem, hxb⟩)))
  refine h a w ⟨_, hm, ?_, fun b' hb' => hr.dm b' ?_, hr.df, hr.sz, fun d s hd => ?_⟩
  · refine ⟨hr.mv.os, hr.mv.tape, hr.mv.output, hr.mv.size, hr.mv.block, hr.mv.keep.trans kp, fun b' o hR => ?_⟩
    rcases hR with hR | ⟨rfl, _⟩
    · exact hr.mv.new b' o hR
    · exact .inr (hdb.symm)
  · unfold dom at hb' ⊢
    exact ((hsub.filterMap _).append (List.Sublist.refl _)).subset hb'
  · simp only [look] at hd
    cases hbd : Nat.beq dd d with
    | true =>
      rw [hbd] at hd
      obtain rfl := Nat.eq_of_beq_eq_true hbd
      obtain rfl := Option.some.inj hd
      refine ⟨_, hv, ⟨b, 0, rfl, RepC.of_vals (k2.mono kp) k3 fun j u hj => ⟨.inr ⟨rfl, ?_⟩, ?_⟩⟩⟩
      · have := (List.getElem?_eq_some_iff.1 hj).1; simp only at hlen; omega
      · rw [Nat.zero_add]; exact (k1.cell j).trans (by simpa using hj)
    | false =>
      rw [hbd] at hd
      obtain ⟨v, q1, q2⟩ := hr.tm d s hd
      exact ⟨v, q1, q2.mono kp⟩
end
section
variable {P : Program} {ops : Array Oper} {Q : Exit → Act → World → Prop} {g : Gh} {n : Nat} {t : List (Nat × Sd)} {bx : List Bx} {tk : List Tk} {rest : List Oper} {fuel : Nat} {listed : Array Bool}
theorem xfreezeB (i dd : Nat) {b : Nat} {E : TypeId} {c : Sd} {cs : List Sd} (hb : bx[i]? = some ⟨b, E, c :: cs⟩) (hl : look t dd = some (.v (.pointer (some ⟨b, 0, none⟩))))
    (h : HL P ops Q g n ⟨(dd, .pt false (c :: cs)) :: t, bx.eraseIdx i, tk⟩ rest) : HL P ops Q g n ⟨t, bx, tk⟩ rest := ⟨hx_freezeB (σ := ⟨t, bx, tk⟩) hb (by simp) hl h.h⟩
theorem pfreezeB (i dd : Nat) {b : Nat} {E : TypeId} {c : Sd} {cs : List Sd} (hb : bx[i]? = some ⟨b, E, c :: cs⟩) (hl : look t dd = some (.v (.pointer (some ⟨b, 0, none⟩))))
    (h : HA P ops Q g n ⟨(dd, .pt false (c :: cs)) :: t, bx.eraseIdx i, tk⟩ fuel listed) : HA P ops Q g n ⟨t, bx, tk⟩ fuel listed := ⟨hx_freezeB (σ := ⟨t, bx, tk⟩) hb (by simp) hl h.h⟩
end
def consE {α β : Type} (l : List α) (f : α → List α → Option β) : Option β := match l with
  | [] => none
  | x :: t => f x t
theorem consE_ok {α β : Type} {l : List α} {f : α → List α → Option β} {r : β} (h : consE l f = some r) : ∃ x t, l = x :: t ∧ f x t = some r := by
  cases l with
  | nil => cases h
  | cons x t => exact ⟨x, t, rfl, h⟩
end Go.Proofs.Ytpddiffpanihdaa
