/- The walk of palinoderef02.Split. -/
import Derived.Test.YtamlifoakcoikaaLine
namespace Go.Proofs.Ytamlifoakcoikaa
open Go.RowKit

def RsRel (xs : List UInt8) (w0 : World) (vo vc vi : Value) (wr : World) : Prop :=
  ∃ (done : List (List UInt8 × Bool)) (cur : List UInt8) (S : Nat → Prop) (k : Nat), vi = .int .i64 (k : Int) ∧ k ≤ xs.length ∧
    Own S wr w0.heap.size 27 vo done ∧ (∀ b, S b → w0.heap.size ≤ b) ∧ OwnB wr w0.heap.size 5 vc cur ∧ Apart vo vc ∧ Below w0.heap.size w0 wr ∧
    done.length ≤ k ∧ cur.length ≤ k ∧
    ((k = xs.length ∧ done = splitLn xs) ∨ (k < xs.length ∧ (∀ b, S b → vc.ownBlock ≠ some b) ∧ hasNl cur = false ∧ done ++ splitLn (cur ++ xs.drop k) = splitLn xs))

theorem line_chunk {S : Nat → Prop} {w : World} {base : Nat} {E : TypeId} {A : Option Addr} {c : Nat} {ys : List UInt8} (h : OwnB w base E (.slice A ys.length c) ys) (nl : Bool) :
    Chunks (fun b => S b ∨ (Value.slice A ys.length c).ownBlock = some b) w (#[Value.slice A ys.length c, Value.bool nl] : Array Value).toList [(ys, nl)] := by
  obtain ⟨A2, c2, h1, h2⟩ := ownB_sl h
  injection h1 with h1 _ h3
  subst h1 h3
  exact Chunks.single ⟨[.slice A ys.length c], [.bool nl], rfl, ⟨_, _, _, rfl, h2.sub fun b h => .inr h⟩, rfl⟩

set_option maxHeartbeats 400000 in
theorem refSplit_any {S : Nat → Prop} (A : Option Addr) (n c : Nat) (xs : List UInt8) (w : World) (hx : SlRep S w A n c xs) (hS : ∀ b, S b → b < w.heap.size) (hn : n ≤ 1000000) :
    Calls Try.prog 8 #[.slice A n c] w fun e w' => ∃ A' c' T, e = .returned (.slice A' (splitLn xs).length c') ∧ Own T w' w.heap.size 27 (.slice A' (splitLn xs).length c') (splitLn xs) ∧
      (∀ b, T b → w.heap.size ≤ b) ∧ Below w.heap.size w w' := by
  have hxl := hide (hx.later hS)
  have hl := hide hx.1
  go_enter Try.func8, Try.ntmps8
  go_wp2
  go_loopw [3, 4, 5] (fun vo vc vi wr => RsRel xs w vo vc vi wr) (fun _ _ vi _ => n - (intOf vi).toNat)
  case atStart =>
    refine ⟨[], [], fun _ => False, 0, rfl, Nat.zero_le _, Own.nil_ _ _ _ _ fun _ h => h.elim, fun _ h => h.elim, OwnB.nil_ _ _ _, Apart.nil_left _ _ _, Below.refl _ _, Nat.le_refl _, Nat.le_refl _, ?_⟩
    cases xs with
    | nil => exact .inl ⟨rfl, rfl⟩
    | cons b l => exact .inr ⟨by simp, fun _ h => h.elim, rfl, rfl⟩
  case round =>
    obtain ⟨done, cur, T, k, rfl, hk, hown, hT, hcur, hne, hb, hdl, hcl, hcase⟩ := hrel
    have hz := hb.size
    have hl' := hl.out
    by_cases hlt : k < n
    · obtain ⟨b0, o0, x, rfl, _, hxk, hcx⟩ := (hxl.out _ hb).byte hlt
      have hcs : (∀ b, T b → u4.ownBlock ≠ some b) ∧ hasNl cur = false ∧ done ++ splitLn (cur ++ xs.drop k) = splitLn xs := by
        rcases hcase with ⟨h, _⟩ | ⟨_, h⟩
        · omega
        · exact h
      obtain ⟨hoff, hnl, hsp⟩ := hcs
      have hdr : xs.drop k = x :: xs.drop (k + 1) := by
        obtain ⟨h1, h2⟩ := List.getElem?_eq_some_iff.1 hxk
        rw [← h2]; exact List.drop_eq_getElem_cons h1
      rw [hdr] at hsp
      have hob := hown.block
      have hcb := hcur.block
      have hof := hide hoff
      have hn1 := hide hnl
      have hs1 := hide hsp
      have hx1 := hide hxk
      have hl1 := hide hl'
      have hd1 : decide ((k : Int) < (n : Int)) = true := by simpa using hlt
      clear hcase hdr hnl hsp hxk hl' hoff
      obtain ⟨Ac, cc, hf, _, _⟩ := hcur.form
      subst hf
      by_cases hx10 : x = 10
      · subst hx10
        have hE := hown.with_ hcur hne
        have hC := line_chunk (S := T) hcur true
        have h63 : Hid (done.length + 1 ≤ maxLen) := by show _ ≤ _; simp only [maxLen]; omega
        have hby : Hid ((done.length + 1) * 32 ≤ 140737488355328) := by show _ ≤ _; omega
        have ht : ((((10 : UInt8).toNat : Int)) == 10) = true := rfl
        go_wp2_with (at_builtin; refine wpList_push rowLine rfl _ _ rfl hE rfl rfl hC rfl h63.out hby.out hz ?_)
        intro v2 w2 hown2 hgr2 hat2
        have hb2 := hb.grown hgr2 hz fun q hq => (hob q hq).1
        have hat := hide hat2
        clear hat2
        go_wp2
        refine ⟨⟨done ++ [(cur, true)], [], _, k + 1, rfl, by have := hl1.out; omega, hown2, fun b h => h.elim (hT b) fun h => (hcb b h).1, OwnB.nil_ _ _ _, Apart.nil_right _ _ _, hb2, by simp; omega, by simp, ?_⟩, by simp [intOf]; omega⟩
        · have e := hs1.out
          rw [splitLn_nl _ _ hn1.out] at e
          rcases Nat.lt_or_ge (k + 1) xs.length with h | h
          · exact .inr ⟨h, fun b _ => by simp [Value.ownBlock], rfl, by rw [List.append_assoc]; exact e⟩
          · refine .inl ⟨by have := hl1.out; omega, ?_⟩
            rw [← e, List.drop_of_length_le h]; rfl
      · have ht : (((x.toNat : Int)) == 10) = false := by
          rw [beq_eq_false_iff_ne]; intro h; exact hx10 (UInt8.toNat_inj.1 (by rw [show (10 : UInt8).toNat = 10 from rfl]; omega))
        have hxb : (x == 10) = false := by simpa using hx10
        have hn2 : hasNl (cur ++ [x]) = false := by rw [hasNl_append, hn1.out, hasNl_cons, hxb]; rfl
        have h63 : Hid (cur.length + 1 ≤ maxLen) := by show _ ≤ _; simp only [maxLen]; omega
        have hby : Hid ((cur.length + 1) * 1 ≤ 140737488355328) := by show _ ≤ _; omega
        have hC : Chunks (fun _ => False) wr (#[Value.int .u8 (x.toNat : Int)] : Array Value).toList [x] := Chunks.single rfl
        have H2 := hide hn2
        clear hxb hn2 hx10
        by_cases hlast : k + 1 = n
        · have hq : ((k : Int) == (n : Int) - 1) = true := by rw [beq_iff_eq]; omega
          have hls := hide hlast
          clear hlast
          go_wp2_with (at_builtin; refine wpList_push rowBytes rfl _ _ rfl hcur rfl rfl hC rfl h63.out hby.out hz ?_)
          intro v2 w2 hcur2 hgr2 hat2
          obtain ⟨cu, hcu⟩ : ∃ cu, cu = cur ++ [x] := ⟨_, rfl⟩
          have hcl2 : cu.length ≤ k + 1 := by rw [hcu, List.length_append]; simp; omega
          rw [← hcu] at hcur2
          have HCU := hide hcu
          clear hcu
          have hb2 := hb.grown hgr2 hz fun q hq => (hcb q hq).1
          have hz2 := hb2.size
          have hne2 : Apart u3 v2 := (hne.symm.step hat2 fun b h => (hob b h).2).symm
          have hown2 := hown.grow hgr2 hne hof.out
          have hob2 := hown2.block
          have hcb2 := hcur2.block
          have hat := hide hat2
          clear hat2
          obtain ⟨A2, c2, hf2, _, _⟩ := hcur2.form
          have hE := hown2.with_ hcur2 hne2
          subst hf2
          have hC2 := line_chunk (S := T) hcur2 false
          have h63' : Hid (done.length + 1 ≤ maxLen) := by show _ ≤ _; simp only [maxLen]; omega
          have hby' : Hid ((done.length + 1) * 32 ≤ 140737488355328) := by show _ ≤ _; omega
          clear hC
          have HC2 := hide hC2
          have HE := hide hE
          clear hC2 hE
          go_wp2_with (at_builtin; refine wpList_push rowLine rfl _ _ rfl HE.out rfl rfl HC2.out rfl h63'.out hby'.out hz2 ?_)
          intro v3 w3 hown3 hgr3 hat3
          have hb3 := hb2.grown hgr3 hz2 fun q hq => (hob2 q hq).1
          have hat := hide hat3
          clear hat3
          go_wp2
          refine ⟨⟨done ++ [(cu, false)], cu, _, k + 1, rfl, by have := hl1.out; omega, hown3, fun b h => h.elim (hT b) fun h => (hcb2 b h).1, OwnB.grow hcur2 hgr3 hne2.symm, hne2.step hat.out fun b h => (hcb2 b h).2, hb3, by simp; omega, hcl2, .inl ⟨by have := hl1.out; have := hls.out; omega, ?_⟩⟩, by simp [intOf]; omega⟩
          · have e := hs1.out
            rw [List.drop_of_length_le (by have := hl1.out; have := hls.out; omega), ← HCU.out, splitLn_no _ (by rw [HCU.out]; exact H2.out) (by rw [HCU.out]; simp)] at e
            exact e
        · have hq : ((k : Int) == (n : Int) - 1) = false := by rw [beq_eq_false_iff_ne]; omega
          have hls := hide hlast
          clear hlast
          go_wp2_with (at_builtin; refine wpList_push rowBytes rfl _ _ rfl hcur rfl rfl hC rfl h63.out hby.out hz ?_)
          intro v2 w2 hcur2 hgr2 hat2
          have hb2 := hb.grown hgr2 hz fun q hq => (hcb q hq).1
          have hne2 : Apart u3 v2 := (hne.symm.step hat2 fun b h => (hob b h).2).symm
          have hown2 := hown.grow hgr2 hne hof.out
          have hat := hide hat2
          clear hat2 hC
          go_wp2
          refine ⟨⟨done, cur ++ [x], T, k + 1, rfl, by have := hl1.out; omega, hown2, hT, hcur2, hne2, hb2, by omega, by simp; omega, .inr ⟨by have := hl1.out; have := hls.out; omega, ?_, H2.out, ?_⟩⟩, by simp [intOf]; omega⟩
          · intro b hb' e
            rcases hat.out with e' | ⟨q, e', hq⟩
            · exact hof.out b hb' (e'.symm.trans e)
            · rw [e'] at e; injection e with e; have := hown.lt b hb'; omega
          · rw [List.append_assoc]; exact hs1.out
    · have hd1 : decide ((k : Int) < (n : Int)) = false := by simpa using hlt
      have hd0 : done = splitLn xs := by
        rcases hcase with ⟨_, h⟩ | ⟨h, _⟩
        · exact h
        · omega
      subst hd0
      clear hcase hl'
      go_wp2
      go_ret
      obtain ⟨Ao, co, rfl, _, _⟩ := hown.form
      exact ⟨_, _, T, rfl, hown, hT, hb⟩
end Go.Proofs.Ytamlifoakcoikaa
