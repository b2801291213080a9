/- The walk of the law LinesJoin. -/
import Derived.Test.YtamlifoakcoikaaLawSplit
namespace Go.Proofs.Ytamlifoakcoikaa
open Go.RowKit

/-- Is a line as a line may be: no newline within; the last one has a newline or bytes, the others a newline? -/
def okLine (last : Bool) (x : List UInt8 × Bool) : Bool := !hasNl x.1 && (x.2 || (last && decide (0 < x.1.length)))
def okTo (ls : List (List UInt8 × Bool)) : Nat → Bool
  | 0 => true
  | k + 1 => okTo ls k && (match ls[k]? with | some x => okLine (k + 1 == ls.length) x | none => true)
theorem okTo_succ {ls : List (List UInt8 × Bool)} {k : Nat} {x : List UInt8 × Bool} (h : ls[k]? = some x) : okTo ls (k + 1) = (okTo ls k && okLine (k + 1 == ls.length) x) := by rw [okTo, h]
theorem okTo_of_le {ls : List (List UInt8 × Bool)} {k n : Nat} (hk : k ≤ n) (h : okTo ls n = true) : okTo ls k = true := by
  induction n with
  | zero => rw [show k = 0 by omega]; rfl
  | succ n ih =>
    rcases Nat.lt_or_ge k (n + 1) with h1 | h1
    · rw [okTo, Bool.and_eq_true] at h; exact ih (by omega) h.1
    · rw [show k = n + 1 by omega]; exact h
theorem split_join_aux (ls : List (List UInt8 × Bool)) : ∀ (n k : Nat), k + n = ls.length → okTo ls ls.length = true → splitLn (joinLn (ls.drop k)) = ls.drop k
  | 0, k, hk, _ => by rw [List.drop_of_length_le (by omega)]; rfl
  | n + 1, k, hk, h => by
    have ih := split_join_aux ls n (k + 1) (by omega) h
    have hlt : k < ls.length := by omega
    obtain ⟨⟨hd, nl⟩, hx⟩ : ∃ x, ls[k] = x := ⟨_, rfl⟩
    have hx' : ls[k]? = some (hd, nl) := by rw [List.getElem?_eq_getElem hlt, hx]
    have h1 := okTo_of_le (k := k + 1) (by omega) h
    rw [okTo_succ hx', Bool.and_eq_true] at h1
    obtain ⟨_, h1⟩ := h1
    unfold okLine at h1
    rw [Bool.and_eq_true] at h1
    obtain ⟨hn1, hl⟩ := h1
    have hn : hasNl hd = false := by simpa using hn1
    clear hn1
    rw [List.drop_eq_getElem_cons hlt, hx]
    cases nl with
    | true =>
      have e : joinLn ((hd, true) :: ls.drop (k + 1)) = hd ++ 10 :: joinLn (ls.drop (k + 1)) := by simp [joinLn]
      rw [e, splitLn_nl _ _ hn, ih]
    | false =>
      simp only [Bool.false_or, Bool.and_eq_true, beq_iff_eq, decide_eq_true_eq] at hl
      rw [List.drop_of_length_le (by omega)]
      have e : joinLn [(hd, false)] = hd := by simp [joinLn]
      rw [e, splitLn_no _ hn (by intro e; subst e; simp at hl)]
theorem split_join {ls : List (List UInt8 × Bool)} (h : okTo ls ls.length = true) : splitLn (joinLn ls) = ls := by
  have := split_join_aux ls ls.length 0 (by omega) h
  simpa using this

def LjRel (ls : List (List UInt8 × Bool)) (w0 : World) (vw vh vi : Value) (wr : World) : Prop :=
  ∃ k : Nat, k ≤ ls.length ∧ vi = .int .i64 (k : Int) ∧ vh = .bool (okTo ls k) ∧ OwnB wr w0.heap.size 5 vw (joinLn (ls.take k)) ∧ Below w0.heap.size w0 wr ∧ (joinLn (ls.take k)).length ≤ 31 * k ∧
    ∀ j x, j < k → ls[j]? = some x → x.1.length ≤ 30

set_option maxRecDepth 100000 in
set_option maxHeartbeats 1000000 in
theorem ljoin_any (A : Option Addr) (n c : Nat) (ls : List (List UInt8 × Bool)) (w : World) (hx : SlRep (fun b => b < w.heap.size) w A n c ls) :
    Calls Try.prog 6 #[.slice A n c] w fun e w' => e = .returned (.bool true) ∧ Below w.heap.size w w' := by
  by_cases hn : n ≤ 12
  · have hd : decide ((12 : Int) < (n : Int)) = false := by simp; omega
    have hS := hide (show ∀ b, b < w.heap.size → b < w.heap.size from fun _ h => h)
    have hxl := hide (hx.later hS.out)
    have hl := hide hx.1
    go_enter Try.func6, Try.ntmps6
    go_wp2
    go_loopw [3, 4, 5] (fun vw vh vi wr => LjRel ls w vw vh vi wr) (fun _ _ vi _ => n - (intOf vi).toNat)
    case atStart => exact ⟨0, Nat.zero_le _, rfl, rfl, OwnB.nil_ _ _ _, Below.refl _ _, Nat.le_refl _, fun j x h _ => absurd h (by omega)⟩
    case round =>
      obtain ⟨k, hk, rfl, rfl, hown, hb, hlen, hall⟩ := hrel
      have HA := hide hall
      have hl' := hl.out
      have hz := hb.size
      clear hall
      by_cases hlt : k < n
      · obtain ⟨b0, o0, hd, nl, Ah, ch, rfl, hb0, hxk, hc0, hc1, hsl⟩ := (hxl.out _ hb).line hlt
        have hd1 : decide ((k : Int) < (n : Int)) = true := by simpa using hlt
        by_cases h30 : hd.length ≤ 30
        · have hd2 : decide ((30 : Int) < (hd.length : Int)) = false := by simp; omega
          have hjs : joinLn (ls.take (k + 1)) = joinLn (ls.take k) ++ (hd ++ if nl then [10] else []) := by rw [take_snoc_of hxk, joinLn_snoc]
          have hok : okTo ls (k + 1) = (okTo ls k && (!hasNl hd && (nl || ((k + 1 == ls.length) && decide (0 < hd.length))))) := okTo_succ hxk
          have hall' : Hid (∀ j x, j < k + 1 → ls[j]? = some x → x.1.length ≤ 30) := fun j x hj hx => by
            rcases Nat.lt_or_ge j k with h | h
            · exact HA.out j x h hx
            · rw [show j = k by omega, hxk] at hx; injection hx with hx; subst hx; exact h30
          have hlo : ∀ b, b < w.heap.size → False ∨ b < wr.heap.size ∧ u3.ownBlock ≠ some b := fun b h => .inr ⟨by omega, fun e => by have := (hown.block _ e).1; omega⟩
          have HLO := hide hlo
          have h63 : Hid ((joinLn (ls.take k)).length + hd.length ≤ maxLen) := by show _ ≤ _; simp only [maxLen]; omega
          have hby : Hid (((joinLn (ls.take k)).length + hd.length) * 1 ≤ 140737488355328) := by show _ ≤ _; omega
          have HJS := hide hjs
          have HOK := hide hok
          have HXK := hide hxk
          clear hlo hjs hok hxk
          go_wp2_with (at_builtin; refine wpList_app rowBytes rfl _ _ rfl hown rfl hsl rfl HLO.out h63.out hby.out hz ?_)
          intro v2 w2 hown2 hgr2 hat2
          have hown2 := hown2.flat
          have hbr : Below w.heap.size wr w2 := (Below.refl _ _).grown hgr2 hz fun q hq => (hown.block q hq).1
          have hb2 := hb.trans hbr
          have hz2 := hb2.size
          have hc0' := (hbr.cell (p := ⟨b0, o0 + k * 2, none⟩) hb0).trans hc0
          have hc1' := (hbr.cell (p := ⟨b0, o0 + k * 2 + 1, none⟩) hb0).trans hc1
          have hsl2 := hsl.below (fun _ h => h) hbr
          clear hat2 hc0 hc1
          generalize okTo ls k = W at *
          go_wp2_with fail
          go_loop [4, 6] (fun vh vj => ∃ j : Nat, j ≤ hd.length ∧ vj = .int .i64 j ∧ vh = .bool (W && !hasNl (hd.take j))) (fun _ vj => hd.length - (intOf vj).toNat)
          case atStart => exact ⟨0, Nat.zero_le _, rfl, by simp [hasNl]⟩
          case round =>
            obtain ⟨j, hj, rfl, rfl⟩ := hrel
            by_cases hjl : j < hd.length
            · obtain ⟨bh, oh, x, rfl, hbh, hxj, hcx⟩ := hsl2.byte hjl
              have hd3 : decide ((j : Int) < (hd.length : Int)) = true := by simpa using hjl
              have hnx : Hid ((W && !hasNl (hd.take (j + 1))) = ((W && !hasNl (hd.take j)) && (x != 10))) := by
                show _ = _
                rw [take_snoc_of hxj, hasNl_append, hasNl_cons]
                cases W <;> cases hasNl (hd.take j) <;> simp [hasNl, bne]
              clear hxj
              have hx10 : (((x.toNat : Int)) != 10) = (x != 10) := by
                by_cases h : x = 10
                · subst h; rfl
                · have h1 : (x != 10) = true := by simpa using h
                  rw [h1, bne_iff_ne]; intro h2; exact h (UInt8.toNat_inj.1 (by rw [show (10 : UInt8).toNat = 10 from rfl]; omega))
              generalize (W && !hasNl (hd.take j)) = V at *
              generalize (x != 10) = y at *
              cases V <;> cases y
              all_goals
                go_wp2
                exact ⟨⟨j + 1, by omega, by go_num, by rw [hnx.out]; rfl⟩, by simp [intOf]; omega⟩
            · have hd3 : decide ((j : Int) < (hd.length : Int)) = false := by simpa using hjl
              have hjj : hd.take j = hd := List.take_of_length_le (by omega)
              rw [hjj]
              clear hjj
              have hb0 : (hd.take (k + 1)).length ≤ 30 := by rw [List.length_take]; omega
              cases nl with
              | true =>
                have hjj := HJS.out
                simp only [if_true] at hjj
                have h63' : Hid ((joinLn (ls.take k) ++ hd).length + 1 ≤ maxLen) := by show _ ≤ _; rw [List.length_append]; simp only [maxLen]; omega
                have hby' : Hid (((joinLn (ls.take k) ++ hd).length + 1) * 1 ≤ 140737488355328) := by show _ ≤ _; rw [List.length_append]; omega
                have hch : Chunks (fun _ => False) w2 (#[Value.int .u8 10] : Array Value).toList [(10 : UInt8)] := Chunks.single rfl
                have HJJ := hide hjj
                clear hjj
                go_wp2_with (at_builtin; refine wpList_push rowBytes rfl _ _ rfl hown2 rfl rfl hch rfl h63'.out hby'.out hz2 ?_)
                intro v3 w3 hown3 hgr3 hat3
                have hb3 := hb2.grown hgr3 hz2 fun q hq => (hown2.block q hq).1
                clear hat3
                go_wp2
                refine ⟨⟨k + 1, by omega, by go_num, by rw [HOK.out]; simp, by rw [HJJ.out]; exact hown3, hb3, by rw [HJJ.out]; simp; omega, hall'.out⟩, by simp [intOf]; omega⟩
              | false =>
                have hjj := HJS.out
                simp only [Bool.false_eq_true, if_false, List.append_nil] at hjj
                have HJJ := hide hjj
                clear hjj
                have hok := HOK.out
                have e1 : (k + 1 == ls.length) = ((k : Int) == (n : Int) - 1) := by
                  by_cases h : k + 1 = ls.length
                  · rw [beq_iff_eq.2 h]; symm; rw [beq_iff_eq]; omega
                  · rw [beq_eq_false_iff_ne.2 h]; symm; rw [beq_eq_false_iff_ne]; omega
                have e2 : decide (0 < hd.length) = decide ((0 : Int) < (hd.length : Int)) := by simp
                rw [e1, e2, Bool.false_or] at hok
                have HO := hide hok
                have E2 := hide e2
                clear hok e1 e2
                generalize hV : (W && !hasNl hd) = V at *
                generalize hE : ((k : Int) == (n : Int) - 1) = E at *
                generalize hG : decide ((0 : Int) < (hd.length : Int)) = G at *
                have HV := hide hV
                clear hV
                cases V <;> cases E <;> cases G
                all_goals
                  go_wp2
                  refine ⟨⟨k + 1, by omega, by go_num, ?_, by rw [HJJ.out]; exact hown2, hb2, by rw [HJJ.out]; simp; omega, hall'.out⟩, by simp [intOf]; omega⟩
                  rw [HO.out, ← Bool.and_assoc, HV.out]; first | rfl | (rw [E2.out]; rfl)
        · have hd2 : decide ((30 : Int) < (hd.length : Int)) = true := by simp; omega
          clear hxk hl' hsl
          go_wp2_with (go_at_call 7; refine (awake_any _).mono ?_; rintro e w1 ⟨rfl, hb1⟩)
          go_ret
          exact ⟨rfl, bnext hb hb1⟩
      · have hkn : k = ls.length := by omega
        subst hl'
        subst hkn
        have hd1 : decide ((ls.length : Int) < (ls.length : Int)) = false := by simp
        rw [List.take_of_length_le (Nat.le_refl _)] at hown hlen
        have hsj := @split_join ls
        have HSJ := hide hsj
        clear hsj
        have hjo := join_any A ls.length c ls wr (hxl.out _ hb) (fun b hb' => Nat.lt_of_lt_of_le hb' hz) (by omega) (by omega)
        obtain ⟨Aw, cw, rfl, hsw⟩ := ownB_sl hown
        have HJ := hide hjo
        have hswl := hide (hsw.later fun b h => (hown.block b h).2)
        have hTl : (joinLn ls).length ≤ 1000000 := by omega
        have hll : ls.length ≤ 12 := by omega
        clear hjo hsw hlt hlen
        generalize okTo ls ls.length = V at *
        generalize joinLn ls = T at *
        cases V with
        | true =>
          have hsplit := HSJ.out rfl
          have HSP := hide hsplit
          clear hsplit
          go_wp2_with (go_at_call 14; refine HJ.out.mono ?_; rintro e w1 ⟨A1, c1, rfl, hown1, hb1⟩)
          obtain ⟨A1', c1', hf1, hs1⟩ := ownB_sl hown1
          injection hf1 with hf1 _ hf2
          subst hf1 hf2
          have hs1l := hide (hs1.later fun b h => (hown1.block b h).2)
          have hbw1 := bnext hb hb1
          go_wp2_with (first
            | (go_at_call 13; refine (same_eq _ _ _ _ _ _ _ _ hs1 (hswl.out _ hb1)).mono ?_; rintro e w2 ⟨rfl, hb2⟩)
            | (go_at_call 11; refine (split_any _ _ _ _ _ (hs1l.out _ hb2) (fun b h => Nat.lt_of_lt_of_le (hown1.block b h).2 hb2.size) (by omega)).mono ?_; rintro e w3 ⟨A3, c3, T3, rfl, hown3, hT3, hb3⟩; rw [HSP.out] at hown3 ⊢)
            | (go_at_call 10; refine (sameLn_eq _ _ _ _ _ _ _ _ (sl_of_own hown3) (hxl.out _ (bnext hbw1 (bnext hb2 hb3)))).mono ?_; rintro e w4 ⟨rfl, hb4⟩)
            | (go_at_call 7; refine (awake_any _).mono ?_; rintro e w5 ⟨rfl, hb5⟩))
          go_ret
          exact ⟨rfl, bnext (bnext (bnext hbw1 (bnext hb2 hb3)) hb4) hb5⟩
        | false =>
          go_wp2_with (go_at_call 14; refine HJ.out.mono ?_; rintro e w1 ⟨A1, c1, rfl, hown1, hb1⟩)
          obtain ⟨A1', c1', hf1, hs1⟩ := ownB_sl hown1
          injection hf1 with hf1 _ hf2
          subst hf1 hf2
          have hbw1 := bnext hb hb1
          go_wp2_with (first
            | (go_at_call 13; refine (same_eq _ _ _ _ _ _ _ _ hs1 (hswl.out _ hb1)).mono ?_; rintro e w2 ⟨rfl, hb2⟩)
            | (go_at_call 7; refine (awake_any _).mono ?_; rintro e w5 ⟨rfl, hb5⟩))
          go_ret
          exact ⟨rfl, bnext (bnext hbw1 hb2) hb5⟩
  · have hd : decide ((12 : Int) < (n : Int)) = true := by simp; omega
    go_enter Try.func6, Try.ntmps6
    go_wp2_with (go_at_call 7; refine (awake_any _).mono ?_; rintro e w1 ⟨rfl, hb⟩)
    go_ret
    exact ⟨rfl, hb⟩
end Go.Proofs.Ytamlifoakcoikaa
