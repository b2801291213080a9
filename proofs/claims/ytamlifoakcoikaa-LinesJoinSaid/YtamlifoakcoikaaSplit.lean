/- The walk of lines.Split. -/
import Derived.Test.YtamlifoakcoikaaCut
namespace Go.Proofs.Ytamlifoakcoikaa
open Go.RowKit

/-- What Cut tells of a place. -/
def CutTells (xs : List UInt8) (k : Nat) (hd : List UInt8) (nl : Bool) (nx : Nat) (ok : Bool) : Prop :=
  (ok = true ∧ k < nx ∧ nx ≤ xs.length ∧ (hd, nl) :: splitLn (xs.drop nx) = splitLn (xs.drop k)) ∨ (ok = false ∧ splitLn (xs.drop k) = [])

theorem cut_all {S : Nat → Prop} (A : Option Addr) (n c : Nat) (ki : Int) (k : Nat) (xs : List UInt8) (w : World) (hki : ki = (k : Int)) (hx : SlRep S w A n c xs) (hS : ∀ b, S b → b < w.heap.size) (hn : n ≤ 1000000) (hk : k ≤ n) :
    Calls Try.prog 15 #[.slice A n c, .int .i64 ki] w fun e w' => ∃ A' c' hd nl nx ok, e = .returned (.tuple #[.agg #[.slice A' (hd : List UInt8).length c', .bool nl], .int .i64 ((nx : Nat) : Int), .bool ok]) ∧
      OwnB w' w.heap.size 5 (.slice A' hd.length c') hd ∧ CutTells xs k hd nl nx ok ∧ Below w.heap.size w w' := by
  subst hki
  have hl := hx.1
  rcases Nat.lt_or_ge k n with h | h
  · refine (cut_any A n c k xs w hx hS hn h).mono ?_
    rintro e w' ⟨A', c', rfl, h1, h2⟩
    have hne : xs.drop k ≠ [] := fun e => by have := congrArg List.length e; simp at this; omega
    have h3 := lnLen_le (xs.drop k)
    have h4 := lnLen_pos hne
    have h5 := splitLn_eq _ hne
    rw [List.length_drop] at h3
    refine ⟨A', c', _, hasNl (xs.drop k), k + lnLen (xs.drop k), true, ?_, h1, .inl ⟨rfl, by omega, by omega, ?_⟩, h2⟩
    · simp only [lnLen, Nat.add_assoc]
    · rw [h5, List.drop_drop]
  · refine (cut_none A n c k w (.inr (by omega))).mono ?_
    rintro e w' ⟨rfl, h1⟩
    exact ⟨none, 0, [], false, 0, false, rfl, OwnB.nil_ _ _ _, .inr ⟨rfl, by rw [List.drop_of_length_le (by omega)]; rfl⟩, h1⟩

/-- The loop's relation: what is done, and the line in the variable's box. -/
def SplRel (xs : List UInt8) (w0 : World) (vo vb va vk : Value) (wr : World) : Prop :=
  ∃ (done : List (List UInt8 × Bool)) (S : Nat → Prop) (g : Nat) (A : Option Addr) (c : Nat) (hd : List UInt8) (nl : Bool) (nx : Nat) (ok : Bool),
    vb = .pointer (some ⟨g, 0, none⟩) ∧ w0.heap.size ≤ g ∧ wr.cell? ⟨g, 0, none⟩ = some (.slice A hd.length c) ∧ wr.cell? ⟨g, 1, none⟩ = some (.bool nl) ∧
    wr.frozen? ⟨g, 0, none⟩ = false ∧ wr.frozen? ⟨g, 1, none⟩ = false ∧ g < wr.heap.size ∧
    Own S wr w0.heap.size 27 vo done ∧ vo.ownBlock ≠ some g ∧ (∀ b, S b → w0.heap.size ≤ b) ∧ Below w0.heap.size w0 wr ∧
    vk = .bool ok ∧ va = .int .i64 (nx : Int) ∧ OwnB wr w0.heap.size 5 (.slice A hd.length c) hd ∧ (vo.ownBlock = none ∨ vo.ownBlock ≠ (Value.slice A hd.length c).ownBlock) ∧
    ((ok = true ∧ nx ≤ xs.length ∧ done ++ (hd, nl) :: splitLn (xs.drop nx) = splitLn xs) ∨ (ok = false ∧ done = splitLn xs))
def splMu (n : Nat) (va vk : Value) : Nat := match vk with | .bool true => n - (intOf va).toNat + 1 | _ => 0

set_option maxHeartbeats 400000 in
theorem split_any {S : Nat → Prop} (A : Option Addr) (n c : Nat) (xs : List UInt8) (w : World) (hx : SlRep S w A n c xs) (hS : ∀ b, S b → b < w.heap.size) (hn : n ≤ 1000000) :
    Calls Try.prog 11 #[.slice A n c] w fun e w' => ∃ A' c' T, e = .returned (.slice A' (splitLn xs).length c') ∧ Own T w' w.heap.size 27 (.slice A' (splitLn xs).length c') (splitLn xs) ∧
      (∀ b, T b → w.heap.size ≤ b) ∧ Below w.heap.size w w' := by
  have hxl := hide (hx.later hS)
  have hl := hide hx.1
  go_enter Try.func11, Try.ntmps11
  go_wp2_with (go_at_call 15; refine (cut_all _ _ _ _ 0 _ _ rfl (hxl.out _ (by repeat (first | exact Below.refl _ _ | assumption | refine Below.alloc ?_ (by first | assumption | omega | (simp; done) | (simp; omega)) _ | refine Below.drew ?_ | refine below_drewN ?_ _ | refine Below.setCell ?_ (by first | assumption | omega | (simp; done) | (simp; omega)) _))) (fun b hb => Nat.lt_of_lt_of_le (hS b hb) (Below.size (B := w.heap.size) (w := w) (by repeat (first | exact Below.refl _ _ | assumption | refine Below.alloc ?_ (by first | assumption | omega | (simp; done) | (simp; omega)) _ | refine Below.drew ?_ | refine below_drewN ?_ _ | refine Below.setCell ?_ (by first | assumption | omega | (simp; done) | (simp; omega)) _)))) hn (by omega)).mono ?_; rintro e w1 ⟨A1, c1, hd1, nl1, nx1, ok1, rfl, hown1, ht1, hb1⟩)
  go_loopw [3, 4, 5, 6] (fun vo vb va vk wr => SplRel xs w vo vb va vk wr) (fun _ _ va vk _ => splMu n va vk)
  case atStart =>
    have hlt := hown1.block
    refine ⟨[], fun _ => False, w1.heap.size, A1, c1, hd1, nl1, nx1, ok1, rfl, hb1.size, by simp, by simp, by simp, by simp, by simp, Own.nil_ _ _ _ _ fun _ h => h.elim, by simp [Value.ownBlock], fun _ h => h.elim,
      hb1.alloc hb1.size _, rfl, rfl, hown1.alloc _, .inl rfl, ?_⟩
    rcases ht1 with ⟨h1, h2, h3, h4⟩ | ⟨h1, h2⟩
    · exact .inl ⟨h1, h3, h4⟩
    · exact .inr ⟨h1, h2.symm⟩
  case round =>
    obtain ⟨done, T, g, A', c', hd, nl, nx, ok, rfl, hg, hc0, hc1, hf0, hf1, hgs, hown, hog, hT, hbel, rfl, rfl, hln, hne, hcase⟩ := hrel
    cases ok with
    | false =>
      have hd0 : done = splitLn xs := by rcases hcase with ⟨h, _⟩ | ⟨_, h⟩; cases h; exact h
      subst hd0
      clear hcase
      go_wp2
      go_ret
      obtain ⟨Ao, co, rfl, _, _⟩ := hown.form
      exact ⟨_, _, T, rfl, hown, hT, hbel⟩
    | true =>
      have hcs : nx ≤ xs.length ∧ done ++ (hd, nl) :: splitLn (xs.drop nx) = splitLn xs := by rcases hcase with ⟨_, h⟩ | ⟨h, _⟩; exact h; cases h
      obtain ⟨hnx, hdone⟩ := hcs
      have hbl := hln.block
      have hob := hown.block
      have hsl := hln.sl
      have HD := hide hdone
      have hlen : (done ++ (hd, nl) :: splitLn (xs.drop nx)).length ≤ xs.length := by rw [hdone]; exact splitLn_length xs
      rw [List.length_append, List.length_cons] at hlen
      have hE : Own (fun b => T b ∨ (Value.slice A' hd.length c').ownBlock = some b) wr w.heap.size 27 u3 done :=
        hown.sub (fun b h => .inl h) (fun b h => h.elim (hown.lt b) fun h => (hbl b h).2) (fun b h => h.elim (hown.off b) fun h e => by
          rcases hne with h' | h'
          · rw [h'] at e; cases e
          · exact h' (e.trans h.symm))
      have hch : Chunks (fun b => T b ∨ (Value.slice A' hd.length c').ownBlock = some b) wr (#[Value.slice A' hd.length c', Value.bool nl] : Array Value).toList [(hd, nl)] := by
        obtain ⟨A2, c2, h1, _, h2⟩ := hsl
        injection h1 with h1 _ h3
        subst h1 h3
        exact Chunks.single ⟨[.slice A' hd.length c'], [.bool nl], rfl, ⟨_, _, _, rfl, h2.sub fun b h => .inr (h.elim False.elim id)⟩, rfl⟩
      have HE := hide hE
      have HC := hide hch
      have HL := hide hlen
      clear hE hch hsl hcase hdone hlen
      go_wp2_with (at_builtin; refine wpList_push rowLine rfl _ _ rfl HE.out rfl rfl HC.out rfl ?_ ?_ ?_ ?_)
      · have := HL.out; have := hl.out; simp only [maxLen]; omega
      · have := HL.out; have := hl.out; omega
      · exact hbel.size
      intro v2 w2 hown2 hgr2 hat2
      have hg0 := (gcell hgr2 (o := 0) hgs hog).1.trans hc0
      have hg1 := (gcell hgr2 (o := 1) hgs hog).1.trans hc1
      have hbel2 := hbel.grown hgr2 hbel.size fun k hk => (hob k hk).1
      have hz2 := hbel2.size
      have hat := hide hat2
      clear hat2 hc0 hc1 hf0 hf1
      go_wp2_with (go_at_call 15; refine (cut_all _ _ _ _ nx _ _ rfl (hxl.out _ (by repeat (first | exact Below.refl _ _ | assumption | refine Below.alloc ?_ (by first | assumption | omega | (simp; done) | (simp; omega)) _ | refine Below.drew ?_ | refine below_drewN ?_ _ | refine Below.setCell ?_ (by first | assumption | omega | (simp; done) | (simp; omega)) _))) (fun b hb => Nat.lt_of_lt_of_le (hS b hb) (Below.size (B := w.heap.size) (w := w) (by repeat (first | exact Below.refl _ _ | assumption | refine Below.alloc ?_ (by first | assumption | omega | (simp; done) | (simp; omega)) _ | refine Below.drew ?_ | refine below_drewN ?_ _ | refine Below.setCell ?_ (by first | assumption | omega | (simp; done) | (simp; omega)) _)))) hn (by have := hl.out; omega)).mono ?_; rintro e w3 ⟨A3, c3, hd3, nl3, nx3, ok3, rfl, hown3, ht3, hb3⟩; obtain ⟨hcl, hfz⟩ := bcell hb3)
      have hb3' : Below w2.heap.size w2 w3 := ((Below.refl _ _).alloc (Nat.le_refl _) _).trans (hb3.mono (by simp))
      have hz3 := hb3.size
      rw [World.size_alloc] at hz3
      have h1b := hown2.lt
      have h2b := hown2.block
      have h3b := hown3.block
      have h2s := two_set (w := w3) (g := w2.heap.size) (.slice A3 hd3.length c3) (.bool nl3) ((hcl _ 0 (by simp)).trans (World.cell?_alloc_at _ _ _ _ rfl)) ((hcl _ 1 (by simp)).trans (World.cell?_alloc_at _ _ _ _ rfl))
      have hf2 : ∀ k, v2.ownBlock = some k → k ≠ w2.heap.size := fun k hk e => by have := (h2b k hk).2; omega
      have hl1 : (Value.slice A3 hd3.length c3).ownBlock ≠ some w2.heap.size := fun e => by have := (h3b _ e).1; rw [World.size_alloc] at this; omega
      have hw2 : v2.ownBlock ≠ some w2.heap.size := fun e => hf2 _ e rfl
      refine ⟨⟨done ++ [(hd, nl)], _, w2.heap.size, A3, c3, hd3, nl3, nx3, ok3, rfl, hz2, h2s.1, h2s.2, by simp [hfz], by simp [hfz], by simp; omega,
        ((hown2.below hb3').setFar hw2 (fun h => Nat.lt_irrefl _ (h1b _ h)) _).setFar hw2 (fun h => Nat.lt_irrefl _ (h1b _ h)) _, hw2, ?_, ?_, rfl, rfl,
        ((hown3.base_le (by simp; omega)).setFar hl1 (fun h => h) _).setFar hl1 (fun h => h) _, ?_, ?_⟩, ?_⟩
      · exact fun b h => h.elim (hT b) fun h => (hbl b h).1
      · exact ((hbel2.trans (hb3'.mono hz2)).setCell hz2 _).setCell hz2 _
      · cases h : v2.ownBlock with
        | none => exact .inl rfl
        | some k => exact .inr fun e => by have h5 := (h3b _ e.symm).1; have := (h2b _ h).2; rw [World.size_alloc] at h5; omega
      · rcases ht3 with ⟨h1, h2, h3, h4⟩ | ⟨h1, h2⟩
        · exact .inl ⟨h1, h3, by rw [List.append_assoc, List.singleton_append, h4]; exact HD.out⟩
        · exact .inr ⟨h1, by rw [← HD.out, h2]⟩
      · rcases ht3 with ⟨h1, h2, h3, h4⟩ | ⟨h1, h2⟩
        · subst h1; have := hl.out; simp [splMu, intOf]; omega
        · subst h1; simp [splMu]
end Go.Proofs.Ytamlifoakcoikaa
