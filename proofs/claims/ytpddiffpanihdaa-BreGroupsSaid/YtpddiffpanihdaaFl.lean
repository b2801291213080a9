/- A statement whose order is open: loads that may come at any time beside a chain of other operations. -/
import Derived.Test.YtpddiffpanihdaaAu
namespace Go.Proofs.Ytpddiffpanihdaa
open Go.RowKit
structure Flt where
  i : Nat
  d : Nat
  s : Sd
def flChk (ops : Array Oper) (i : Option Nat) (l : Array Bool) (td : List Nat) : Bool :=
  let r := Region.ready .any ops l
  match i with
  | some i => !r.isEmpty && r.all fun j => Nat.beq j i || td.contains j
  | none => td.isEmpty || (!r.isEmpty && r.all fun j => td.contains j)
/-- Whatever of them has been listed, only they and the next of the chain may come. -/
def flOK (ops : Array Oper) (i : Option Nat) : Nat → Array Bool → List Nat → Bool
  | 0, l, td => flChk ops i l td
  | n + 1, l, td => flChk ops i l td && td.all fun f => flOK ops i n (l.setIfInBounds f true) (td.erase f)
def flFree (ops : Array Oper) (i : Nat) : Nat → Array Bool → List Nat → Bool
  | 0, l, _ => Region.free .any ops l i && (Region.ready .any ops l).contains i
  | n + 1, l, td => (Region.free .any ops l i && (Region.ready .any ops l).contains i) && td.all fun f => flFree ops i n (l.setIfInBounds f true) (td.erase f)
inductive Rch (listed : Array Bool) (Fl : List Nat) : List Nat → Array Bool → List Nat → Prop where
  | start : Rch listed Fl [] listed Fl
  | exec {D : List Nat} {l : Array Bool} {td : List Nat} {f : Nat} (h : Rch listed Fl D l td) (hf : f ∈ td) : Rch listed Fl (f :: D) (l.setIfInBounds f true) (td.erase f)
theorem Rch.mark {listed : Array Bool} {Fl D : List Nat} {l : Array Bool} {td : List Nat} (h : Rch listed Fl D l td) (c : Nat) : Rch (listed.setIfInBounds c true) Fl D (l.setIfInBounds c true) td := by
  induction h with
  | start => exact .start
  | @exec D l td f h hf ih =>
    have := ih.exec hf
    by_cases e : f = c
    · subst e; exact this
    · rw [Array.setIfInBounds_comm _ _ e]; exact this
theorem Rch.len {listed : Array Bool} {Fl D : List Nat} {l : Array Bool} {td : List Nat} (h : Rch listed Fl D l td) : D.length + td.length = Fl.length := by
  induction h with
  | start => simp
  | exec h hf ih =>
    have := List.length_pos_of_mem hf
    rw [List.length_cons, List.length_erase_of_mem hf]; omega
theorem Rch.ok {ops : Array Oper} {i : Option Nat} {listed : Array Bool} {Fl D : List Nat} {l : Array Bool} {td : List Nat} (h : Rch listed Fl D l td) : flOK ops i Fl.length listed Fl = true → flOK ops i td.length l td = true := by
  intro h0
  induction h with
  | start => exact h0
  | @exec D l td f h hf ih =>
    have := List.length_pos_of_mem hf
    obtain ⟨m, hm⟩ : ∃ m, td.length = m + 1 := ⟨td.length - 1, by omega⟩
    rw [hm] at ih
    unfold flOK at ih
    rw [Bool.and_eq_true, List.all_eq_true] at ih
    have := ih.2 f hf
    rw [List.length_erase_of_mem hf, hm]; exact this
theorem flOK.chk {ops : Array Oper} {i : Option Nat} {n : Nat} {l : Array Bool} {td : List Nat} (h : flOK ops i n l td = true) : flChk ops i l td = true := by
  cases n with
  | zero => exact h
  | succ n => unfold flOK at h; rw [Bool.and_eq_true] at h; exact h.1
theorem Rch.free {ops : Array Oper} {i : Nat} {listed : Array Bool} {Fl D : List Nat} {l : Array Bool} {td : List Nat} (h : Rch listed Fl D l td) : flFree ops i Fl.length listed Fl = true → flFree ops i td.length l td = true := by
  intro h0
  induction h with
  | start => exact h0
  | @exec D l td f h hf ih =>
    have := List.length_pos_of_mem hf
    obtain ⟨m, hm⟩ : ∃ m, td.length = m + 1 := ⟨td.length - 1, by omega⟩
    rw [hm] at ih
    unfold flFree at ih
    rw [Bool.and_eq_true, List.all_eq_true] at ih
    have := ih.2 f hf
    rw [List.length_erase_of_mem hf, hm]; exact this
theorem flFree.chk {ops : Array Oper} {i : Nat} {n : Nat} {l : Array Bool} {td : List Nat} (h : flFree ops i n l td = true) : Region.free .any ops l i = true ∧ (Region.ready .any ops l).contains i = true := by
  cases n with
  | zero => unfold flFree at h; rw [Bool.and_eq_true] at h; exact h
  | succ n => unfold flFree at h; rw [Bool.and_eq_true, Bool.and_eq_true] at h; exact h.1
/-- The slots of those that have been listed. -/
def flT (fs : List Flt) : List Nat → List (Nat × Sd)
  | [] => []
  | j :: D => match fs.find? (fun f => Nat.beq f.i j) with
    | some f => (f.d, f.s) :: flT fs D
    | none => flT fs D
theorem look_app (t x : List (Nat × Sd)) (e : Nat) : look (t ++ x) e = match look t e with | some s => some s | none => look x e := by
  induction t with
  | nil => rfl
  | cons a t ih =>
    obtain ⟨k, s⟩ := a
    simp only [List.cons_append, look]
    cases Nat.beq k e with
    | true => rfl
    | false => exact ih
section
variable {P : Program} {ops : Array Oper} {Q : Exit → Act → World → Prop} {g : Gh} {n : Nat} {t : List (Nat × Sd)} {bx : List Bx} {tk : List Tk} {ty : TypeId} {ps : String} {af : Array Edge} {gd : Option (Nat × Bool)} {fuel : Nat} {listed : Array Bool} {fs : List Flt}
/-- What holds whichever of them have been listed. -/
structure HAF (P : Program) (ops : Array Oper) (Q : Exit → Act → World → Prop) (g : Gh) (n : Nat) (t : List (Nat × Sd)) (bx : List Bx) (tk : List Tk) (fuel : Nat) (listed : Array Bool) (fs : List Flt) : Prop where
  h : ∀ D l td, Rch listed (fs.map (·.i)) D l td → HA P ops Q g n ⟨t ++ flT fs D, bx, tk⟩ (fuel + td.length) l
/-- Each of them yields. -/
def FlV (P : Program) (ops : Array Oper) (g : Gh) (n : Nat) (t : List (Nat × Sd)) (bx : List Bx) (tk : List Tk) (fs : List Flt) : Prop :=
  ∀ f ∈ fs, ∃ op ty ps af gd, ops[f.i]? = some ⟨some f.d, op, ty, ps, af, gd⟩ ∧ (Nat.blt f.d n = true ∧ look t f.d = none) ∧ ∀ tl, want ops (t ++ tl) gd = some true ∧ ValE P g n ⟨t ++ tl, bx, tk⟩ ⟨some f.d, op, ty, ps, af, gd⟩ f.s
theorem FlV.nil : FlV P ops g n t bx tk [] := fun _ h => by cases h
theorem FlV.cons {i d : Nat} {s : Sd} {op : Op} (ho : ops[i]? = some ⟨some d, op, ty, ps, af, gd⟩) (hd : Nat.blt d n = true) (hl : look t d = none) (hw : ∀ tl, want ops (t ++ tl) gd = some true) (hv : ∀ tl, ValE P g n ⟨t ++ tl, bx, tk⟩ ⟨some d, op, ty, ps, af, gd⟩ s) (h : FlV P ops g n t bx tk fs) : FlV P ops g n t bx tk (⟨i, d, s⟩ :: fs) := fun f hf => by
  rcases List.mem_cons.1 hf with rfl | hf
  · exact ⟨op, ty, ps, af, gd, ho, ⟨hd, hl⟩, fun tl => ⟨hw tl, hv tl⟩⟩
  · exact h f hf
theorem flT_find {j : Nat} {D : List Nat} (h : j ∈ fs.map (·.i)) : ∃ f ∈ fs, f.i = j ∧ flT fs (j :: D) = (f.d, f.s) :: flT fs D := by
  obtain ⟨f0, h0, e0⟩ := List.mem_map.1 h
  cases hf : fs.find? (fun f => Nat.beq f.i j) with
  | none =>
    have := List.find?_eq_none.1 hf f0 h0
    exact absurd (by rw [e0]; exact Nat.beq_refl j) this
  | some f =>
    refine ⟨f, List.mem_of_find?_eq_some hf, Nat.eq_of_beq_eq_true (List.find?_some (p := fun f : Flt => Nat.beq f.i j) hf), ?_⟩
    show (match fs.find? (fun f => Nat.beq f.i j) with | some f => (f.d, f.s) :: flT fs D | none => flT fs D) = _
    rw [hf]
theorem xfl0 (fs : List Flt) (fuel : Nat) {m : Nat} (h : HAF P ops Q g n t bx tk fuel listed fs) (e : fuel + (fs.map (·.i)).length = m := by rfl) : HA P ops Q g n ⟨t, bx, tk⟩ m listed := by
  subst e
  have := h.h [] listed _ .start
  simpa [flT] using this
theorem Rch.sub {listed : Array Bool} {Fl D : List Nat} {l : Array Bool} {td : List Nat} (h : Rch listed Fl D l td) : ∀ x ∈ td, x ∈ Fl := by
  induction h with
  | start => exact fun _ h => h
  | exec h hf ih => exact fun x hx => ih x (List.mem_of_mem_erase hx)
theorem fl_float {D : List Nat} {l : Array Bool} {td : List Nat} {j m : Nat} (hv : FlV P ops g n t bx tk fs) (hR : Rch listed (fs.map (·.i)) D l td) (hj : j ∈ td)
    (h : HA P ops Q g n ⟨t ++ flT fs (j :: D), bx, tk⟩ m (l.setIfInBounds j true)) : ∃ o, ops[j]? = some o ∧ HW P ops Q g n ⟨t ++ flT fs D, bx, tk⟩ m (l.setIfInBounds j true) o := by
  obtain ⟨f, hf, rfl, e⟩ := flT_find (D := D) (hR.sub j hj)
  obtain ⟨op, ty, ps, af, gd, h1, ⟨h2, hn⟩, h3⟩ := hv f hf
  obtain ⟨h4, h5⟩ := h3 (flT fs D)
  refine ⟨_, h1, wval h5 h4 h2 ?_⟩
  rw [e] at h
  refine ⟨hx_imp (σ' := ⟨t ++ (f.d, f.s) :: flT fs D, bx, tk⟩) ⟨fun d s' hs => ⟨s', ?_, .refl _⟩, SubM.refl _ _⟩ h.h⟩
  rw [look_app] at hs
  simp only [look]
  cases hb : Nat.beq f.d d with
  | true =>
    have := Nat.eq_of_beq_eq_true hb
    subst this
    rw [hn] at hs
    simp only [look, Nat.beq_refl] at hs
    exact hs
  | false =>
    rw [look_app]
    cases hl : look t d with
    | some s => rw [hl] at hs; exact hs
    | none => rw [hl] at hs; simp only [look, hb] at hs; exact hs
/-- The next of the chain, whichever of them have been listed. -/
theorem xflstep (i : Nat) {o : Oper} (hr : flOK ops (some i) (fs.map (·.i)).length listed (fs.map (·.i)) = true) (ho : ops[i]? = some o) (hv : FlV P ops g n t bx tk fs)
    (h : ∀ D l td, Rch (listed.setIfInBounds i true) (fs.map (·.i)) D l td → HW P ops Q g n ⟨t ++ flT fs D, bx, tk⟩ (fuel + td.length) l o) : HAF P ops Q g n t bx tk (fuel + 1) listed fs := by
  refine ⟨?_⟩
  intro D l td
  induction hn : td.length generalizing D l td with
  | zero =>
    intro hR
    have hc := flOK.chk (hR.ok hr)
    obtain rfl : td = [] := List.eq_nil_of_length_eq_zero hn
    have hw := h D _ _ (hR.mark i)
    unfold flChk at hc
    simp only [Bool.and_eq_true, Bool.not_eq_true', List.isEmpty_eq_false_iff, List.all_eq_true, Bool.or_eq_true] at hc
    refine xpstepN (is := Region.ready .any ops l) rfl hc.1 fun j hj => ?_
    rcases hc.2 j hj with e | e
    · obtain rfl := Nat.eq_of_beq_eq_true e
      exact ⟨o, ho, hw⟩
    · simp at e
  | succ m ih =>
    intro hR
    have hc := flOK.chk (hR.ok hr)
    have hw := h D _ _ (hR.mark i)
    unfold flChk at hc
    simp only [Bool.and_eq_true, Bool.not_eq_true', List.isEmpty_eq_false_iff, List.all_eq_true, Bool.or_eq_true] at hc
    refine xpstepN (is := Region.ready .any ops l) rfl hc.1 fun j hj => ?_
    rcases hc.2 j hj with e | e
    · obtain rfl := Nat.eq_of_beq_eq_true e
      refine ⟨o, ho, ?_⟩
      rw [hn] at hw
      have e2 : (fuel + 1).add m = fuel + (m + 1) := by show fuel + 1 + m = _; omega
      rw [e2]; exact hw
    · have hj' : j ∈ td := by simpa using e
      refine fl_float hv hR hj' ?_
      have hl : (td.erase j).length = m := by rw [List.length_erase_of_mem hj']; omega
      exact ih (j :: D) _ _ hl (hR.exec hj')
theorem Rch.mem {listed : Array Bool} {Fl D : List Nat} {l : Array Bool} {td : List Nat} (h : Rch listed Fl D l td) : (∀ j, j ∈ Fl → j ∈ D ∨ j ∈ td) ∧ (∀ j, j ∈ D → j ∈ Fl) ∧ ∀ j : Nat, l[j]? = if j ∈ D ∧ j < listed.size then some true else listed[j]? := by
  induction h with
  | start => exact ⟨fun j hj => .inr hj, fun j hj => (by simp at hj), fun j => by simp⟩
  | @exec D l td f h hf ih =>
    obtain ⟨h1, h2, h3⟩ := ih
    refine ⟨fun j hj => ?_, fun j hj => ?_, fun j => ?_⟩
    · rcases h1 j hj with e | e
      · exact .inl (List.mem_cons_of_mem _ e)
      · by_cases e2 : j = f
        · exact .inl (by rw [e2]; exact List.mem_cons_self ..)
        · exact .inr ((List.mem_erase_of_ne e2).2 e)
    · rcases List.mem_cons.1 hj with rfl | e
      · exact h.sub _ hf
      · exact h2 j e
    · have hsz : l.size = listed.size := by
        have := h3 l.size
        have h4 := h3 listed.size
        rw [Array.getElem?_eq_none (Nat.le_refl _)] at this
        rw [if_neg (by omega), Array.getElem?_eq_none (Nat.le_refl _)] at h4
        have a1 : listed.size ≥ l.size := by simpa using h4
        by_cases h5 : l.size < listed.size
        · split at this
          · cases this
          · rw [Array.getElem?_eq_getElem h5] at this; cases this
        · omega
      by_cases e : f = j
      · subst e
        rw [Array.getElem?_setIfInBounds_self, hsz]
        by_cases h6 : f < listed.size
        · rw [if_pos h6, if_pos ⟨List.mem_cons_self .., h6⟩]
        · rw [if_neg h6, if_neg (fun h => h6 h.2), Array.getElem?_eq_none (by omega)]
      · rw [Array.getElem?_setIfInBounds_ne e, h3 j]
        have : (j ∈ f :: D) ↔ j ∈ D := by
          rw [List.mem_cons]; exact ⟨fun h => h.resolve_left (fun h => e h.symm), .inr⟩
        simp only [this]
theorem mark_all : ∀ (Fl : List Nat) (listed : Array Bool) (j : Nat), (Fl.foldl (fun l i => l.setIfInBounds i true) listed)[j]? = if j ∈ Fl ∧ j < listed.size then some true else listed[j]?
  | [], listed, j => by simp
  | f :: Fl, listed, j => by
    rw [List.foldl_cons, mark_all Fl, Array.size_setIfInBounds]
    by_cases h1 : j ∈ Fl ∧ j < listed.size
    · rw [if_pos h1, if_pos ⟨List.mem_cons_of_mem _ h1.1, h1.2⟩]
    · rw [if_neg h1]
      by_cases e : f = j
      · subst e
        rw [Array.getElem?_setIfInBounds_self]
        by_cases h6 : f < listed.size
        · rw [if_pos h6, if_pos ⟨List.mem_cons_self .., h6⟩]
        · rw [if_neg h6, if_neg (fun h => h6 h.2), Array.getElem?_eq_none (by omega)]
      · rw [Array.getElem?_setIfInBounds_ne e, if_neg (fun h => h1 ⟨(List.mem_cons.1 h.1).resolve_left (fun h => e h.symm), h.2⟩)]
def ndB : List Nat → Bool
  | [] => true
  | x :: l => !l.contains x && ndB l
theorem ndB.nd : ∀ {l : List Nat}, ndB l = true → l.Nodup
  | [], _ => List.nodup_nil
  | x :: l, h => by
    unfold ndB at h
    simp only [Bool.and_eq_true, Bool.not_eq_true', List.contains_eq_mem, decide_eq_false_iff_not] at h
    exact List.nodup_cons.2 ⟨h.1, ndB.nd h.2⟩
theorem nodup_inj {α β : Type} {f : α → β} : ∀ {l : List α}, (l.map f).Nodup → ∀ {x y : α}, x ∈ l → y ∈ l → f x = f y → x = y
  | [], _, _, _, hx, _, _ => by cases hx
  | a :: l, h, x, y, hx, hy, e => by
    rw [List.map_cons, List.nodup_cons] at h
    rcases List.mem_cons.1 hx with ex | hx
    · rcases List.mem_cons.1 hy with ey | hy
      · rw [ex, ey]
      · exact absurd (by rw [← ex, e]; exact List.mem_map_of_mem hy) h.1
    · rcases List.mem_cons.1 hy with ey | hy
      · exact absurd (by rw [← ey, ← e]; exact List.mem_map_of_mem hx) h.1
      · exact nodup_inj h.2 hx hy e
theorem flT_look (hi : (fs.map (·.i)).Nodup) (hd : (fs.map (·.d)).Nodup) {f : Flt} (hf : f ∈ fs) : ∀ D : List Nat, (∀ j ∈ D, j ∈ fs.map (·.i)) → f.i ∈ D → look (flT fs D) f.d = some f.s
  | [], _, h => by simp at h
  | j :: D, hD, h => by
    obtain ⟨f2, hf2, e2, e3⟩ := flT_find (D := D) (hD j (List.mem_cons_self ..))
    rw [e3]
    simp only [look]
    cases hb : Nat.beq f2.d f.d with
    | true => rw [nodup_inj hd hf2 hf (Nat.eq_of_beq_eq_true hb)]
    | false =>
      refine flT_look hi hd hf D (fun x hx => hD x (List.mem_cons_of_mem _ hx)) ?_
      rcases List.mem_cons.1 h with h | h
      · have := nodup_inj hi hf hf2 (by rw [h, e2])
        subst this
        rw [Nat.beq_refl] at hb; cases hb
      · exact h
theorem look_map : ∀ {l : List Flt} {e : Nat} {s : Sd}, look (l.map (fun f => (f.d, f.s))) e = some s → ∃ f ∈ l, f.d = e ∧ f.s = s
  | [], _, _, h => by cases h
  | f :: l, e, s, h => by
    simp only [List.map_cons, look] at h
    cases hb : Nat.beq f.d e with
    | true => rw [hb] at h; exact ⟨f, List.mem_cons_self .., Nat.eq_of_beq_eq_true hb, Option.some.inj h⟩
    | false =>
      rw [hb] at h
      obtain ⟨f2, h1, h2⟩ := look_map h
      exact ⟨f2, List.mem_cons_of_mem _ h1, h2⟩
/-- The chain waits for them all. -/
theorem xflend {t' : List (Nat × Sd)} {l' : Array Bool} (hr : flOK ops none (fs.map (·.i)).length listed (fs.map (·.i)) = true) (hv : FlV P ops g n t bx tk fs) (hl : (fs.map (·.i)).foldl (fun l i => l.setIfInBounds i true) listed = l') (ht : t ++ fs.map (fun f => (f.d, f.s)) = t') (hnd : ndB (fs.map (·.i)) = true) (hdd : ndB (fs.map (·.d)) = true)
    (h : HA P ops Q g n ⟨t', bx, tk⟩ fuel l') : HAF P ops Q g n t bx tk fuel listed fs := by
  refine ⟨?_⟩
  intro D l td
  induction hn : td.length generalizing D l td with
  | zero =>
    intro hR
    obtain rfl : td = [] := List.eq_nil_of_length_eq_zero hn
    obtain ⟨m1, m2, m3⟩ := hR.mem
    have hD : ∀ j, j ∈ D ↔ j ∈ fs.map (·.i) := fun j => ⟨m2 j, fun h => (m1 j h).resolve_right (by simp)⟩
    have hll : l = l' := by
      refine Array.ext_getElem? fun j => ?_
      rw [m3 j, ← hl, mark_all]
      simp only [hD]
    subst hll
    refine ⟨hx_imp (σ' := ⟨t', bx, tk⟩) ⟨fun e s' hs => ⟨s', ?_, .refl _⟩, SubM.refl _ _⟩ (by simpa using h.h)⟩
    rw [← ht, look_app] at hs
    rw [look_app]
    cases hq : look t e with
    | some s => rw [hq] at hs; exact hs
    | none =>
      rw [hq] at hs
      obtain ⟨f, hf, rfl, rfl⟩ := look_map hs
      exact flT_look (ndB.nd hnd) (ndB.nd hdd) hf D m2 ((hD _).2 (List.mem_map_of_mem hf))
  | succ m ih =>
    intro hR
    have hc := flOK.chk (hR.ok hr)
    unfold flChk at hc
    simp only [Bool.and_eq_true, Bool.not_eq_true', List.isEmpty_eq_false_iff, List.all_eq_true, Bool.or_eq_true] at hc
    have hc2 := hc.resolve_left (fun e => by
      rw [List.isEmpty_iff] at e
      rw [e] at hn; cases hn)
    refine xpstepN (is := Region.ready .any ops l) rfl hc2.1 fun j hj => ?_
    have hj' : j ∈ td := by simpa using hc2.2 j hj
    refine fl_float hv hR hj' ?_
    have hl2 : (td.erase j).length = m := by rw [List.length_erase_of_mem hj']; omega
    exact ih (j :: D) _ _ hl2 (hR.exec hj')
/-- One that yields in every world is taken first. -/
theorem xflval (i : Nat) {d : Nat} {s : Sd} {op : Op} (hr : flFree ops i (fs.map (·.i)).length listed (fs.map (·.i)) = true) (ho : ops[i]? = some ⟨some d, op, ty, ps, af, gd⟩) (hv : ∀ tl, Val P g n ⟨t ++ tl, bx, tk⟩ ⟨some d, op, ty, ps, af, gd⟩ s) (hw : ∀ tl, want ops (t ++ tl) gd = some true) (hd : Nat.blt d n = true) (hs : Region.noSelect ops = true)
    (hq : ∀ c (a : Act) w v, Q (.panic c) (a.put (some d) v) w → Q (.panic c) a w) (h : HAF P ops Q g n ((d, s) :: t) bx tk fuel (listed.setIfInBounds i true) fs) : HAF P ops Q g n t bx tk (fuel + 1) listed fs := by
  refine ⟨fun D l td hR => ?_⟩
  obtain ⟨h1, h2⟩ := flFree.chk (hR.free hr)
  have := h.h D _ _ (hR.mark i)
  rw [show fuel + 1 + td.length = fuel + td.length + 1 by omega]
  exact xpval i ho (hv _) (hw _) hd hs h1 h2 hq this
theorem xflgo1 {D : List Nat} {l : Array Bool} {td : List Nat} {x : Nat × Sd} {bx' : List Bx} {tk' : List Tk} (hR : Rch listed (fs.map (·.i)) D l td) (h : HAF P ops Q g n (x :: t) bx' tk' fuel listed fs) : HA P ops Q g n ⟨x :: (t ++ flT fs D), bx', tk'⟩ (fuel + td.length) l := h.h D l td hR
theorem xflgo0 {D : List Nat} {l : Array Bool} {td : List Nat} {bx' : List Bx} {tk' : List Tk} (hR : Rch listed (fs.map (·.i)) D l td) (h : HAF P ops Q g n t bx' tk' fuel listed fs) : HA P ops Q g n ⟨t ++ flT fs D, bx', tk'⟩ (fuel + td.length) l := h.h D l td hR
end
section
variable {P : Program} {Q : Exit → Act → World → Prop} {ops : Array Oper} {g : Gh} {n : Nat} {σ : St} {t : List (Nat × Sd)} {bx : List Bx} {tk : List Tk} {rest : List Oper} {ty : TypeId} {ps : String} {af : Array Edge} {gd : Option (Nat × Bool)} {fuel : Nat} {listed : Array Bool} {d : Nat} {s : Sd} {op : Op}
theorem vp_ (hv : Val P g n ⟨t, bx, tk⟩ ⟨some d, op, ty, ps, af, gd⟩ s) (h : HL P ops Q g n ⟨(d, s) :: t, bx, tk⟩ rest) (h2 : want ops t gd = some true := by rfl) (h3 : Nat.blt d n = true := by rfl) : HL P ops Q g n ⟨t, bx, tk⟩ (⟨some d, op, ty, ps, af, gd⟩ :: rest) := xvalP hv h2 h3 h
theorem v_ (hv : ValE P g n ⟨t, bx, tk⟩ ⟨some d, op, ty, ps, af, gd⟩ s) (h : HL P ops Q g n ⟨(d, s) :: t, bx, tk⟩ rest) (h2 : want ops t gd = some true := by rfl) (h3 : Nat.blt d n = true := by rfl) : HL P ops Q g n ⟨t, bx, tk⟩ (⟨some d, op, ty, ps, af, gd⟩ :: rest) := xval hv h2 h3 h
theorem wv_ (hv : ValE P g n ⟨t, bx, tk⟩ ⟨some d, op, ty, ps, af, gd⟩ s) (h : HA P ops Q g n ⟨(d, s) :: t, bx, tk⟩ fuel listed) (h2 : want ops t gd = some true := by rfl) (h3 : Nat.blt d n = true := by rfl) : HW P ops Q g n ⟨t, bx, tk⟩ fuel listed ⟨some d, op, ty, ps, af, gd⟩ := wval hv h2 h3 h
theorem mv_ {x : Operand} (h : HL P ops Q g n ⟨(d, s) :: t, bx, tk⟩ rest) (h1 : ev t x = some s := by rfl) (h2 : want ops t gd = some true := by rfl) (h3 : Nat.blt d n = true := by rfl) : HL P ops Q g n ⟨t, bx, tk⟩ (⟨some d, .move x, ty, ps, af, gd⟩ :: rest) := xvalP (pv_move (σ := ⟨t, bx, tk⟩) h1) h2 h3 h
theorem as_ {x : Operand} (h : HL P ops Q g n ⟨(d, s) :: t, bx, tk⟩ rest) (h1 : ev t x = some s := by rfl) (h2 : want ops t gd = some true := by rfl) (h3 : Nat.blt d n = true := by rfl) : HL P ops Q g n ⟨t, bx, tk⟩ (⟨some d, .assign x, ty, ps, af, gd⟩ :: rest) := xvalP (pv_assign (σ := ⟨t, bx, tk⟩) h1) h2 h3 h
theorem pk_ {c x y : Operand} {b : Bool} (h : HL P ops Q g n ⟨(d, s) :: t, bx, tk⟩ rest) (h0 : ev t c = some (.v (.bool b)) := by rfl) (h1 : ev t (cond b x y) = some s := by rfl) (h2 : want ops t gd = some true := by rfl) (h3 : Nat.blt d n = true := by rfl) : HL P ops Q g n ⟨t, bx, tk⟩ (⟨some d, .pick c x y, ty, ps, af, gd⟩ :: rest) := xvalP (pv_pick (σ := ⟨t, bx, tk⟩) h0 h1) h2 h3 h
theorem sk_ (h : HL P ops Q g n ⟨(d, .v undef) :: t, bx, tk⟩ rest) (h2 : want ops t gd = some false := by rfl) (h3 : Nat.blt d n = true := by rfl) : HL P ops Q g n ⟨t, bx, tk⟩ (⟨some d, op, ty, ps, af, gd⟩ :: rest) := xskip h2 h3 h
theorem pl_ (i : Nat) (ho : ops[i]? = some ⟨some d, op, ty, ps, af, gd⟩) (hv : Val P g n ⟨t, bx, tk⟩ ⟨some d, op, ty, ps, af, gd⟩ s) (h : HA P ops Q g n ⟨(d, s) :: t, bx, tk⟩ fuel (listed.setIfInBounds i true)) (hw : want ops t gd = some true := by rfl) (hd : Nat.blt d n = true := by rfl) (hs : Region.noSelect ops = true := by kernel_rfl)
    (hf : Region.free .any ops listed i = true := by kernel_rfl) (hr : (Region.ready .any ops listed).contains i = true := by kernel_rfl) (hq : ∀ c (a : Act) w v, Q (.panic c) (a.put (some d) v) w → Q (.panic c) a w := by exact fun _ _ _ _ h => h) : HA P ops Q g n ⟨t, bx, tk⟩ (fuel + 1) listed := xpval i ho hv hw hd hs hf hr hq h
theorem nt_ {c : Code} {Q0 : Exit → Act → World → Prop} (h : HC P Q0 g n σ c) : HL P ops (Exit.then (cwp g.rd P c Q0) Q) g n σ [] := xnil (xthen h)
theorem sr_ {id : Nat} {l : List Oper} {y : Code} (h : HL P l.toArray (Exit.then (cwp g.rd P y Q) Q) g n σ l) : HC P Q g n σ (.seq (.region id l.toArray false) y) := xseq (xregion h)
theorem lk_ {p : Prop} (h : p := by repeat (first | exact .nil _ | refine .cons rfl (.refl _) ?_)) : p := h
end
end Go.Proofs.Ytpddiffpanihdaa
