/- Side proofs that are found each time anew. -/
import Derived.Test.YtpddiffpanihdaaPt
namespace Go.Proofs.Ytpddiffpanihdaa
open Go.RowKit
theorem sq_ {p : Prop} (h : p := by first | rfl | exact (List.append_nil _).symm | exact List.append_nil _ | exact List.append_assoc _ _ _ | exact (List.append_assoc _ _ _).symm | exact congrArg _ (List.append_nil _).symm | exact congrArg _ (List.append_nil _) | (simp; done) | (simp [cellsS]; done)) : p := h
theorem sl_ {p : Prop} (h : p := by first | rfl | exact seg_lenE (by rfl) | exact len_app rfl (seg_lenE (by rfl)) (by rfl) | exact len_app (seg_lenE (by rfl)) rfl (by rfl) | exact len_app rfl (len_app (seg_lenE (by rfl)) rfl (by rfl)) (by rfl) | (simp only [seg_len, cellsS, List.length_append, List.length_cons, List.length_nil]; done) | (simp only [seg_len, cellsS, List.length_append, List.length_cons, List.length_nil]; rfl)) : p := h
theorem so_ {p : Prop} (h : p := by first | rfl | omega | (simp only [List.length_cons, List.length_nil]; omega) | (simp only [seg_len, List.length_append, List.length_cons, List.length_nil]; omega)) : p := h
theorem ev_ {p : Prop} (h : p := by first | rfl | exact congrArg (fun q => some (Sd.agg q)) sq_) : p := h
theorem wk_ {s s' : Sd} (h : Wk s s' := by first | with_reducible exact Wk.refl _ | exact Wk.nil_own _ | exact Wk.nil_pl _ | with_reducible exact Wk.tok _ _ _ | exact Wk.tok _ _ _ | exact Wk.nil_pt _ | exact .eq rfl) : Wk s s' := h
theorem wl_ {a b : List Sd} (h : WkL a b := by (repeat (first | exact WkL.nil | refine WkL.cons (by first | with_reducible exact Wk.refl _ | exact Wk.nil_own _ | exact Wk.nil_pl _ | with_reducible exact Wk.tok _ _ _ | exact Wk.tok _ _ _ | exact Wk.nil_pt _ | exact Wk.eq (by first | rfl | (simp []; done) | (simp []; omega))) ?_))) : WkL a b := h
theorem wr_ {a b : List (List Sd)} (h : WkR a b := by first | exact wkR_of rfl | (repeat (first | exact WkR.nil | refine WkR.cons (by (repeat (first | exact WkL.nil | refine WkL.cons (by first | with_reducible exact Wk.refl _ | exact Wk.nil_own _ | exact Wk.nil_pl _ | with_reducible exact Wk.tok _ _ _ | exact Wk.tok _ _ _ | exact Wk.nil_pt _ | exact Wk.eq (by first | rfl | (simp []; done) | (simp []; omega))) ?_))) ?_))) : WkR a b := h
theorem sm_ {bx bx' : List Bx} {tk tk' : List Tk} (h : SubM bx tk bx' tk' := by exact (SubM.of (by repeat (first | with_reducible exact SubB.refl _ | exact SubB.nil _ | refine SubB.keep rfl rfl (by first | with_reducible exact WkL.refl _ | ((repeat (first | exact WkL.nil | refine WkL.cons (by first | with_reducible exact Wk.refl _ | exact Wk.nil_own _ | exact Wk.nil_pl _ | with_reducible exact Wk.tok _ _ _ | exact Wk.tok _ _ _ | exact Wk.nil_pt _ | exact Wk.eq (by first | rfl | (simp []; done) | (simp []; omega))) ?_)); done) | exact WkL.refl _) ?_ | refine SubB.drop ?_)) (by repeat (first | exact SubT.nil _ | refine SubT.add ?_ | (refine SubT.keep ?_ ?_; focus (first | with_reducible rfl | (simp []; done))) | refine SubT.drop ?_)))) : SubM bx tk bx' tk' := h
section
variable {P : Program} {ops : Array Oper} {Q : Exit → Act → World → Prop} {g : Gh} {n : Nat} {t : List (Nat × Sd)} {bx : List Bx} {tk : List Tk} {rest : List Oper} {ty : TypeId} {ps : String} {af : Array Edge} {gd : Option (Nat × Bool)} {fuel : Nat} {listed : Array Bool}
theorem xstoreQ {T E : TypeId} {x v : Operand} {ag : Bool} {k b o : Nat} {cs : List Sd} {s : Sd} (j : Nat) (pre mid post cs' : List Sd) (hs : Shp P T ag k) (hx : ev t x = some (.v (.pointer (some ⟨b, o, none⟩)))) (hb : bx[j]? = some ⟨b, E, cs⟩) (hv : ev t v = some s)
    (h1 : oneS s = true) (hw : want ops t gd = some true) (h : HL P ops Q g n ⟨t, bx.set j ⟨b, E, cs'⟩, tk⟩ rest) (hcs : cs = pre ++ (mid ++ post) := by exact sq_) (ho : pre.length = o := by exact sl_) (hm : mid.length = k := by exact sl_) (hc : (cellsS s).length = k := by exact sl_) (hn : pre ++ (cellsS s ++ post) = cs' := by exact sq_) : HL P ops Q g n ⟨t, bx, tk⟩ (⟨none, .store T x v, ty, ps, af, gd⟩ :: rest) :=
  xstoreP j pre mid post hcs ho hm hs hx hb hv h1 hc hw (by rw [hn]; exact h)
theorem wstoreQ {T E : TypeId} {x v : Operand} {ag : Bool} {k b o : Nat} {cs : List Sd} {s : Sd} (j : Nat) (pre mid post cs' : List Sd) (hs : Shp P T ag k) (hx : ev t x = some (.v (.pointer (some ⟨b, o, none⟩)))) (hb : bx[j]? = some ⟨b, E, cs⟩) (hv : ev t v = some s)
    (h1 : oneS s = true) (hw : want ops t gd = some true) (h : HA P ops Q g n ⟨t, bx.set j ⟨b, E, cs'⟩, tk⟩ fuel listed) (hcs : cs = pre ++ (mid ++ post) := by exact sq_) (ho : pre.length = o := by exact sl_) (hm : mid.length = k := by exact sl_) (hc : (cellsS s).length = k := by exact sl_) (hn : pre ++ (cellsS s ++ post) = cs' := by exact sq_) : HW P ops Q g n ⟨t, bx, tk⟩ fuel listed ⟨none, .store T x v, ty, ps, af, gd⟩ :=
  wstoreP j pre mid post hcs ho hm hs hx hb hv h1 hc hw (by rw [hn]; exact h)
end
theorem or_tt {x y : Bool} (h : x = true) : (x || y) = true := by rw [h]; rfl
theorem or_ff {x y : Bool} (h : x = false) : (x || y) = y := by rw [h]; rfl
theorem and_tt {x y : Bool} (h : x = true) : (x && y) = y := by rw [h]; rfl
theorem and_ff {x y : Bool} (h : x = false) : (x && y) = false := by rw [h]; rfl
theorem cond_tt {α : Type} {x : Bool} {a b : α} (h : x = true) : (bif x then a else b) = a := by rw [h]; rfl
theorem cond_ff {α : Type} {x : Bool} {a b : α} (h : x = false) : (bif x then a else b) = b := by rw [h]; rfl
end Go.Proofs.Ytpddiffpanihdaa
