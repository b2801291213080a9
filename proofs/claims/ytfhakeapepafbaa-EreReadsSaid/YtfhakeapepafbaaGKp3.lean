/- What functions' texts ask for, and the walks that show it (printed by a program). -/
import Derived.Test.YtfhakeapepafbaaGKp2
namespace Go.Proofs.Ytfhakeapepafbaa
def tree_Right_l3 (y1213 : (List Int)) (y1162 : Int × Int × Int × Int × Int × Int × T4t) (f856 : Arr 10 (Int)) (x854 : Int) (ag2 : (Int × (List Int) × (Arr 10 (Int))) → Prop) (ag3 : (Int × (List Int)) → Prop) (x1228 : Int) (l1229 : List Int) (r : Bool) : Prop :=
  ((x1228 < (y1213.length : Int) → 0 ≤ (x1228 : Int) ∧ ∃ y1245 : Int, y1213[(x1228 : Int).toNat]? = some y1245 ∧ 0 ≤ (y1245 : Int) ∧ ∃ y1247 : Int, l1229[(y1245 : Int).toNat]? = some y1247 ∧ InR (y1247 + 1) ∧ 0 ≤ (y1245 : Int) ∧ ∃ y1250 : Int, l1229[(y1245 : Int).toNat]? = some y1250 ∧ InR (x1228 + 1) ∧ ag3 ((x1228 + 1), (l1229.set (y1245 : Int).toNat (y1247 + 1)))) ∧ (¬ (x1228 < (y1213.length : Int)) → ((y1162.1 = 5 → (0 ≤ (y1162.2.2.2.2.2.1 : Int) ∧ (y1162.2.2.2.2.2.1 : Int) < 10) ∧ ∃ y1257 : Int, f856.l[(y1162.2.2.2.2.2.1 : Int).toNat]? = some y1257 ∧ InR (y1257 + 1) ∧ (0 ≤ (y1162.2.2.2.2.2.1 : Int) ∧ (y1162.2.2.2.2.2.1 : Int) < 10) ∧ ∃ y1260 : Int, f856.l[(y1162.2.2.2.2.2.1 : Int).toNat]? = some y1260 ∧ InR (x854 + 1) ∧ ag2 ((x854 + 1), l1229, (Arr.set f856 (y1162.2.2.2.2.2.1 : Int).toNat ((y1257 + 1))))) ∧ (¬ (y1162.1 = 5) → InR (x854 + 1) ∧ ag2 ((x854 + 1), l1229, f856)))))
def tree_Right_l5 (x1 : (List T3t) × Int) (f856 : Arr 10 (Int)) (ag5 : (Int) → Prop) (x1398 : Int) (r : Bool) : Prop :=
  ((x1398 < ((((x1.2 + 1) : Int).toNat - (1 : Int).toNat : Nat) : Int) → (0 ≤ (x1398 : Int) ∧ (x1398 : Int) < ((((x1.2 + 1) : Int).toNat - (1 : Int).toNat : Nat) : Int)) ∧ ∃ y1418 : Int, f856.l[((((1 : Int).toNat + (x1398 : Int).toNat : Nat) : Int) : Int).toNat]? = some y1418 ∧ ((¬ (y1418 = 1) → r = false) ∧ (¬ (¬ (y1418 = 1)) → InR (x1398 + 1) ∧ ag5 (x1398 + 1)))) ∧ (¬ (x1398 < ((((x1.2 + 1) : Int).toNat - (1 : Int).toNat : Nat) : Int)) → r = true))
def tree_Right_l4 (l855 : List Int) (x1 : (List T3t) × Int) (f856 : Arr 10 (Int)) (ag4 : (Int) → Prop) (x1318 : Int) (r : Bool) : Prop :=
  ((x1318 < (((l855.take (((x1.1.length : Int) - 1) : Int).toNat).length : Nat) : Int) → 0 ≤ (x1318 : Int) ∧ ∃ y1338 : Int, ((l855.take (((x1.1.length : Int) - 1) : Int).toNat))[(x1318 : Int).toNat]? = some y1338 ∧ ((¬ (y1338 = 1) → r = false) ∧ (¬ (¬ (y1338 = 1)) → InR (x1318 + 1) ∧ ag4 (x1318 + 1)))) ∧ (¬ (x1318 < (((l855.take (((x1.1.length : Int) - 1) : Int).toNat).length : Nat) : Int)) → InR (x1.2 + 1) ∧ (0 : Int) ≤ 1 ∧ (0 : Int) ≤ (x1.2 + 1) ∧ ((1 : Int).toNat ≤ ((x1.2 + 1) : Int).toNat ∧ ((x1.2 + 1) : Int).toNat ≤ 10 ∧ (1 : Int).toNat < 10) ∧ LoopR (fun ag5 s => tree_Right_l5 x1 f856 ag5 s r) 0))
def tree_Right_l2 (x1 : (List T3t) × Int) (ag2 : (Int × (List Int) × (Arr 10 (Int))) → Prop) (x854 : Int) (l855 : List Int) (f856 : Arr 10 (Int)) (r : Bool) : Prop :=
  ((x854 < (x1.1.length : Int) → 0 ≤ (x854 : Int) ∧ ∃ y1162 : Int × Int × Int × Int × Int × Int × T4t, x1.1[(x854 : Int).toNat]? = some y1162 ∧ ∃ y1168 : Bool, tree_isNode_R y1162 x854 x1.2 y1168 ∧ ((¬ (y1168 = true) → r = false) ∧ (¬ (¬ (y1168 = true)) → ∃ y1213 : (List Int), tree_parts_R y1162 y1213 ∧ LoopR (fun ag3 s => tree_Right_l3 y1213 y1162 f856 x854 ag2 ag3 s.1 s.2 r) (0, l855)))) ∧ (¬ (x854 < (x1.1.length : Int)) → InR ((x1.1.length : Int) - 1) ∧ (0 ≤ (((x1.1.length : Int) - 1) : Int) ∧ (((x1.1.length : Int) - 1) : Int) ≤ ((l855.length : Nat) : Int)) ∧ LoopR (fun ag4 s => tree_Right_l4 l855 x1 f856 ag4 s r) 0))
def tree_Right_j1 (x1 : (List T3t) × Int) (x26 : Bool) (r : Bool) : Prop :=
  ((x26 = true → r = false) ∧ (¬ (x26 = true) → MakeOk ((x1.1.length : Int)) ((x1.1.length : Int)) 8 ∧ LoopR (fun ag2 s => tree_Right_l2 x1 ag2 s.1 s.2.1 s.2.2 r) (0, (List.replicate ((x1.1.length : Int) : Int).toNat 0), (Arr.rep 10 0))))
def tree_Right_R (x1 : (List T3t) × Int) (r : Bool) : Prop :=
  tree_Right_j1 x1 ((decide ((x1.1.length : Int) < 1)) || ((decide (1000 < (x1.1.length : Int))) || ((decide (x1.2 < 0)) || (decide (9 < x1.2))))) r
set_option maxRecDepth 100000 in
set_option maxHeartbeats 4000000 in
theorem k54_ ⦃x1 : (List T3t) × Int⦄ ⦃r : Bool⦄ (h : tree_Right_R x1 r) : Cn Try.prog 28 [.agg [.sl 10 none (List.map E_palinode_api_Node x1.1), iv x1.2]] [] [] (Ret (bv r)) := by
 refine xenterN Try.func28 rfl rfl (by kernel_rfl) fun g hg=>?_;simp only [Try.ntmps28,slots];unfold tree_Right_R at h;refine wn_ 2 h fun h=>?_;refine xbox rfl rfl rfl rfl fun b1 => ?_;refine wn_ 12 h fun h=>?_;refine xseqM (fun σ=>∃ x26, tree_Right_j1 x1 x26 r ∧ σ=⟨[(1, pw b1), (3, iv ((x1.1.length : Int))), (32, bv x26)], [⟨b1, 26, [.sl 10 none (List.map E_palinode_api_Node x1.1), iv x1.2]⟩], []⟩) ?_ ?_
 ·refine ks_ 19 h (fun h=>?_) fun h=>?_
  ·exact m_ h
  refine ks_ 23 h (fun h=>?_) fun h=>?_
  ·exact m_ h
  refine ks_ 28 h (fun h=>?_) fun h=>?_
  ·exact m_ h
  exact m_ h
 rintro _ ⟨x26,h,rfl⟩;refine i_ h (fun h=>?_) fun h=>?_
 ·exact r_ h hg
 refine wn_ 5 h fun h=>?_;obtain ⟨h35, h⟩ := h;refine xmakeRb (f := ei) 0 h35 UndC.h InfC.h (.refl _) rfl rfl rfl rfl fun i36 => ?_;refine wn_ 5 h fun h=>?_;refine xalloc InfC.h rfl rfl fun b5 => ?_;refine xreb 0 ((List.map ei ((Arr.rep 10 0)).l).flatten) rfl rfl ?_;refine wn_ 12 h fun h=>?_;obtain ⟨Inv,⟨m0,hI⟩,hS⟩ := lq_ h;refine lp_ hI (fun σ m=>∃ x854 l855 f856, Inv (x854, l855, f856) m ∧ σ=⟨[(1, pw b1), (3, iv ((x1.1.length : Int))), (4, .rb i36 l855.length), (5, pw b5), (36, .sl 10 none (List.map E_palinode_api_Node x1.1)), (37, iv ((x1.1.length : Int))), (38, iv x854)], [⟨b5, 80, ((List.map ei f856.l).flatten)⟩, rbx i36 3 1 (List.map ei l855), ⟨b1, 26, [.sl 10 none (List.map E_palinode_api_Node x1.1), iv x1.2]⟩], []⟩) ?_
 rintro _ m ⟨x854,l855,f856,hI,rfl⟩;obtain ⟨ag2,hag2,h⟩ := lpo_ hS hI;refine i_ h (fun h=>?_) fun h=>?_
 ·refine x_ h fun y1162 h=>?_;refine v_ (qv_loadEP (E_palinode_api_Node y1162) [] sq_ sl_ (part_all sl_) ShpC.h rfl) ?_;refine xalloc InfC.h rfl rfl fun b7 => ?_;refine xreb 0 ([iv 0, iv 0, iv 0, iv 0, iv 0, iv 0] ++ (List.map ew ((Arr.rep 4 (0 : UInt64))).l).flatten) rfl rfl ?_
  refine as_ ?_;refine xstoreQ 0 [] ([iv 0, iv 0, iv 0, iv 0, iv 0, iv 0] ++ (List.map ew ((Arr.rep 4 (0 : UInt64))).l).flatten) [] (E_palinode_api_Node y1162) ShpC.h rfl rfl rfl rfl rfl ?_
  refine wn_ 5 h fun h=>?_;refine v_ (qv_loadP 0 [] (E_palinode_api_Node y1162) [] sq_ sl_ sl_ (part_all sl_) ShpC.h rfl rfl) ?_;refine z0_ k6_ h fun y1168 h=>?_;refine i_ h (fun h=>?_) fun h=>?_
  ·refine wn_ 12 h fun h=>?_;replace h := h.symm;subst h;exact xret1 (bx' := []) (tk' := []) hg rfl rfl (.refl _) sm_ ⟨rfl, rfl, rfl⟩
  refine wn_ 5 h fun h=>?_;refine v_ (qv_loadP 0 [] (E_palinode_api_Node y1162) [] sq_ sl_ sl_ (part_all sl_) ShpC.h rfl rfl) ?_;refine z1_ k1_ h fun y1213 i1214 h=>?_;refine wn_ 5 h fun h=>?_;obtain ⟨Inv,⟨m0,hI⟩,hS⟩ := lq_ h
  refine lp_ hI (fun σ m=>∃ x1228 l1229, Inv (x1228, l1229) m ∧ σ=⟨[(1, pw b1), (3, iv ((x1.1.length : Int))), (4, .rb i36 l1229.length), (5, pw b5), (7, pw b7), (36, .sl 10 none (List.map E_palinode_api_Node x1.1)), (37, iv ((x1.1.length : Int))), (38, iv x854), (50, .sl 1 (some i1214) (List.map ei y1213)), (51, iv ((y1213.length : Int))), (52, iv x1228)], [⟨b7, 39, (E_palinode_api_Node y1162)⟩, ⟨b5, 80, ((List.map ei f856.l).flatten)⟩, rbx i36 3 1 (List.map ei l1229), ⟨b1, 26, [.sl 10 none (List.map E_palinode_api_Node x1.1), iv x1.2]⟩], [⟨i1214, 3, 1, y1213.length⟩]⟩) ?_
  rintro _ m ⟨x1228,l1229,hI,rfl⟩;obtain ⟨ag3,hag3,h⟩ := lpo_ hS hI;refine i_ h (fun h=>?_) fun h=>?_
  ·refine x_ h fun y1245 h=>?_;refine wn_ 7 h fun h=>?_;obtain ⟨h1248a, h⟩ := h;obtain ⟨y1247, h1248b, h⟩ := h;refine vp_ (pv_indexAddrRbM rfl h1248a h1248b UndC.h ShpC.h rfl rfl) ?_;refine v_ (qv_loadRb (f := ei) (k := 1) (off := 0) (i := (y1245 : Int).toNat) 2 h1248b rfl (by decide) rfl ShpC.h rfl rfl) ?_;refine wn_ 1 h fun h=>?_;obtain ⟨h1251a, h⟩ := h;obtain ⟨y1250, h1251b, h⟩ := h;refine vp_ (pv_indexAddrRbM rfl h1251a h1251b UndC.h ShpC.h rfl rfl) ?_
   refine xstoreRb (f := ei) (k := 1) (off := 0) (i := (y1245 : Int).toNat) 2 (y1247 + 1) h1251b rfl (by decide) ShpC.h rfl rfl rfl rfl sl_ (.refl _) rfl ?_;refine wn_ 7 h fun h=>?_;obtain ⟨m', hm, hI⟩ := hag3 _ h;exact xagain ⟨(x1228 + 1), (l1229.set (y1245 : Int).toNat (y1247 + 1)), hI, rfl⟩ hm ⟨(.cons rfl (.refl _) (.cons rfl (.refl _) (.cons rfl (.eq (by first | rfl | simp)) lk_))), by exact sm_⟩
  refine i_ h (fun h=>?_) fun h=>?_
  ·refine wn_ 3 h fun h=>?_;obtain ⟨h1256, h⟩ := h;obtain ⟨y1257, h1256b, h⟩ := h;refine vp_ (pv_indexAddrBA h1256 UndC.h ShpC.h rfl rfl) ?_;refine v_ (qv_loadA (f := ei) (a := f856) (k := 1) (off := 0) (i := (y1162.2.2.2.2.2.1 : Int).toNat) 1 [] [] h1256b sq_ so_ (by decide) rfl ShpC.h rfl rfl) ?_;refine wn_ 1 h fun h=>?_;obtain ⟨h1259, h⟩ := h;obtain ⟨y1260, h1259b, h⟩ := h;refine vp_ (pv_indexAddrBA h1259 UndC.h ShpC.h rfl rfl) ?_
   refine xstoreA (f := ei) (a := f856) (k := 1) (off := 0) (i := (y1162.2.2.2.2.2.1 : Int).toNat) 1 [] [] (y1257 + 1) h1259b sq_ so_ (by decide) ShpC.h rfl rfl rfl rfl sl_ rfl rfl ?_;refine xreb 1 ((List.map ei ((Arr.set f856 (y1162.2.2.2.2.2.1 : Int).toNat ((y1257 + 1)))).l).flatten) rfl sq_ ?_;refine wn_ 7 h fun h=>?_;obtain ⟨m', hm, hI⟩ := hag2 _ h;exact xagain ⟨(x854 + 1), l1229, (Arr.set f856 (y1162.2.2.2.2.2.1 : Int).toNat ((y1257 + 1))), hI, rfl⟩ hm ⟨(.cons rfl (.refl _) (.cons rfl (.refl _) (.cons rfl (.eq (by first | rfl | simp)) lk_))), by exact sm_⟩
  refine wn_ 7 h fun h=>?_;obtain ⟨m', hm, hI⟩ := hag2 _ h;exact xagain ⟨(x854 + 1), l1229, f856, hI, rfl⟩ hm ⟨(.cons rfl (.refl _) (.cons rfl (.refl _) (.cons rfl (.eq (by first | rfl | simp)) lk_))), by exact sm_⟩
 refine wn_ 11 h fun h=>?_;obtain ⟨h1304, h⟩ := h;refine vp_ (pv_sliceRbHi h1304 UndC.h ShpC.h rfl rfl) ?_;refine xtakeRb (f := ei) (l := l855) 1 73 76 (((x1.1.length : Int) - 1) : Int).toNat rfl (by have := h1304; first | omega | (simp at this ⊢; done) | (simp at this ⊢; omega)) rfl rfl rfl ?_;refine wn_ 5 h fun h=>?_;obtain ⟨Inv,⟨m0,hI⟩,hS⟩ := lq_ h;refine lp_ hI (fun σ m=>∃ x1318, Inv x1318 m ∧ σ=⟨[(1, pw b1), (5, pw b5), (76, .rb i36 ((l855.take (((x1.1.length : Int) - 1) : Int).toNat).length)), (77, iv ((((l855.take (((x1.1.length : Int) - 1) : Int).toNat).length : Nat) : Int))), (78, iv x1318)], [⟨b5, 80, ((List.map ei f856.l).flatten)⟩, rbx i36 3 1 (List.map ei ((l855.take (((x1.1.length : Int) - 1) : Int).toNat))), ⟨b1, 26, [.sl 10 none (List.map E_palinode_api_Node x1.1), iv x1.2]⟩], []⟩) ?_
 rintro _ m ⟨x1318,hI,rfl⟩;obtain ⟨ag4,hag4,h⟩ := lpo_ hS hI;refine i_ h (fun h=>?_) fun h=>?_
 ·refine wn_ 6 h fun h=>?_;obtain ⟨h1339a, h⟩ := h;obtain ⟨y1338, h1339b, h⟩ := h;refine vp_ (pv_indexAddrRbM (by simp) h1339a h1339b UndC.h ShpC.h rfl rfl) ?_;refine v_ (qv_loadRb (f := ei) (k := 1) (off := 0) (i := (x1318 : Int).toNat) 1 h1339b rfl (by decide) rfl ShpC.h rfl rfl) ?_;refine i_ h (fun h=>?_) fun h=>?_
  ·refine wn_ 11 h fun h=>?_;replace h := h.symm;subst h;exact xret1 (bx' := []) (tk' := []) hg rfl rfl (.refl _) sm_ ⟨rfl, rfl, rfl⟩
  refine wn_ 7 h fun h=>?_;obtain ⟨m', hm, hI⟩ := hag4 _ h;exact xagain ⟨(x1318 + 1), hI, rfl⟩ hm ⟨(.cons rfl (.refl _) (.cons rfl (.refl _) (.cons rfl (.eq (by first | rfl | simp)) lk_))), by exact sm_⟩
 refine wn_ 11 h fun h=>?_;obtain ⟨h1384a, h⟩ := h;obtain ⟨h1384b, h⟩ := h;obtain ⟨h1384, h⟩ := h;refine vp_ (pv_sliceArr h1384 UndC.h ShpC.h rfl (Bd.int_ h1384a rfl) (Bd.int_ h1384b rfl)) ?_;refine vp_ (pv_lenVN UndC.h rfl) ?_;refine wn_ 4 h fun h=>?_;obtain ⟨Inv,⟨m0,hI⟩,hS⟩ := lq_ h;refine lp_ hI (fun σ m=>∃ x1398, Inv x1398 m ∧ σ=⟨[(88, .v (.slice (some ⟨b5, 0 + (1 : Int).toNat * 1, none⟩) (((x1.2 + 1) : Int).toNat - (1 : Int).toNat) (10 - (1 : Int).toNat))), (89, iv (((((x1.2 + 1) : Int).toNat - (1 : Int).toNat : Nat) : Int))), (90, iv x1398)], [⟨b5, 80, ((List.map ei f856.l).flatten)⟩], []⟩) ?_
 rintro _ m ⟨x1398,hI,rfl⟩;obtain ⟨ag5,hag5,h⟩ := lpo_ hS hI;refine i_ h (fun h=>?_) fun h=>?_
 ·refine wn_ 6 h fun h=>?_;obtain ⟨h1419, h⟩ := h;obtain ⟨y1418, h1419b, h⟩ := h;refine vp_ (pv_indexAddrVN h1419 UndC.h ShpC.h rfl rfl) ?_;refine v_ (qv_loadA (f := ei) (a := f856) (k := 1) (off := 0) (i := ((((1 : Int).toNat + (x1398 : Int).toNat : Nat) : Int) : Int).toNat) 0 [] [] h1419b sq_ so_ (by decide) rfl ShpC.h rfl rfl) ?_;refine i_ h (fun h=>?_) fun h=>?_
  ·exact r_ h hg
  exact g_ h hag5
 exact r_ h hg
def tree_Builder_Re_j1 (root3 : Int) (o1 : T0t × (List UInt8) × Int × Int × T5t) (x18 : Bool) (r : T0t × Bool) : Prop :=
  ((x18 = true → r = ((([] : List T3t), 0), false)) ∧ (¬ (x18 = true) → InR (root3 + 1) ∧ (0 ≤ ((root3 + 1) : Int) ∧ ((root3 + 1) : Int) ≤ (o1.1.1.length : Int)) ∧ ∃ y34 : (List T3t), slices_Clone_R (o1.1.1.take ((root3 + 1) : Int).toNat) y34 ∧ ∃ y41 : Bool, tree_Right_R (y34, o1.1.2) y41 ∧ ((¬ (y41 = true) → r = ((([] : List T3t), 0), false)) ∧ (¬ (¬ (y41 = true)) → r = ((y34, o1.1.2), true)))))
def tree_Builder_Re_R (o1 : T0t × (List UInt8) × Int × Int × T5t) (root3 : Int) (r : T0t × Bool) : Prop :=
  tree_Builder_Re_j1 root3 o1 ((decide (root3 < 0)) || (decide ((o1.1.1.length : Int) ≤ root3))) r
set_option maxHeartbeats 4000000 in
theorem k55_ ⦃o1 : T0t × (List UInt8) × Int × Int × T5t⦄ ⦃root3 : Int⦄ ⦃r : T0t × Bool⦄ (h : tree_Builder_Re_R o1 root3 r) (bx0 : Nat) (ia2 : Option (Nat × Nat)) : Cn Try.prog 15 [pw bx0, iv root3] [⟨bx0, 48, ([.sl 10 (some ia2) (List.map E_palinode_api_Node o1.1.1), iv o1.1.2, sb o1.2.1, iv o1.2.2.1, iv o1.2.2.2.1] ++ (List.map eB o1.2.2.2.2.l).flatten)⟩] [⟨ia2, 39, 10, o1.1.1.length⟩] fun rr bx tk=>rr=.tup [.agg [.sl 10 none (List.map E_palinode_api_Node r.1.1), iv r.1.2], bv r.2] ∧ bx=[⟨bx0, 48, ([.sl 10 (some ia2) (List.map E_palinode_api_Node o1.1.1), iv o1.1.2, sb o1.2.1, iv o1.2.2.1, iv o1.2.2.2.1] ++ (List.map eB o1.2.2.2.2.l).flatten)⟩] ∧ tk=[⟨ia2, 39, 10, o1.1.1.length⟩] := by
 refine xenterN Try.func15 rfl rfl (by kernel_rfl) fun g hg=>?_;simp only [Try.ntmps15,slots];unfold tree_Builder_Re_R at h;refine wn_ 2 h fun h=>?_;refine xalloc InfC.h rfl rfl fun b4 => ?_;refine wn_ 4 h fun h=>?_;refine xseqM (fun σ=>∃ x18, tree_Builder_Re_j1 root3 o1 x18 r ∧ σ=⟨[(0, pw bx0), (1, iv root3), (4, pw b4), (17, bv x18)], [⟨b4, 26, [.v (.slice none 0 0), iv 0]⟩, ⟨bx0, 48, ([.sl 10 (some ia2) (List.map E_palinode_api_Node o1.1.1), iv o1.1.2, sb o1.2.1, iv o1.2.2.1, iv o1.2.2.2.1] ++ (List.map eB o1.2.2.2.2.l).flatten)⟩], [⟨ia2, 39, 10, o1.1.1.length⟩]⟩) ?_ ?_
 ·refine ks_ 9 h (fun h=>?_) fun h=>?_
  ·exact m_ h
  exact m_ h
 rintro _ ⟨x18,h,rfl⟩;refine i_ h (fun h=>?_) fun h=>?_
 ·refine wn_ 2 h fun h=>?_;refine vp_ (pv_buildC StrC.h rfl rfl) ?_;exact rl_ h hg
 refine wn_ 3 h fun h=>?_;refine xregionD (m := 15) (by kernel_rfl) rfl ?_;obtain ⟨h31, h⟩ := h;obtain ⟨h32, h⟩ := h;obtain ⟨y34, h33, h⟩ := h;refine xpcut 1 #[true, true, true, true, true, true, true, true, true, true, true, true, true, true, false] (fun σ=>∃ b6 i35, σ=⟨[(4, pw b4), (6, pw b6), (31, .agg [.sl 10 (some i35) (List.map E_palinode_api_Node y34), iv o1.1.2])], [⟨b6, 26, [.v (.slice none 0 0), iv 0]⟩, ⟨b4, 26, [.v (.slice none 0 0), iv 0]⟩, ⟨bx0, 48, ([.sl 10 (some ia2) (List.map E_palinode_api_Node o1.1.1), iv o1.1.2, sb o1.2.1, iv o1.2.2.1, iv o1.2.2.2.1] ++ (List.map eB o1.2.2.2.2.l).flatten)⟩], [⟨i35, 39, 10, y34.length⟩, ⟨ia2, 39, 10, o1.1.1.length⟩]⟩) ?_ (fun key36=>?_)
 ·rintro _ ⟨b6,i35,rfl⟩;refine xpstep (i := 14) (by kernel_rfl) rfl ?_;refine wstore 0 ShpC.h rfl rfl rfl rfl rfl rfl rfl ?_;refine xpdone (by kernel_rfl) ?_;refine z0_ k54_ h fun y41 h=>?_;refine i_ h (fun h=>?_) fun h=>?_
  ·refine wn_ 2 h fun h=>?_;refine vp_ (pv_buildC StrC.h rfl rfl) ?_;exact rl_ h hg
  exact rl_ h hg
 refine xpcut 2 #[true, true, true, true, true, true, true, true, true, true, true, true, true, false, false] (fun σ=>∃ i35, σ=⟨[(4, pw b4), (31, .agg [.sl 10 (some i35) (List.map E_palinode_api_Node y34), iv o1.1.2])], [⟨b4, 26, [.v (.slice none 0 0), iv 0]⟩, ⟨bx0, 48, ([.sl 10 (some ia2) (List.map E_palinode_api_Node o1.1.1), iv o1.1.2, sb o1.2.1, iv o1.2.2.1, iv o1.2.2.2.1] ++ (List.map eB o1.2.2.2.2.l).flatten)⟩], [⟨i35, 39, 10, y34.length⟩, ⟨ia2, 39, 10, o1.1.1.length⟩]⟩) ?_ (fun key43=>?_)
 ·rintro _ ⟨i35,rfl⟩;refine xpstep (i := 13) (by kernel_rfl) rfl ?_;refine walloc InfC.h rfl rfl fun b6 => ?_;exact xpuse key36 ⟨b6, i35, rfl⟩ ⟨lk_, sm_⟩ rfl (by kernel_rfl)
 refine o_ [0,1,2,4,5,8,9,10,3] ?_;refine pl_ 6 rfl (pv_sliceHi h32 UndC.h ShpC.h rfl rfl) ?_;refine xpstepN (is := [7, 11, 13]) (by kernel_rfl) (by simp) ?_;intro i hi; simp only [List.mem_cons, List.not_mem_nil, or_false] at hi; rcases hi with rfl | rfl | rfl
 ·refine ⟨_, rfl, ?_⟩;refine wz1_ k53_ h33 fun i35=>?_;refine o_ [11] ?_;refine pl_ 12 rfl (pv_buildC StrC.h rfl rfl) ?_;exact xpuse key43 ⟨i35, rfl⟩ ⟨lk_, sm_⟩ rfl (by kernel_rfl)
 ·refine ⟨_, rfl, ?_⟩;refine wv_ (qv_loadB 1 ShpC.h rfl rfl rfl rfl) ?_;refine xpstepN (is := [7, 13]) (by kernel_rfl) (by simp) ?_;intro i hi; simp only [List.mem_cons, List.not_mem_nil, or_false] at hi; rcases hi with rfl | rfl
  ·refine ⟨_, rfl, ?_⟩;refine wz1_ k53_ h33 fun i35=>?_;refine pl_ 12 rfl (pv_buildC StrC.h rfl rfl) ?_;exact xpuse key43 ⟨i35, rfl⟩ ⟨lk_, sm_⟩ rfl (by kernel_rfl)
  ·refine ⟨_, rfl, ?_⟩;refine walloc InfC.h rfl rfl fun b6 => ?_;refine xpstep (i := 7) (by kernel_rfl) rfl ?_;refine wz1_ k53_ h33 fun i35=>?_;refine pl_ 12 rfl (pv_buildC StrC.h rfl rfl) ?_;exact xpuse key36 ⟨b6, i35, rfl⟩ ⟨lk_, sm_⟩ rfl (by kernel_rfl)
 ·refine ⟨_, rfl, ?_⟩;refine walloc InfC.h rfl rfl fun b6 => ?_;refine xfl0 [⟨11, 30, iv o1.1.2⟩] 3 ?_;refine xflstep 7 (by kernel_rfl) rfl (.cons rfl rfl rfl (fun _ => rfl) (fun _ => qv_loadB 2 ShpC.h rfl rfl rfl rfl) .nil) fun D l td hR => ?_;refine wz1_ k53_ h33 fun i35=>?_;refine xflgo1 hR ?_;refine xflend (l' := #[true, true, true, true, true, true, true, true, true, true, true, true, false, true, false]) (by kernel_rfl) (.cons rfl rfl rfl (fun _ => rfl) (fun _ => qv_loadB 2 ShpC.h rfl rfl rfl rfl) .nil) (by kernel_rfl) rfl (by kernel_rfl) (by kernel_rfl) ?_
  simp only [List.nil_append, List.cons_append, List.map_cons, List.map_nil];refine pl_ 12 rfl (pv_buildC StrC.h rfl rfl) ?_;exact xpuse key36 ⟨b6, i35, rfl⟩ ⟨lk_, sm_⟩ rfl (by kernel_rfl)
def ere_Parse_j1 (root11 : Int) (f12 : List T3t) (f14 : Int) (f15 : List UInt8) (f16 : Int) (f17 : Int) (f18 : Arr 10 (Bool)) (r : T0t × Int × Int) : Prop :=
  ∃ y29 : T0t × Bool, tree_Builder_Re_R ((f12, f14), f15, f16, f17, f18) root11 y29 ∧ ((¬ (f17 = 0) → r = ((([] : List T3t), 0), f16, f17)) ∧ (¬ (¬ (f17 = 0)) → ((¬ (y29.2 = true) → r = ((([] : List T3t), 0), f16, 8)) ∧ (¬ (¬ (y29.2 = true)) → r = (y29.1, 0, 0)))))
def ere_Parse_R (bv1 : List UInt8) (r : T0t × Int × Int) : Prop :=
  (((bv1.length : Int) = 0 → ∃ y23 : Int × T1t, tree_Builder_Empty_R ((([] : List T3t), 0), bv1, 0, 0, (Arr.rep 10 false)) y23 ∧ ere_Parse_j1 y23.1 y23.2.1.1 y23.2.1.2 y23.2.2.1 y23.2.2.2.1 y23.2.2.2.2.1 y23.2.2.2.2.2 r) ∧ (¬ ((bv1.length : Int) = 0) → ∃ y26 : Int × T1t, ere_parser_alternatives_R ((([] : List T3t), 0), bv1, 0, 0, (Arr.rep 10 false)) false y26 ∧ ere_Parse_j1 y26.1 y26.2.1.1 y26.2.1.2 y26.2.2.1 y26.2.2.2.1 y26.2.2.2.2.1 y26.2.2.2.2.2 r))
set_option maxRecDepth 100000 in
set_option maxHeartbeats 4000000 in
theorem k56_ ⦃bv1 : List UInt8⦄ ⦃r : T0t × Int × Int⦄ (h : ere_Parse_R bv1 r) : Cn Try.prog 8 [sb bv1] [] [] fun rr bx tk=>rr=.tup [.agg [.sl 10 none (List.map E_palinode_api_Node r.1.1), iv r.1.2], iv r.2.1, iv r.2.2] ∧ bx=[] ∧ tk=[] := by
 refine xenterN Try.func8 rfl rfl (by kernel_rfl) fun g hg=>?_;simp only [Try.ntmps8,slots];refine wn_ 2 h fun h=>?_;refine xalloc InfC.h rfl rfl fun b2 => ?_;refine wn_ 7 h fun h=>?_;refine vp_ (pv_buildC (cs := ([.v (.slice none 0 0), iv 0, sb bv1, iv 0, iv 0] ++ (List.map eB ((Arr.rep 10 false)).l).flatten)) StrC.h rfl (by refine fill_step [.v (.slice none 0 0), iv 0] [.v (.slice none 0 0)] ([iv 0, iv 0] ++ (List.map eB ((Arr.rep 10 false)).l).flatten) sq_ sl_ sl_ sl_ rfl rfl ?_; exact congrArg some sq_)) ?_
 refine xbox rfl rfl rfl rfl fun b11 => ?_;refine wn_ 8 h fun h=>?_;refine xseqM (fun σ=>∃ root11 f12 f14 f15 f16 f17 f18 i13, ere_Parse_j1 root11 f12 f14 f15 f16 f17 f18 r ∧ σ=⟨[(2, pw b2), (5, pw b11), (6, iv root11)], [⟨b11, 48, ([.sl 10 (some i13) (List.map E_palinode_api_Node f12), iv f14, sb f15, iv f16, iv f17] ++ (List.map eB f18.l).flatten)⟩, ⟨b2, 26, [.v (.slice none 0 0), iv 0]⟩], [⟨i13, 39, 10, f12.length⟩]⟩) ?_ ?_
 ·refine i_ h (fun h=>?_) fun h=>?_
  ·refine c1_ k8_ h fun y23 i24 h=>?_;exact m_ h
  refine c1_ k48_ h fun y26 i27 h=>?_;exact m_ h
 rintro _ ⟨root11,f12,f14,f15,f16,f17,f18,i13,h,rfl⟩;refine c0_ k55_ h fun y29 h=>?_;refine wn_ 3 h fun h=>?_;refine xalloc InfC.h rfl rfl fun b7 => ?_;refine i_ h (fun h=>?_) fun h=>?_
 ·refine xseq ?_;refine xregionD (m := 12) (by kernel_rfl) rfl ?_;refine xpcut 0 #[true, true, true, true, true, true, true, true, true, true, true, true] (fun σ=>σ=⟨[(2, pw b2), (3, iv f16), (4, iv f17)], [⟨b2, 26, [.v (.slice none 0 0), iv 0]⟩], []⟩) ?_ (fun key38=>?_)
  ·rintro _ rfl;refine xpdone (by kernel_rfl) ?_;exact rl_ h hg
  refine pl_ 0 rfl (pv_buildC StrC.h rfl rfl) ?_;refine o_ [1,2,3,5,6,7] ?_;refine xpstepN (is := [4, 8, 9]) (by kernel_rfl) (by simp) ?_;intro i hi; simp only [List.mem_cons, List.not_mem_nil, or_false] at hi; rcases hi with rfl | rfl | rfl
  ·refine ⟨_, rfl, ?_⟩;refine wv_ (qv_loadB 1 ShpC.h rfl rfl rfl rfl) ?_;refine xfl0 [⟨8, 43, iv f17⟩] 3 ?_;refine xflstep 9 (by kernel_rfl) rfl (.cons rfl rfl rfl (fun _ => rfl) (fun _ => qv_loadB 1 ShpC.h rfl rfl rfl rfl) .nil) fun D l td hR => ?_;refine wstore 2 ShpC.h rfl rfl rfl rfl rfl rfl rfl ?_;refine xflgo0 hR ?_;refine xflval 10 (by kernel_rfl) rfl (fun _ => pv_assign rfl) (fun _ => rfl) rfl (by kernel_rfl) (fun _ _ _ _ h => h) ?_
   refine xflend (l' := #[true, true, true, true, true, true, true, true, true, true, true, false]) (by kernel_rfl) (.cons rfl rfl rfl (fun _ => rfl) (fun _ => qv_loadB 1 ShpC.h rfl rfl rfl rfl) .nil) (by kernel_rfl) rfl (by kernel_rfl) (by kernel_rfl) ?_;simp only [List.nil_append, List.cons_append, List.map_cons, List.map_nil];refine o_ [11] ?_;exact xpuse key38 rfl ⟨lk_, sm_⟩ rfl (by kernel_rfl)
  ·refine ⟨_, rfl, ?_⟩;refine wv_ (qv_loadB 1 ShpC.h rfl rfl rfl rfl) ?_;refine xfl0 [⟨4, 39, iv f16⟩] 3 ?_;refine xflstep 9 (by kernel_rfl) rfl (.cons rfl rfl rfl (fun _ => rfl) (fun _ => qv_loadB 1 ShpC.h rfl rfl rfl rfl) .nil) fun D l td hR => ?_;refine wstore 2 ShpC.h rfl rfl rfl rfl rfl rfl rfl ?_;refine xflgo0 hR ?_;refine xflend (l' := #[true, true, true, true, true, true, true, true, true, true, false, false]) (by kernel_rfl) (.cons rfl rfl rfl (fun _ => rfl) (fun _ => qv_loadB 1 ShpC.h rfl rfl rfl rfl) .nil) (by kernel_rfl) rfl (by kernel_rfl) (by kernel_rfl) ?_
   simp only [List.nil_append, List.cons_append, List.map_cons, List.map_nil];refine o_ [10,11] ?_;exact xpuse key38 rfl ⟨lk_, sm_⟩ rfl (by kernel_rfl)
  ·refine ⟨_, rfl, ?_⟩;refine wstore 2 ShpC.h rfl rfl rfl rfl rfl rfl rfl ?_;refine o_ [4,10,8,11] ?_;exact xpuse key38 rfl ⟨lk_, sm_⟩ rfl (by kernel_rfl)
 refine i_ h (fun h=>?_) fun h=>?_
 ·refine xseq ?_;refine xregionD (m := 8) (by kernel_rfl) rfl ?_;refine pl_ 0 rfl (pv_buildC StrC.h rfl rfl) ?_;refine o_ [1,2,3] ?_;refine xfl0 [⟨4, 51, iv f16⟩] 3 ?_;refine xflstep 5 (by kernel_rfl) rfl (.cons rfl rfl rfl (fun _ => rfl) (fun _ => qv_loadB 1 ShpC.h rfl rfl rfl rfl) .nil) fun D l td hR => ?_;refine wstore 2 ShpC.h rfl rfl rfl rfl rfl rfl rfl ?_;refine xflgo0 hR ?_;refine xflend (l' := #[true, true, true, true, true, true, false, false]) (by kernel_rfl) (.cons rfl rfl rfl (fun _ => rfl) (fun _ => qv_loadB 1 ShpC.h rfl rfl rfl rfl) .nil) (by kernel_rfl) rfl (by kernel_rfl) (by kernel_rfl) ?_
  simp only [List.nil_append, List.cons_append, List.map_cons, List.map_nil];refine o_ [6,7] ?_;refine xpdone (by kernel_rfl) ?_;exact rl_ h hg
 exact rl_ h hg
def palinodelaw09_awake_j1 (x28 : Bool) (r : Bool) : Prop :=
  r = x28
def palinodelaw09_awake_R (r : Bool) : Prop :=
  ∃ y3 : T0t × Int × Int, ere_Parse_R ([(97 : UInt8), (124 : UInt8), (98 : UInt8)]) y3 ∧ ∃ y6 : T0t × Int × Int, ere_Parse_R ([(97 : UInt8), (43 : UInt8)]) y6 ∧ ∃ y9 : T0t × Int × Int, ere_Parse_R ([(97 : UInt8), (124 : UInt8)]) y9 ∧ ((y3.2.2 = 0 → (((y3.1.1.length : Int) = 3 → 0 ≤ (2 : Int) ∧ ∃ y34 : Int × Int × Int × Int × Int × Int × T4t, y3.1.1[(2 : Int).toNat]? = some y34 ∧ ((y34.1 = 3 → ((y6.2.2 = 0 → 0 ≤ (1 : Int) ∧ ∃ y40 : Int × Int × Int × Int × Int × Int × T4t, y6.1.1[(1 : Int).toNat]? = some y40 ∧ palinodelaw09_awake_j1 ((decide (y40.2.2.2.1 = 1)) && ((decide (y9.2.2 = 15)) && (decide (y9.2.1 = 2)))) r) ∧ (¬ (y6.2.2 = 0) → palinodelaw09_awake_j1 false r))) ∧ (¬ (y34.1 = 3) → palinodelaw09_awake_j1 false r))) ∧ (¬ ((y3.1.1.length : Int) = 3) → palinodelaw09_awake_j1 false r))) ∧ (¬ (y3.2.2 = 0) → palinodelaw09_awake_j1 false r))
set_option maxHeartbeats 4000000 in
theorem k57_ ⦃r : Bool⦄ (h : palinodelaw09_awake_R r) : Cn Try.prog 7 [] [] [] (Ret (bv r)) := by
 refine xenterN Try.func7 rfl rfl (by kernel_rfl) fun g hg=>?_;simp only [Try.ntmps7,slots];refine wn_ 7 h fun h=>?_;refine xbuildSliceM (f := eb) [(97 : UInt8), (124 : UInt8), (98 : UInt8)] UndC.h InfC.h rfl rfl wr_ rfl rfl rfl rfl fun s11 => ?_;refine xmark 0 UndC.h UndC.h rfl rfl rfl rfl ?_;refine z0_ k56_ h fun y3 h=>?_;refine wn_ 4 h fun h=>?_;refine xalloc InfC.h rfl rfl fun b1 => ?_
 refine wn_ 7 h fun h=>?_;refine xbuildSliceM (f := eb) [(97 : UInt8), (43 : UInt8)] UndC.h InfC.h rfl rfl wr_ rfl rfl rfl rfl fun s18 => ?_;refine xmark 0 UndC.h UndC.h rfl rfl rfl rfl ?_;refine z0_ k56_ h fun y6 h=>?_;refine wn_ 4 h fun h=>?_;refine xalloc InfC.h rfl rfl fun b4 => ?_;refine wn_ 7 h fun h=>?_;refine xbuildSliceM (f := eb) [(97 : UInt8), (124 : UInt8)] UndC.h InfC.h rfl rfl wr_ rfl rfl rfl rfl fun s25 => ?_
 refine xmark 0 UndC.h UndC.h rfl rfl rfl rfl ?_;refine z0_ k56_ h fun y9 h=>?_;refine wn_ 4 h fun h=>?_;refine xalloc InfC.h rfl rfl fun b7 => ?_;refine wn_ 5 h fun h=>?_;refine xseqM (fun σ=>∃ x28, palinodelaw09_awake_j1 x28 r ∧ σ=⟨[(0, bv x28)], [], []⟩) ?_ ?_
 ·refine is_ 33 h (fun h=>?_) fun h=>?_
  ·refine is_ 39 h (fun h=>?_) fun h=>?_
   ·refine x_ h fun y34 h=>?_;refine is_ 47 h (fun h=>?_) fun h=>?_
    ·refine is_ 51 h (fun h=>?_) fun h=>?_
     ·refine x_ h fun y40 h=>?_;refine ks_ 59 h (fun h=>?_) fun h=>?_
      ·refine ks_ 63 h (fun h=>?_) fun h=>?_
       ·exact m_ h
       exact m_ h
      exact m_ h
     exact m_ h
    exact m_ h
   exact m_ h
  exact m_ h
 rintro _ ⟨x28,h,rfl⟩;exact r_ h hg
def palinoderef06_may_j6 (x354 : Bool) (r : Bool) : Prop :=
  r = x354
def palinoderef06_may_j5 (x1 : Int × Int × Int × Int × Int × Int × T4t) (x304 : Bool) (r : Bool) : Prop :=
  ((x304 = true → r = false) ∧ (¬ (x304 = true) → ((¬ (x1.1 = 4) → ((x1.2.2.2.1 = 0 → r = (decide (x1.2.2.2.2.1 = 0))) ∧ (¬ (x1.2.2.2.1 = 0) → r = false))) ∧ (¬ (¬ (x1.1 = 4)) → palinoderef06_may_j6 ((decide (0 ≤ x1.2.2.2.1)) && ((decide (x1.2.2.2.1 ≤ 255)) && ((decide (x1.2.2.2.2.1 = (-1))) || ((decide (x1.2.2.2.1 ≤ x1.2.2.2.2.1)) && (decide (x1.2.2.2.2.1 ≤ 255)))))) r))))
def palinoderef06_may_j4 (x1 : Int × Int × Int × Int × Int × Int × T4t) (x21 : Bool) (x3 : Int) (x180 : Bool) (r : Bool) : Prop :=
  ((x180 = true → r = false) ∧ (¬ (x180 = true) → palinoderef06_may_j5 x1 (bif x21 then ((decide (x1.2.2.2.2.2.1 < 1)) || ((decide (x3 < x1.2.2.2.2.2.1)) || (bif (!x21) then ((!(decide (x1.2.2.2.2.2.1 = 0))) || ((!(decide (x1.1 = 1))) && (!(decide ((x1.2.2.2.2.2.2 : Arr 4 (UInt64)) = (Arr.rep 4 (0 : UInt64))))))) else ((!(decide (x1.1 = 1))) && (!(decide ((x1.2.2.2.2.2.2 : Arr 4 (UInt64)) = (Arr.rep 4 (0 : UInt64))))))))) else (bif (!x21) then ((!(decide (x1.2.2.2.2.2.1 = 0))) || ((!(decide (x1.1 = 1))) && (!(decide ((x1.2.2.2.2.2.2 : Arr 4 (UInt64)) = (Arr.rep 4 (0 : UInt64))))))) else ((!(decide (x1.1 = 1))) && (!(decide ((x1.2.2.2.2.2.2 : Arr 4 (UInt64)) = (Arr.rep 4 (0 : UInt64)))))))) r))
def palinoderef06_may_j3 (x1 : Int × Int × Int × Int × Int × Int × T4t) (x3 : Int) (x7 : Bool) (x2 : Int) (x14 : Bool) (x21 : Bool) (r : Bool) : Prop :=
  palinoderef06_may_j4 x1 x21 x3 ((decide (x1.1 < 0)) || ((decide (8 < x1.1)) || (bif x7 then ((decide (x1.2.1 < 0)) || ((decide (x2 ≤ x1.2.1)) || (bif (!x7) then ((!(decide (x1.2.1 = 0))) || (bif x14 then ((decide (x1.2.2.1 < 0)) || ((decide (x2 ≤ x1.2.2.1)) || ((!x14) && (!(decide (x1.2.2.1 = 0)))))) else ((!x14) && (!(decide (x1.2.2.1 = 0)))))) else (bif x14 then ((decide (x1.2.2.1 < 0)) || ((decide (x2 ≤ x1.2.2.1)) || ((!x14) && (!(decide (x1.2.2.1 = 0)))))) else ((!x14) && (!(decide (x1.2.2.1 = 0)))))))) else (bif (!x7) then ((!(decide (x1.2.1 = 0))) || (bif x14 then ((decide (x1.2.2.1 < 0)) || ((decide (x2 ≤ x1.2.2.1)) || ((!x14) && (!(decide (x1.2.2.1 = 0)))))) else ((!x14) && (!(decide (x1.2.2.1 = 0)))))) else (bif x14 then ((decide (x1.2.2.1 < 0)) || ((decide (x2 ≤ x1.2.2.1)) || ((!x14) && (!(decide (x1.2.2.1 = 0)))))) else ((!x14) && (!(decide (x1.2.2.1 = 0))))))))) r
def palinoderef06_may_j2 (x1 : Int × Int × Int × Int × Int × Int × T4t) (x3 : Int) (x7 : Bool) (x2 : Int) (x14 : Bool) (r : Bool) : Prop :=
  palinoderef06_may_j3 x1 x3 x7 x2 x14 ((decide (x1.1 = 5)) || (decide (x1.1 = 6))) r
def palinoderef06_may_j1 (x1 : Int × Int × Int × Int × Int × Int × T4t) (x3 : Int) (x2 : Int) (x7 : Bool) (r : Bool) : Prop :=
  palinoderef06_may_j2 x1 x3 x7 x2 ((decide (x1.1 = 2)) || (decide (x1.1 = 3))) r
def palinoderef06_may_R (x1 : Int × Int × Int × Int × Int × Int × T4t) (x2 : Int) (x3 : Int) (r : Bool) : Prop :=
  palinoderef06_may_j1 x1 x3 x2 ((decide (2 ≤ x1.1)) && (decide (x1.1 ≤ 5))) r
set_option maxHeartbeats 4000000 in
theorem k58_ ⦃x1 : Int × Int × Int × Int × Int × Int × T4t⦄ ⦃x2 : Int⦄ ⦃x3 : Int⦄ ⦃r : Bool⦄ (h : palinoderef06_may_R x1 x2 x3 r) : Cn Try.prog 19 [.agg (E_palinode_api_Node x1), iv x2, iv x3] [] [] (Ret (bv r)) := by
 refine xenterN Try.func19 rfl rfl (by kernel_rfl) fun g hg=>?_;simp only [Try.ntmps19,slots];unfold palinoderef06_may_R at h;refine wn_ 2 h fun h=>?_;refine xbox rfl rfl rfl rfl fun b3 => ?_;refine wn_ 3 h fun h=>?_;refine xseqM (fun σ=>∃ x7, palinoderef06_may_j1 x1 x3 x2 x7 r ∧ σ=⟨[(1, iv x2), (2, iv x3), (3, pw b3), (7, bv x7)], [⟨b3, 39, (E_palinode_api_Node x1)⟩], []⟩) ?_ ?_
 ·refine ks_ 13 h (fun h=>?_) fun h=>?_
  ·exact m_ h
  exact m_ h
 rintro _ ⟨x7,h,rfl⟩;unfold palinoderef06_may_j1 at h;refine xseqM (fun σ=>∃ x14, palinoderef06_may_j2 x1 x3 x7 x2 x14 r ∧ σ=⟨[(1, iv x2), (2, iv x3), (3, pw b3), (7, bv x7), (8, bv x14)], [⟨b3, 39, (E_palinode_api_Node x1)⟩], []⟩) ?_ ?_
 ·refine ks_ 21 h (fun h=>?_) fun h=>?_
  ·exact m_ h
  exact m_ h
 rintro _ ⟨x14,h,rfl⟩;unfold palinoderef06_may_j2 at h;refine xseqM (fun σ=>∃ x21, palinoderef06_may_j3 x1 x3 x7 x2 x14 x21 r ∧ σ=⟨[(1, iv x2), (2, iv x3), (3, pw b3), (7, bv x7), (8, bv x14), (9, bv x21)], [⟨b3, 39, (E_palinode_api_Node x1)⟩], []⟩) ?_ ?_
 ·refine ks_ 29 h (fun h=>?_) fun h=>?_
  ·exact m_ h
  exact m_ h
 rintro _ ⟨x21,h,rfl⟩;unfold palinoderef06_may_j3 at h;refine xseq ?_;refine xseqM (fun σ=>∃ x180, palinoderef06_may_j4 x1 x21 x3 x180 r ∧ σ=⟨[(2, iv x3), (3, pw b3), (9, bv x21), (87, bv x180)], [⟨b3, 39, (E_palinode_api_Node x1)⟩], []⟩) ?_ ?_
 ·refine ks_ 37 h (fun h=>?_) fun h=>?_
  ·exact m_ h
  refine ks_ 42 h (fun h=>?_) fun h=>?_
  ·exact m_ h
  refine ks_ 44 h (fun h=>?_) fun h=>?_
  ·refine ks_ 48 h (fun h=>?_) fun h=>?_
   ·exact m_ h
   refine ks_ 56 h (fun h=>?_) fun h=>?_
   ·exact m_ h
   refine ks_ 59 h (fun h=>?_) fun h=>?_
   ·refine ks_ 65 h (fun h=>?_) fun h=>?_
    ·exact m_ h
    refine ks_ 67 h (fun h=>?_) fun h=>?_
    ·refine ks_ 71 h (fun h=>?_) fun h=>?_
     ·exact m_ h
     refine ks_ 79 h (fun h=>?_) fun h=>?_
     ·exact m_ h
     refine ks_ 82 h (fun h=>?_) fun h=>?_
     ·exact m_ h
     exact m_ h
    refine ks_ 82 h (fun h=>?_) fun h=>?_
    ·exact m_ h
    exact m_ h
   refine ks_ 67 h (fun h=>?_) fun h=>?_
   ·refine ks_ 71 h (fun h=>?_) fun h=>?_
    ·exact m_ h
    refine ks_ 79 h (fun h=>?_) fun h=>?_
    ·exact m_ h
    refine ks_ 82 h (fun h=>?_) fun h=>?_
    ·exact m_ h
    exact m_ h
   refine ks_ 82 h (fun h=>?_) fun h=>?_
   ·exact m_ h
   exact m_ h
  refine ks_ 59 h (fun h=>?_) fun h=>?_
  ·refine ks_ 65 h (fun h=>?_) fun h=>?_
   ·exact m_ h
   refine ks_ 67 h (fun h=>?_) fun h=>?_
   ·refine ks_ 71 h (fun h=>?_) fun h=>?_
    ·exact m_ h
    refine ks_ 79 h (fun h=>?_) fun h=>?_
    ·exact m_ h
    refine ks_ 82 h (fun h=>?_) fun h=>?_
    ·exact m_ h
    exact m_ h
   refine ks_ 82 h (fun h=>?_) fun h=>?_
   ·exact m_ h
   exact m_ h
  refine ks_ 67 h (fun h=>?_) fun h=>?_
  ·refine ks_ 71 h (fun h=>?_) fun h=>?_
   ·exact m_ h
   refine ks_ 79 h (fun h=>?_) fun h=>?_
   ·exact m_ h
   refine ks_ 82 h (fun h=>?_) fun h=>?_
   ·exact m_ h
   exact m_ h
  refine ks_ 82 h (fun h=>?_) fun h=>?_
  ·exact m_ h
  exact m_ h
 rintro _ ⟨x180,h,rfl⟩;refine i_ h (fun h=>?_) fun h=>?_
 ·exact r_ h hg
 refine wn_ 3 h fun h=>?_;refine xseqM (fun σ=>∃ x304, palinoderef06_may_j5 x1 x304 r ∧ σ=⟨[(3, pw b3), (119, bv x304)], [⟨b3, 39, (E_palinode_api_Node x1)⟩], []⟩) ?_ ?_
 ·refine ks_ 89 h (fun h=>?_) fun h=>?_
  ·refine ks_ 93 h (fun h=>?_) fun h=>?_
   ·exact m_ h
   refine ks_ 100 h (fun h=>?_) fun h=>?_
   ·exact m_ h
   refine ks_ 103 h (fun h=>?_) fun h=>?_
   ·refine ks_ 109 h (fun h=>?_) fun h=>?_
    ·exact m_ h
    refine ks_ 113 h (fun h=>?_) fun h=>?_
    ·refine vp_ (qv_fieldAddrB FldC.h rfl) ?_;refine v_ (qv_loadP 0 [iv x1.1, iv x1.2.1, iv x1.2.2.1, iv x1.2.2.2.1, iv x1.2.2.2.2.1, iv x1.2.2.2.2.2.1] ((List.map ew x1.2.2.2.2.2.2.l).flatten) [] sq_ sl_ sl_ (part_all (seg_lenE (by rfl))) ShpC.h rfl rfl) ?_;refine vp_ (pv_buildAC (cs := ((List.map ew ((Arr.rep 4 (0 : UInt64))).l).flatten)) UndC.h ShpC.h InfC.h rfl (by rfl)) ?_
     refine vp_ (pv_neAgg (f := E_palinode_api_Set) (a := x1.2.2.2.2.2.2) (b := (Arr.rep 4 (0 : UInt64))) (eqC_arr (t := 37) (e := 35) (f := ew) UndC.h ShpC.h (by kernel_rfl) inferInstance (fun _ => rfl)) (by decide) (by kernel_rfl) ev_ ev_) ?_;exact m_ h
    exact m_ h
   refine ks_ 113 h (fun h=>?_) fun h=>?_
   ·refine vp_ (qv_fieldAddrB FldC.h rfl) ?_;refine v_ (qv_loadP 0 [iv x1.1, iv x1.2.1, iv x1.2.2.1, iv x1.2.2.2.1, iv x1.2.2.2.2.1, iv x1.2.2.2.2.2.1] ((List.map ew x1.2.2.2.2.2.2.l).flatten) [] sq_ sl_ sl_ (part_all (seg_lenE (by rfl))) ShpC.h rfl rfl) ?_;refine vp_ (pv_buildAC (cs := ((List.map ew ((Arr.rep 4 (0 : UInt64))).l).flatten)) UndC.h ShpC.h InfC.h rfl (by rfl)) ?_
    refine vp_ (pv_neAgg (f := E_palinode_api_Set) (a := x1.2.2.2.2.2.2) (b := (Arr.rep 4 (0 : UInt64))) (eqC_arr (t := 37) (e := 35) (f := ew) UndC.h ShpC.h (by kernel_rfl) inferInstance (fun _ => rfl)) (by decide) (by kernel_rfl) ev_ ev_) ?_;exact m_ h
   exact m_ h
  refine ks_ 103 h (fun h=>?_) fun h=>?_
  ·refine ks_ 109 h (fun h=>?_) fun h=>?_
   ·exact m_ h
   refine ks_ 113 h (fun h=>?_) fun h=>?_
   ·refine vp_ (qv_fieldAddrB FldC.h rfl) ?_;refine v_ (qv_loadP 0 [iv x1.1, iv x1.2.1, iv x1.2.2.1, iv x1.2.2.2.1, iv x1.2.2.2.2.1, iv x1.2.2.2.2.2.1] ((List.map ew x1.2.2.2.2.2.2.l).flatten) [] sq_ sl_ sl_ (part_all (seg_lenE (by rfl))) ShpC.h rfl rfl) ?_;refine vp_ (pv_buildAC (cs := ((List.map ew ((Arr.rep 4 (0 : UInt64))).l).flatten)) UndC.h ShpC.h InfC.h rfl (by rfl)) ?_
    refine vp_ (pv_neAgg (f := E_palinode_api_Set) (a := x1.2.2.2.2.2.2) (b := (Arr.rep 4 (0 : UInt64))) (eqC_arr (t := 37) (e := 35) (f := ew) UndC.h ShpC.h (by kernel_rfl) inferInstance (fun _ => rfl)) (by decide) (by kernel_rfl) ev_ ev_) ?_;exact m_ h
   exact m_ h
  refine ks_ 113 h (fun h=>?_) fun h=>?_
  ·refine vp_ (qv_fieldAddrB FldC.h rfl) ?_;refine v_ (qv_loadP 0 [iv x1.1, iv x1.2.1, iv x1.2.2.1, iv x1.2.2.2.1, iv x1.2.2.2.2.1, iv x1.2.2.2.2.2.1] ((List.map ew x1.2.2.2.2.2.2.l).flatten) [] sq_ sl_ sl_ (part_all (seg_lenE (by rfl))) ShpC.h rfl rfl) ?_;refine vp_ (pv_buildAC (cs := ((List.map ew ((Arr.rep 4 (0 : UInt64))).l).flatten)) UndC.h ShpC.h InfC.h rfl (by rfl)) ?_
   refine vp_ (pv_neAgg (f := E_palinode_api_Set) (a := x1.2.2.2.2.2.2) (b := (Arr.rep 4 (0 : UInt64))) (eqC_arr (t := 37) (e := 35) (f := ew) UndC.h ShpC.h (by kernel_rfl) inferInstance (fun _ => rfl)) (by decide) (by kernel_rfl) ev_ ev_) ?_;exact m_ h
  exact m_ h
 rintro _ ⟨x304,h,rfl⟩;refine i_ h (fun h=>?_) fun h=>?_
 ·exact r_ h hg
 refine i_ h (fun h=>?_) fun h=>?_
 ·refine is_ 126 h (fun h=>?_) fun h=>?_
  ·exact r_ h hg
  exact r_ h hg
 refine wn_ 2 h fun h=>?_;refine xseqM (fun σ=>∃ x354, palinoderef06_may_j6 x354 r ∧ σ=⟨[(6, bv x354)], [], []⟩) ?_ ?_
 ·refine ks_ 134 h (fun h=>?_) fun h=>?_
  ·refine ks_ 139 h (fun h=>?_) fun h=>?_
   ·refine ks_ 143 h (fun h=>?_) fun h=>?_
    ·exact m_ h
    refine ks_ 149 h (fun h=>?_) fun h=>?_
    ·exact m_ h
    exact m_ h
   exact m_ h
  exact m_ h
 rintro _ ⟨x354,h,rfl⟩;exact r_ h hg
def palinoderef06_Builder_Put_R (o1 : (List UInt8) × Int × Int × T0t × T5t) (nv3 : Int × Int × Int × Int × Int × Int × T4t) (r : Int × T2t) : Prop :=
  ((1000 ≤ (o1.2.2.2.1.1.length : Int) → r = ((-1), o1)) ∧ (¬ (1000 ≤ (o1.2.2.2.1.1.length : Int)) → ∃ y28 : Bool, palinoderef06_may_R nv3 (o1.2.2.2.1.1.length : Int) o1.2.2.2.1.2 y28 ∧ ((¬ (y28 = true) → r = ((-1), o1)) ∧ (¬ (¬ (y28 = true)) → Room ((([] : List T3t)).length + o1.2.2.2.1.1.length) 80 ∧ Room (((([] : List T3t) ++ o1.2.2.2.1.1)).length + ([nv3]).length) 80 ∧ InR (((((([] : List T3t) ++ o1.2.2.2.1.1) ++ [nv3])).length : Int) - 1) ∧ r = ((((((([] : List T3t) ++ o1.2.2.2.1.1) ++ [nv3])).length : Int) - 1), (o1.1, o1.2.1, o1.2.2.1, (((([] : List T3t) ++ o1.2.2.2.1.1) ++ [nv3]), o1.2.2.2.1.2), o1.2.2.2.2))))))
set_option maxHeartbeats 4000000 in
theorem k59_ ⦃o1 : (List UInt8) × Int × Int × T0t × T5t⦄ ⦃nv3 : Int × Int × Int × Int × Int × Int × T4t⦄ ⦃r : Int × T2t⦄ (h : palinoderef06_Builder_Put_R o1 nv3 r) (bx0 : Nat) (ia2 : Option (Nat × Nat)) : Cn Try.prog 29 [.v (.pointer (some ⟨bx0, 3, none⟩)), .agg (E_palinode_api_Node nv3)] [⟨bx0, 57, ([sb o1.1, iv o1.2.1, iv o1.2.2.1, .sl 10 (some ia2) (List.map E_palinode_api_Node o1.2.2.2.1.1), iv o1.2.2.2.1.2] ++ (List.map eB o1.2.2.2.2.l).flatten)⟩] [⟨ia2, 39, 10, o1.2.2.2.1.1.length⟩] fun rr bx tk=>∃ j1, rr=iv r.1 ∧ bx=[⟨bx0, 57, ([sb r.2.1, iv r.2.2.1, iv r.2.2.2.1, .sl 10 (some j1) (List.map E_palinode_api_Node r.2.2.2.2.1.1), iv r.2.2.2.2.1.2] ++ (List.map eB r.2.2.2.2.2.l).flatten)⟩] ∧ tk=[⟨j1, 39, 10, r.2.2.2.2.1.1.length⟩] := by
 refine xenterN Try.func29 rfl rfl (by kernel_rfl) fun g hg=>?_;simp only [Try.ntmps29,slots];refine wn_ 2 h fun h=>?_;refine xbox rfl rfl rfl rfl fun b3 => ?_;refine wn_ 5 h fun h=>?_;refine xregionD (m := 20) (by kernel_rfl) rfl ?_;refine o_ [0,1,2,3,4,5,6] ?_;refine ip_ 11 h (fun h=>?_) fun h=>?_
 ·refine o_ [7,8,9,10,11,12,13,14,15,16,17,18,19] ?_;refine xpdone (by kernel_rfl) ?_;exact r_ h hg
 obtain ⟨y28, h27, h⟩ := h;refine o_ [8,9,10,13,14,15] ?_;refine xpvalE 7 [11, 12, 16] rfl (qv_loadP 0 [] (E_palinode_api_Node nv3) [] sq_ sl_ sl_ (part_all sl_) ShpC.h rfl rfl) rfl rfl (by kernel_rfl) (by kernel_rfl) (by kernel_rfl) (fun _ _ _ _ h => h) ?_
 refine o_ [11,12,16] ?_;refine xpstep (i := 17) (by kernel_rfl) rfl ?_;refine wz0_ k58_ h27 ?_;refine o_ [18,19] ?_;refine xpdone (by kernel_rfl) ?_;refine i_ h (fun h=>?_) fun h=>?_
 ·exact r_ h hg
 refine wn_ 3 h fun h=>?_;refine xregionD (m := 13) (by kernel_rfl) rfl ?_;obtain ⟨h38, h⟩ := h;obtain ⟨h40, h⟩ := h;refine xpcut 4 #[true, true, true, true, true, true, true, true, true, false, false, false, false] (fun σ=>∃ i39 s33, σ=⟨[(0, .v (.pointer (some ⟨bx0, 3, none⟩))), (25, .v (.pointer (some ⟨bx0, 3, none⟩))), (31, .sl 10 (some i39) (List.map E_palinode_api_Node ((([] : List T3t) ++ o1.2.2.2.1.1)))), (33, .sl 10 (some (some (s33, 1))) (List.map E_palinode_api_Node ([nv3])))], [⟨bx0, 57, ([sb o1.1, iv o1.2.1, iv o1.2.2.1, .sl 10 (some ia2) (List.map E_palinode_api_Node o1.2.2.2.1.1), iv o1.2.2.2.1.2] ++ (List.map eB o1.2.2.2.2.l).flatten)⟩], [⟨(some (s33, 1)), 39, 10, ([nv3]).length⟩, ⟨i39, 39, 10, ((([] : List T3t) ++ o1.2.2.2.1.1)).length⟩, ⟨ia2, 39, 10, o1.2.2.2.1.1.length⟩]⟩) ?_ (fun key42=>?_)
 ·rintro _ ⟨i39,s33,rfl⟩;refine xpstep (i := 9) (by kernel_rfl) rfl ?_;refine wappendM (l := (([] : List T3t) ++ o1.2.2.2.1.1)) (l2 := [nv3]) 1 h40 UndC.h InfC.h rfl rfl rfl (.refl _) rfl rfl rfl fun i41 => ?_;refine o_ [10,11] ?_;refine xpstep (i := 12) (by kernel_rfl) rfl ?_;refine wstore 0 ShpC.h rfl rfl rfl rfl rfl rfl rfl ?_;refine xpdone (by kernel_rfl) ?_
  exact r_ h hg
 refine xpcut 5 #[true, true, true, true, true, true, true, true, false, false, false, false, false] (fun σ=>∃ i39, σ=⟨[(0, .v (.pointer (some ⟨bx0, 3, none⟩))), (25, .v (.pointer (some ⟨bx0, 3, none⟩))), (31, .sl 10 (some i39) (List.map E_palinode_api_Node ((([] : List T3t) ++ o1.2.2.2.1.1)))), (32, .agg (E_palinode_api_Node nv3))], [⟨bx0, 57, ([sb o1.1, iv o1.2.1, iv o1.2.2.1, .sl 10 (some ia2) (List.map E_palinode_api_Node o1.2.2.2.1.1), iv o1.2.2.2.1.2] ++ (List.map eB o1.2.2.2.2.l).flatten)⟩], [⟨i39, 39, 10, ((([] : List T3t) ++ o1.2.2.2.1.1)).length⟩, ⟨ia2, 39, 10, o1.2.2.2.1.1.length⟩]⟩) ?_ (fun key45=>?_)
 ·rintro _ ⟨i39,rfl⟩;refine xpstep (i := 8) (by kernel_rfl) rfl ?_;refine wbuildSliceME (f := E_palinode_api_Node) [nv3] UndC.h InfC.h rfl (.cons rfl (beq_of sl_) rfl rfl .nil) wr_ rfl rfl rfl rfl fun s33 => ?_;exact xpuse key42 ⟨i39, s33, rfl⟩ ⟨lk_, sm_⟩ rfl (by kernel_rfl)
 refine xpcut 5 #[true, true, true, true, true, true, false, true, true, false, false, false, false] (fun σ=>∃ s26 s33, σ=⟨[(0, .v (.pointer (some ⟨bx0, 3, none⟩))), (25, .v (.pointer (some ⟨bx0, 3, none⟩))), (26, .sl 10 (some (some (s26, 0))) (List.map E_palinode_api_Node (([] : List T3t)))), (30, .sl 10 (some ia2) (List.map E_palinode_api_Node o1.2.2.2.1.1)), (33, .sl 10 (some (some (s33, 1))) (List.map E_palinode_api_Node ([nv3])))], [⟨bx0, 57, ([sb o1.1, iv o1.2.1, iv o1.2.2.1, .sl 10 (some ia2) (List.map E_palinode_api_Node o1.2.2.2.1.1), iv o1.2.2.2.1.2] ++ (List.map eB o1.2.2.2.2.l).flatten)⟩], [⟨(some (s33, 1)), 39, 10, ([nv3]).length⟩, ⟨(some (s26, 0)), 39, 10, (([] : List T3t)).length⟩, ⟨ia2, 39, 10, o1.2.2.2.1.1.length⟩]⟩) ?_ (fun key46=>?_)
 ·rintro _ ⟨s26,s33,rfl⟩;refine xpstep (i := 6) (by kernel_rfl) rfl ?_;refine wappendM (l := ([] : List T3t)) (l2 := o1.2.2.2.1.1) 1 h38 UndC.h InfC.h rfl rfl rfl (.refl _) rfl rfl rfl fun i39 => ?_;exact xpuse key42 ⟨i39, s33, rfl⟩ ⟨lk_, sm_⟩ rfl (by kernel_rfl)
 refine xpcut 6 #[true, true, true, true, true, true, false, true, false, false, false, false, false] (fun σ=>∃ s26, σ=⟨[(0, .v (.pointer (some ⟨bx0, 3, none⟩))), (25, .v (.pointer (some ⟨bx0, 3, none⟩))), (26, .sl 10 (some (some (s26, 0))) (List.map E_palinode_api_Node (([] : List T3t)))), (30, .sl 10 (some ia2) (List.map E_palinode_api_Node o1.2.2.2.1.1)), (32, .agg (E_palinode_api_Node nv3))], [⟨bx0, 57, ([sb o1.1, iv o1.2.1, iv o1.2.2.1, .sl 10 (some ia2) (List.map E_palinode_api_Node o1.2.2.2.1.1), iv o1.2.2.2.1.2] ++ (List.map eB o1.2.2.2.2.l).flatten)⟩], [⟨(some (s26, 0)), 39, 10, (([] : List T3t)).length⟩, ⟨ia2, 39, 10, o1.2.2.2.1.1.length⟩]⟩) ?_ (fun key47=>?_)
 ·rintro _ ⟨s26,rfl⟩;refine xpstepN (is := [6, 8]) (by kernel_rfl) (by simp) ?_;intro i hi; simp only [List.mem_cons, List.not_mem_nil, or_false] at hi; rcases hi with rfl | rfl
  ·refine ⟨_, rfl, ?_⟩;refine wappendM (l := ([] : List T3t)) (l2 := o1.2.2.2.1.1) 0 h38 UndC.h InfC.h rfl rfl rfl (.refl _) rfl rfl rfl fun i39 => ?_;exact xpuse key45 ⟨i39, rfl⟩ ⟨lk_, sm_⟩ rfl (by kernel_rfl)
  ·refine ⟨_, rfl, ?_⟩;refine wbuildSliceME (f := E_palinode_api_Node) [nv3] UndC.h InfC.h rfl (.cons rfl (beq_of sl_) rfl rfl .nil) wr_ rfl rfl rfl rfl fun s33 => ?_;exact xpuse key46 ⟨s26, s33, rfl⟩ ⟨lk_, sm_⟩ rfl (by kernel_rfl)
 refine o_ [0,2,3,4,5] ?_;refine xpstepN (is := [1, 7]) (by kernel_rfl) (by simp) ?_;intro i hi; simp only [List.mem_cons, List.not_mem_nil, or_false] at hi; rcases hi with rfl | rfl
 ·refine ⟨_, rfl, ?_⟩;refine wbuildSliceME (f := E_palinode_api_Node) ([] : List T3t) UndC.h InfC.h rfl .nil wr_ rfl rfl rfl rfl fun s26 => ?_;refine xpstepN (is := [6, 7]) (by kernel_rfl) (by simp) ?_;intro i hi; simp only [List.mem_cons, List.not_mem_nil, or_false] at hi; rcases hi with rfl | rfl
  ·refine ⟨_, rfl, ?_⟩;refine wappendM (l := ([] : List T3t)) (l2 := o1.2.2.2.1.1) 0 h38 UndC.h InfC.h rfl rfl rfl (.refl _) rfl rfl rfl fun i39 => ?_;refine xpvalE 7 [] rfl (qv_loadP 0 [] (E_palinode_api_Node nv3) [] sq_ sl_ sl_ (part_all sl_) ShpC.h rfl rfl) rfl rfl (by kernel_rfl) (by kernel_rfl) (by kernel_rfl) (fun _ _ _ _ h => h) ?_
   exact xpuse key45 ⟨i39, rfl⟩ ⟨lk_, sm_⟩ rfl (by kernel_rfl)
  ·refine ⟨_, rfl, ?_⟩;refine wv_ (qv_loadP 0 [] (E_palinode_api_Node nv3) [] sq_ sl_ sl_ (part_all sl_) ShpC.h rfl rfl) ?_;exact xpuse key47 ⟨s26, rfl⟩ ⟨lk_, sm_⟩ rfl (by kernel_rfl)
 ·refine ⟨_, rfl, ?_⟩;refine wv_ (qv_loadP 0 [] (E_palinode_api_Node nv3) [] sq_ sl_ sl_ (part_all sl_) ShpC.h rfl rfl) ?_;refine xpstepN (is := [1, 8]) (by kernel_rfl) (by simp) ?_;intro i hi; simp only [List.mem_cons, List.not_mem_nil, or_false] at hi; rcases hi with rfl | rfl
  ·refine ⟨_, rfl, ?_⟩;refine wbuildSliceME (f := E_palinode_api_Node) ([] : List T3t) UndC.h InfC.h rfl .nil wr_ rfl rfl rfl rfl fun s26 => ?_;exact xpuse key47 ⟨s26, rfl⟩ ⟨lk_, sm_⟩ rfl (by kernel_rfl)
  ·refine ⟨_, rfl, ?_⟩;refine wbuildSliceME (f := E_palinode_api_Node) [nv3] UndC.h InfC.h rfl (.cons rfl (beq_of sl_) rfl rfl .nil) wr_ rfl rfl rfl rfl fun s33 => ?_;refine xpstep (i := 1) (by kernel_rfl) rfl ?_;refine wbuildSliceME (f := E_palinode_api_Node) ([] : List T3t) UndC.h InfC.h rfl .nil wr_ rfl rfl rfl rfl fun s26 => ?_;exact xpuse key46 ⟨s26, s33, rfl⟩ ⟨lk_, by refine SubM.trans (SubM.mvT 2 rfl) ?_; refine SubM.trans (SubM.mvT 1 rfl) ?_; refine SubM.trans (SubM.mvT 2 rfl) ?_; (simp only [List.eraseIdx]); exact sm_⟩ rfl (by kernel_rfl)
def palinoderef08_Reader_Put_R (o1 : (List UInt8) × Int × Int × T0t × T5t) (nv3 : Int × Int × Int × Int × Int × Int × T4t) (r : Int × T2t) : Prop :=
  ((¬ (o1.2.2.1 = 0) → r = (0, o1)) ∧ (¬ (¬ (o1.2.2.1 = 0)) → ∃ y12 : Int × T2t, palinoderef06_Builder_Put_R o1 nv3 y12 ∧ ((y12.1 < 0 → r = (y12.1, (y12.2.1, y12.2.2.1, 8, y12.2.2.2.2.1, y12.2.2.2.2.2))) ∧ (¬ (y12.1 < 0) → r = (y12.1, y12.2)))))
set_option maxHeartbeats 4000000 in
theorem k60_ ⦃o1 : (List UInt8) × Int × Int × T0t × T5t⦄ ⦃nv3 : Int × Int × Int × Int × Int × Int × T4t⦄ ⦃r : Int × T2t⦄ (h : palinoderef08_Reader_Put_R o1 nv3 r) (bx0 : Nat) (ia2 : Option (Nat × Nat)) : Cn Try.prog 16 [pw bx0, .agg (E_palinode_api_Node nv3)] [⟨bx0, 57, ([sb o1.1, iv o1.2.1, iv o1.2.2.1, .sl 10 (some ia2) (List.map E_palinode_api_Node o1.2.2.2.1.1), iv o1.2.2.2.1.2] ++ (List.map eB o1.2.2.2.2.l).flatten)⟩] [⟨ia2, 39, 10, o1.2.2.2.1.1.length⟩] fun rr bx tk=>∃ j1, rr=iv r.1 ∧ bx=[⟨bx0, 57, ([sb r.2.1, iv r.2.2.1, iv r.2.2.2.1, .sl 10 (some j1) (List.map E_palinode_api_Node r.2.2.2.2.1.1), iv r.2.2.2.2.1.2] ++ (List.map eB r.2.2.2.2.2.l).flatten)⟩] ∧ tk=[⟨j1, 39, 10, r.2.2.2.2.1.1.length⟩] := by
 refine xenterN Try.func16 rfl rfl (by kernel_rfl) fun g hg=>?_;simp only [Try.ntmps16,slots];refine wn_ 2 h fun h=>?_;refine xbox rfl rfl rfl rfl fun b3 => ?_;refine i_ h (fun h=>?_) fun h=>?_
 ·exact r_ h hg
 refine wn_ 3 h fun h=>?_;refine xregionD (m := 6) (by kernel_rfl) rfl ?_;obtain ⟨y12, h11, h⟩ := h;refine o_ [0,1,2] ?_;refine xpvalE 3 [] rfl (qv_loadP 0 [] (E_palinode_api_Node nv3) [] sq_ sl_ sl_ (part_all sl_) ShpC.h rfl rfl) rfl rfl (by kernel_rfl) (by kernel_rfl) (by kernel_rfl) (fun _ _ _ _ h => h) ?_
 refine xpstep (i := 4) (by kernel_rfl) rfl ?_;refine wc1_ k59_ h11 fun i13=>?_;refine o_ [5] ?_;refine xpdone (by kernel_rfl) ?_;refine i_ h (fun h=>?_) fun h=>?_
 ·exact r_ h hg
 exact r_ h hg
def palinoderef08_told_R (o1 : (List UInt8) × Int × Int × T0t × T5t) (r : T0t × Int × Int) : Prop :=
  ((¬ (o1.2.2.1 = 0) → r = ((([] : List T3t), 0), o1.2.1, o1.2.2.1)) ∧ (¬ (¬ (o1.2.2.1 = 0)) → r = (o1.2.2.2.1, 0, 0)))
set_option maxHeartbeats 4000000 in
theorem k61_ ⦃o1 : (List UInt8) × Int × Int × T0t × T5t⦄ ⦃r : T0t × Int × Int⦄ (h : palinoderef08_told_R o1 r) (bx0 : Nat) (ia2 : Option (Nat × Nat)) : Cn Try.prog 17 [pw bx0] [⟨bx0, 57, ([sb o1.1, iv o1.2.1, iv o1.2.2.1, .sl 10 (some ia2) (List.map E_palinode_api_Node o1.2.2.2.1.1), iv o1.2.2.2.1.2] ++ (List.map eB o1.2.2.2.2.l).flatten)⟩] [⟨ia2, 39, 10, o1.2.2.2.1.1.length⟩] fun rr bx tk=>rr=.tup [.agg [.sl 10 none (List.map E_palinode_api_Node r.1.1), iv r.1.2], iv r.2.1, iv r.2.2] ∧ bx=[⟨bx0, 57, ([sb o1.1, iv o1.2.1, iv o1.2.2.1, .sl 10 (some ia2) (List.map E_palinode_api_Node o1.2.2.2.1.1), iv o1.2.2.2.1.2] ++ (List.map eB o1.2.2.2.2.l).flatten)⟩] ∧ tk=[⟨ia2, 39, 10, o1.2.2.2.1.1.length⟩] := by
 refine xenterN Try.func17 rfl rfl (by kernel_rfl) fun g hg=>?_;simp only [Try.ntmps17,slots];refine wn_ 2 h fun h=>?_;refine xalloc InfC.h rfl rfl fun b2 => ?_;refine i_ h (fun h=>?_) fun h=>?_
 ·refine xseq ?_;refine xregionD (m := 12) (by kernel_rfl) rfl ?_;refine xpcut 0 #[true, true, true, true, true, true, true, true, true, true, true, true] (fun σ=>σ=⟨[(2, pw b2), (3, iv o1.2.1), (4, iv o1.2.2.1)], [⟨b2, 26, [.v (.slice none 0 0), iv 0]⟩, ⟨bx0, 57, ([sb o1.1, iv o1.2.1, iv o1.2.2.1, .sl 10 (some ia2) (List.map E_palinode_api_Node o1.2.2.2.1.1), iv o1.2.2.2.1.2] ++ (List.map eB o1.2.2.2.2.l).flatten)⟩], [⟨ia2, 39, 10, o1.2.2.2.1.1.length⟩]⟩) ?_ (fun key10=>?_)
  ·rintro _ rfl;refine xpdone (by kernel_rfl) ?_;exact rl_ h hg
  refine pl_ 0 rfl (pv_buildC StrC.h rfl rfl) ?_;refine o_ [1,2,3,5,6,7] ?_;refine xpstepN (is := [4, 8, 9]) (by kernel_rfl) (by simp) ?_;intro i hi; simp only [List.mem_cons, List.not_mem_nil, or_false] at hi; rcases hi with rfl | rfl | rfl
  ·refine ⟨_, rfl, ?_⟩;refine wv_ (qv_loadB 1 ShpC.h rfl rfl rfl rfl) ?_;refine xfl0 [⟨8, 18, iv o1.2.2.1⟩] 3 ?_;refine xflstep 9 (by kernel_rfl) rfl (.cons rfl rfl rfl (fun _ => rfl) (fun _ => qv_loadB 1 ShpC.h rfl rfl rfl rfl) .nil) fun D l td hR => ?_;refine wstore 0 ShpC.h rfl rfl rfl rfl rfl rfl rfl ?_;refine xflgo0 hR ?_;refine xflval 10 (by kernel_rfl) rfl (fun _ => pv_assign rfl) (fun _ => rfl) rfl (by kernel_rfl) (fun _ _ _ _ h => h) ?_
   refine xflend (l' := #[true, true, true, true, true, true, true, true, true, true, true, false]) (by kernel_rfl) (.cons rfl rfl rfl (fun _ => rfl) (fun _ => qv_loadB 1 ShpC.h rfl rfl rfl rfl) .nil) (by kernel_rfl) rfl (by kernel_rfl) (by kernel_rfl) ?_;simp only [List.nil_append, List.cons_append, List.map_cons, List.map_nil];refine o_ [11] ?_;exact xpuse key10 rfl ⟨lk_, sm_⟩ rfl (by kernel_rfl)
  ·refine ⟨_, rfl, ?_⟩;refine wv_ (qv_loadB 1 ShpC.h rfl rfl rfl rfl) ?_;refine xfl0 [⟨4, 14, iv o1.2.1⟩] 3 ?_;refine xflstep 9 (by kernel_rfl) rfl (.cons rfl rfl rfl (fun _ => rfl) (fun _ => qv_loadB 1 ShpC.h rfl rfl rfl rfl) .nil) fun D l td hR => ?_;refine wstore 0 ShpC.h rfl rfl rfl rfl rfl rfl rfl ?_;refine xflgo0 hR ?_;refine xflend (l' := #[true, true, true, true, true, true, true, true, true, true, false, false]) (by kernel_rfl) (.cons rfl rfl rfl (fun _ => rfl) (fun _ => qv_loadB 1 ShpC.h rfl rfl rfl rfl) .nil) (by kernel_rfl) rfl (by kernel_rfl) (by kernel_rfl) ?_
   simp only [List.nil_append, List.cons_append, List.map_cons, List.map_nil];refine o_ [10,11] ?_;exact xpuse key10 rfl ⟨lk_, sm_⟩ rfl (by kernel_rfl)
  ·refine ⟨_, rfl, ?_⟩;refine wstore 0 ShpC.h rfl rfl rfl rfl rfl rfl rfl ?_;refine o_ [4,10,8,11] ?_;exact xpuse key10 rfl ⟨lk_, sm_⟩ rfl (by kernel_rfl)
 refine wn_ 3 h fun h=>?_;refine xregionD (m := 14) (by kernel_rfl) rfl ?_;refine o_ [0,1,2,3,5,6,7,8,4,9] ?_;refine pl_ 10 rfl (pv_buildC StrC.h rfl rfl) ?_;refine xpstep (i := 11) (by kernel_rfl) rfl ?_;refine wstore 0 ShpC.h rfl rfl rfl rfl rfl rfl rfl ?_;refine o_ [12,13] ?_;refine xpdone (by kernel_rfl) ?_;exact rl_ h hg
def palinoderef08_Reader_Next_R (o1 : (List UInt8) × Int × Int × T0t × T5t) (k3 : Int) (r : Int) : Prop :=
  InR (o1.2.1 + k3) ∧ (((o1.2.1 + k3) < 0 → r = (-1)) ∧ (¬ ((o1.2.1 + k3) < 0) → InR (o1.2.1 + k3) ∧ (((o1.1.length : Int) ≤ (o1.2.1 + k3) → r = (-1)) ∧ (¬ ((o1.1.length : Int) ≤ (o1.2.1 + k3)) → InR (o1.2.1 + k3) ∧ 0 ≤ ((o1.2.1 + k3) : Int) ∧ ∃ y35 : UInt8, o1.1[((o1.2.1 + k3) : Int).toNat]? = some y35 ∧ r = (y35.toNat : Int)))))
set_option maxHeartbeats 4000000 in
theorem k62_ ⦃o1 : (List UInt8) × Int × Int × T0t × T5t⦄ ⦃k3 : Int⦄ ⦃r : Int⦄ (h : palinoderef08_Reader_Next_R o1 k3 r) (bx0 : Nat) (ia2 : Option (Nat × Nat)) : Cn Try.prog 30 [pw bx0, iv k3] [⟨bx0, 57, ([sb o1.1, iv o1.2.1, iv o1.2.2.1, .sl 10 (some ia2) (List.map E_palinode_api_Node o1.2.2.2.1.1), iv o1.2.2.2.1.2] ++ (List.map eB o1.2.2.2.2.l).flatten)⟩] [⟨ia2, 39, 10, o1.2.2.2.1.1.length⟩] fun rr bx tk=>rr=iv r ∧ bx=[⟨bx0, 57, ([sb o1.1, iv o1.2.1, iv o1.2.2.1, .sl 10 (some ia2) (List.map E_palinode_api_Node o1.2.2.2.1.1), iv o1.2.2.2.1.2] ++ (List.map eB o1.2.2.2.2.l).flatten)⟩] ∧ tk=[⟨ia2, 39, 10, o1.2.2.2.1.1.length⟩] := by
 refine xenterN Try.func30 rfl rfl (by kernel_rfl) fun g hg=>?_;simp only [Try.ntmps30,slots];refine wn_ 7 h fun h=>?_;refine xregionD (m := 21) (by kernel_rfl) rfl ?_;obtain ⟨h23, h⟩ := h;refine o_ [0,1,2,4,3,5,6,7] ?_;refine ip_ 12 h (fun h=>?_) fun h=>?_
 ·refine o_ [8,9,10,11,12,13,14,15,16,17,18,19,20] ?_;refine xpdone (by kernel_rfl) ?_;exact r_ h hg
 obtain ⟨h26, h⟩ := h;refine o_ [8,9,10,12,14,15,16,11,13,17,18,19,20] ?_;refine xpdone (by kernel_rfl) ?_;refine i_ h (fun h=>?_) fun h=>?_
 ·exact r_ h hg
 refine wn_ 3 h fun h=>?_;refine xregionD (m := 14) (by kernel_rfl) rfl ?_;obtain ⟨h34, h⟩ := h;obtain ⟨h36a, h⟩ := h;obtain ⟨y35, h36b, h⟩ := h;refine o_ [0,1,2,4,5,6,8,7,9,3] ?_;refine pl_ 10 rfl (pv_indexAddrM h36a h36b UndC.h ShpC.h rfl rfl) ?_;refine o_ [11,12,13] ?_;refine xpdone (by kernel_rfl) ?_;exact r_ h hg
def palinoderef08_Reader_Cat_l1 (l3 : List Int) (ag1 : (Int × Int × (List UInt8) × Int × Int × (List T3t) × Int × T5t) → Prop) (k75 : Int) (iv76 : Int) (f77 : List UInt8) (f78 : Int) (f79 : Int) (f80 : List T3t) (f82 : Int) (f83 : Arr 10 (Bool)) (r : Int × T2t) : Prop :=
  ((iv76 < (l3.length : Int) → 0 ≤ (iv76 : Int) ∧ ∃ y102 : Int, l3[(iv76 : Int).toNat]? = some y102 ∧ ∃ y105 : Int × T2t, palinoderef08_Reader_Put_R (f77, f78, f79, (f80, f82), f83) (2, k75, y102, 0, 0, 0, (Arr.rep 4 (0 : UInt64))) y105 ∧ InR (iv76 + 1) ∧ ag1 (y105.1, (iv76 + 1), y105.2.1, y105.2.2.1, y105.2.2.2.1, y105.2.2.2.2.1.1, y105.2.2.2.2.1.2, y105.2.2.2.2.2)) ∧ (¬ (iv76 < (l3.length : Int)) → r = (k75, (f77, f78, f79, (f80, f82), f83))))
def palinoderef08_Reader_Cat_R (o1 : (List UInt8) × Int × Int × T0t × T5t) (l3 : List Int) (r : Int × T2t) : Prop :=
  (((l3.length : Int) = 0 → ∃ y14 : Int × T2t, palinoderef08_Reader_Put_R o1 (0, 0, 0, 0, 0, 0, (Arr.rep 4 (0 : UInt64))) y14 ∧ r = (y14.1, y14.2)) ∧ (¬ ((l3.length : Int) = 0) → 0 ≤ (0 : Int) ∧ ∃ y16 : Int, l3[(0 : Int).toNat]? = some y16 ∧ LoopR (fun ag1 s => palinoderef08_Reader_Cat_l1 l3 ag1 s.1 s.2.1 s.2.2.1 s.2.2.2.1 s.2.2.2.2.1 s.2.2.2.2.2.1 s.2.2.2.2.2.2.1 s.2.2.2.2.2.2.2 r) (y16, 1, o1.1, o1.2.1, o1.2.2.1, o1.2.2.2.1.1, o1.2.2.2.1.2, o1.2.2.2.2)))
set_option maxHeartbeats 4000000 in
theorem k63_ ⦃o1 : (List UInt8) × Int × Int × T0t × T5t⦄ ⦃l3 : List Int⦄ ⦃r : Int × T2t⦄ (h : palinoderef08_Reader_Cat_R o1 l3 r) (bx0 : Nat) (ia2 : Option (Nat × Nat)) : Cn Try.prog 32 [pw bx0, .sl 1 none (List.map ei l3)] [⟨bx0, 57, ([sb o1.1, iv o1.2.1, iv o1.2.2.1, .sl 10 (some ia2) (List.map E_palinode_api_Node o1.2.2.2.1.1), iv o1.2.2.2.1.2] ++ (List.map eB o1.2.2.2.2.l).flatten)⟩] [⟨ia2, 39, 10, o1.2.2.2.1.1.length⟩] fun rr bx tk=>∃ j1, rr=iv r.1 ∧ bx=[⟨bx0, 57, ([sb r.2.1, iv r.2.2.1, iv r.2.2.2.1, .sl 10 (some j1) (List.map E_palinode_api_Node r.2.2.2.2.1.1), iv r.2.2.2.2.1.2] ++ (List.map eB r.2.2.2.2.2.l).flatten)⟩] ∧ tk=[⟨j1, 39, 10, r.2.2.2.2.1.1.length⟩] := by
 refine xenterN Try.func32 rfl rfl (by kernel_rfl) fun g hg=>?_;simp only [Try.ntmps32,slots];refine i_ h (fun h=>?_) fun h=>?_
 ·refine wn_ 3 h fun h=>?_;refine vp_ (pv_buildC (cs := ([iv 0, iv 0, iv 0, iv 0, iv 0, iv 0] ++ (List.map ew ((Arr.rep 4 (0 : UInt64))).l).flatten)) StrC.h rfl (by exact congrArg some sq_)) ?_;refine c1_ k60_ h fun y14 i15 h=>?_;exact r_ h hg
 refine x_ h fun y16 h=>?_;refine wn_ 11 h fun h=>?_;obtain ⟨Inv,⟨m0,hI⟩,hS⟩ := lq_ h;refine lp_ hI (fun σ m=>∃ k75 iv76 f77 f78 f79 f80 f82 f83 i81, Inv (k75, iv76, f77, f78, f79, f80, f82, f83) m ∧ σ=⟨[(0, pw bx0), (1, .sl 1 none (List.map ei l3)), (5, iv k75), (6, iv iv76)], [⟨bx0, 57, ([sb f77, iv f78, iv f79, .sl 10 (some i81) (List.map E_palinode_api_Node f80), iv f82] ++ (List.map eB f83.l).flatten)⟩], [⟨i81, 39, 10, f80.length⟩]⟩) ?_
 rintro _ m ⟨k75,iv76,f77,f78,f79,f80,f82,f83,i81,hI,rfl⟩;obtain ⟨ag1,hag1,h⟩ := lpo_ hS hI;refine i_ h (fun h=>?_) fun h=>?_
 ·refine x_ h fun y102 h=>?_;refine v_ (qv_load ShpC.h rfl rfl rfl) ?_;refine vp_ (pv_buildC (cs := ([iv 2, iv k75, iv y102, iv 0, iv 0, iv 0] ++ (List.map ew ((Arr.rep 4 (0 : UInt64))).l).flatten)) StrC.h rfl (by refine fill_step [] [iv 0] ([iv 0, iv 0, iv 0, iv 0, iv 0] ++ (List.map ew ((Arr.rep 4 (0 : UInt64))).l).flatten) sq_ sl_ sl_ sl_ rfl rfl ?_; refine fill_step [iv 2] [iv 0] ([iv 0, iv 0, iv 0, iv 0] ++ (List.map ew ((Arr.rep 4 (0 : UInt64))).l).flatten) sq_ sl_ sl_ sl_ rfl rfl ?_; refine fill_step [iv 2, iv k75] [iv 0] ([iv 0, iv 0, iv 0] ++ (List.map ew ((Arr.rep 4 (0 : UInt64))).l).flatten) sq_ sl_ sl_ sl_ rfl rfl ?_; exact congrArg some sq_)) ?_
  refine c1_ k60_ h fun y105 i106 h=>?_;exact g_ h hag1
 exact r_ h hg
def palinoderef01_In_j2 (iv176 : Int) (ag1 : (Int) → Prop) (r : Bool) : Prop :=
  InR (iv176 + 2) ∧ ag1 (iv176 + 2)
def palinoderef01_In_l1 (row1 : ByteArray) (c2 : UInt8) (ag1 : (Int) → Prop) (iv176 : Int) (r : Bool) : Prop :=
  InR (iv176 + 1) ∧ (((iv176 + 1) < (row1.size : Int) → 0 ≤ (iv176 : Int) ∧ ∃ c254 : UInt8, row1[(iv176 : Int).toNat]? = some c254 ∧ (((c254.toNat : Int) ≤ (c2.toNat : Int) → InR (iv176 + 1) ∧ 0 ≤ ((iv176 + 1) : Int) ∧ ∃ c259 : UInt8, row1[((iv176 + 1) : Int).toNat]? = some c259 ∧ (((c2.toNat : Int) ≤ (c259.toNat : Int) → r = true) ∧ (¬ ((c2.toNat : Int) ≤ (c259.toNat : Int)) → palinoderef01_In_j2 iv176 ag1 r))) ∧ (¬ ((c254.toNat : Int) ≤ (c2.toNat : Int)) → palinoderef01_In_j2 iv176 ag1 r))) ∧ (¬ ((iv176 + 1) < (row1.size : Int)) → r = false))
def palinoderef01_In_R (row1 : ByteArray) (c2 : UInt8) (r : Bool) : Prop :=
  LoopR (fun ag1 s => palinoderef01_In_l1 row1 c2 ag1 s r) 0
set_option maxHeartbeats 4000000 in
theorem k64_ ⦃row1 : ByteArray⦄ ⦃c2 : UInt8⦄ ⦃r : Bool⦄ (h : palinoderef01_In_R row1 c2 r) : Cn Try.prog 77 [.v (.string row1), uv c2] [] [] (Ret (bv r)) := by
 refine xenterN Try.func77 rfl rfl (by kernel_rfl) fun g hg=>?_;simp only [Try.ntmps77,slots];refine wn_ 12 h fun h=>?_;obtain ⟨Inv,⟨m0,hI⟩,hS⟩ := lq_ h;refine lp_ hI (fun σ m=>∃ iv176, Inv iv176 m ∧ σ=⟨[(0, .v (.string row1)), (1, uv c2), (5, iv iv176)], [], []⟩) ?_;rintro _ m ⟨iv176,hI,rfl⟩;obtain ⟨ag1,hag1,h⟩ := lpo_ hS hI;refine i_ h (fun h=>?_) fun h=>?_
 ·refine wn_ 2 h fun h=>?_;refine xseqM (fun σ=>palinoderef01_In_j2 iv176 ag1 r ∧ σ=⟨[(0, .v (.string row1)), (1, uv c2), (5, iv iv176)], [], []⟩) ?_ ?_
  ·refine x_ h fun c254 h=>?_;refine is_ 18 h (fun h=>?_) fun h=>?_
   ·refine x_ h fun c259 h=>?_;refine i_ h (fun h=>?_) fun h=>?_
    ·exact r_ h hg
    exact m_ h
   exact m_ h
  rintro _ ⟨h,rfl⟩;exact g_ h hag1
 exact r_ h hg
def palinoderef08_Alnum_R (c1 : Int) (r : Bool) : Prop :=
  ((0 ≤ c1 → ∃ c11 : UInt8, (c11.toNat : Int) = IntKind.u8.wrap c1 ∧ ∃ y13 : Bool, palinoderef01_In_R (⟨#[65, 90, 97, 122, 48, 57]⟩ : ByteArray) c11 y13 ∧ r = y13) ∧ (¬ (0 ≤ c1) → r = false))
set_option maxHeartbeats 4000000 in
theorem k65_ ⦃c1 : Int⦄ ⦃r : Bool⦄ (h : palinoderef08_Alnum_R c1 r) : Cn Try.prog 60 [iv c1] [] [] (Ret (bv r)) := by
 refine xenterN Try.func60 rfl rfl (by kernel_rfl) fun g hg=>?_;simp only [Try.ntmps60,slots];refine is_ 5 h (fun h=>?_) fun h=>?_
 ·refine mv_ ?_;obtain ⟨c11, h10, h⟩ := h;refine vp_ (pv_convW h10 UndC.h UndC.h rfl) ?_;refine z0_ k64_ h fun y13 h=>?_;exact r_ h hg
 exact r_ h hg
def palinoderef08_One_R (c1 : UInt8) (r : T4t) : Prop :=
  (64 : Int) ≠ 0 ∧ ∃ c3 : UInt8, (c3.toNat : Int) = IntKind.u8.wrap (((c1.toNat : Int)).tdiv 64) ∧ (64 : Int) ≠ 0 ∧ ∃ c5 : UInt8, (c5.toNat : Int) = (((c1.toNat : Int)).tmod 64) ∧ (0 : Int) ≤ (c5.toNat : Int) ∧ ∃ c7 : UInt64, (c7.toNat : Int) = IntKind.u64.wrap ((1 : Int) * 2 ^ (min ((c5.toNat : Int) : Int).toNat IntKind.u64.bits)) ∧ (0 ≤ ((c3.toNat : Int) : Int) ∧ ((c3.toNat : Int) : Int) < 4) ∧ ∃ y9 : UInt64, ((Arr.rep 4 (0 : UInt64))).l[((c3.toNat : Int) : Int).toNat]? = some y9 ∧ r = (Arr.set ((Arr.rep 4 (0 : UInt64))) ((c3.toNat : Int) : Int).toNat c7)
set_option maxHeartbeats 4000000 in
theorem k66_ ⦃c1 : UInt8⦄ ⦃r : T4t⦄ (h : palinoderef08_One_R c1 r) : Cn Try.prog 46 [uv c1] [] [] (Ret (.agg ((List.map ew r.l).flatten))) := by
 refine xenterN Try.func46 rfl rfl (by kernel_rfl) fun g hg=>?_;simp only [Try.ntmps46,slots];refine wn_ 2 h fun h=>?_;refine xalloc InfC.h rfl rfl fun b2 => ?_;refine xreb 0 ((List.map ew ((Arr.rep 4 (0 : UInt64))).l).flatten) rfl rfl ?_;refine wn_ 4 h fun h=>?_;refine xalloc InfC.h rfl rfl fun b3 => ?_;refine xreb 0 ((List.map ew ((Arr.rep 4 (0 : UInt64))).l).flatten) rfl rfl ?_;refine wn_ 5 h fun h=>?_
 obtain ⟨h2, h⟩ := h;obtain ⟨c3, h2r, h⟩ := h;refine vp_ (pv_quoW h2 h2r rfl rfl rfl) ?_;refine mv_ ?_;obtain ⟨h4, h⟩ := h;obtain ⟨c5, h4r, h⟩ := h;refine vp_ (pv_remW h4 h4r rfl rfl rfl) ?_;obtain ⟨h6, h⟩ := h;obtain ⟨c7, h6r, h⟩ := h;refine vp_ (pv_shlW h6 h6r rfl rfl) ?_;obtain ⟨h8, h⟩ := h;obtain ⟨y9, h8b, h⟩ := h;refine vp_ (pv_indexAddrBA h8 UndC.h ShpC.h rfl rfl) ?_;refine xstoreA (f := ew) (a := (Arr.rep 4 (0 : UInt64))) (k := 1) (off := 0) (i := ((c3.toNat : Int) : Int).toNat) 0 [] [] c7 h8b sq_ so_ (by decide) ShpC.h rfl rfl rfl rfl sl_ rfl rfl ?_
 refine xreb 0 ((List.map ew ((Arr.set ((Arr.rep 4 (0 : UInt64))) ((c3.toNat : Int) : Int).toNat c7)).l).flatten) rfl sq_ ?_;refine wn_ 4 h fun h=>?_;refine v_ (qv_loadP 0 [] ((List.map ew ((Arr.set ((Arr.rep 4 (0 : UInt64))) ((c3.toNat : Int) : Int).toNat c7)).l).flatten) [] sq_ sl_ sl_ (part_all (seg_lenE (by rfl))) ShpC.h rfl rfl) ?_;refine xstoreQ 1 [] ((List.map ew ((Arr.rep 4 (0 : UInt64))).l).flatten) [] ((List.map ew ((Arr.set ((Arr.rep 4 (0 : UInt64))) ((c3.toNat : Int) : Int).toNat c7)).l).flatten) ShpC.h rfl rfl rfl rfl rfl ?_
 exact rl_ h hg
def palinoderef08_Reader_Escape_j3 (o1 : (List UInt8) × Int × Int × T0t × T5t) (x77 : Int) (r : Int × T2t) : Prop :=
  InR (o1.2.1 + 2) ∧ ∃ c82 : UInt8, (c82.toNat : Int) = IntKind.u8.wrap x77 ∧ ∃ y84 : T4t, palinoderef08_One_R c82 y84 ∧ ∃ y86 : Int × T2t, palinoderef08_Reader_Put_R (o1.1, (o1.2.1 + 2), o1.2.2.1, o1.2.2.2.1, o1.2.2.2.2) (1, 0, 0, 0, 0, 0, y84) y86 ∧ r = (y86.1, y86.2)
def palinoderef08_Reader_Escape_j2 (o1 : (List UInt8) × Int × Int × T0t × T5t) (y4 : Int) (x67 : Bool) (r : Int × T2t) : Prop :=
  ((x67 = true → r = (0, (o1.1, o1.2.1, 10, o1.2.2.2.1, o1.2.2.2.2))) ∧ (¬ (x67 = true) → ((y4 = 110 → palinoderef08_Reader_Escape_j3 o1 10 r) ∧ (¬ (y4 = 110) → palinoderef08_Reader_Escape_j3 o1 y4 r))))
def palinoderef08_Reader_Escape_j1 (y4 : Int) (o1 : (List UInt8) × Int × Int × T0t × T5t) (x29 : Bool) (r : Int × T2t) : Prop :=
  ((x29 = true → InR (y4 - 48) ∧ (0 ≤ ((y4 - 48) : Int) ∧ ((y4 - 48) : Int) < 10) ∧ ∃ y40 : Bool, o1.2.2.2.2.l[((y4 - 48) : Int).toNat]? = some y40 ∧ ((¬ (y40 = true) → r = (0, (o1.1, o1.2.1, 16, o1.2.2.2.1, o1.2.2.2.2))) ∧ (¬ (¬ (y40 = true)) → InR (o1.2.1 + 2) ∧ InR (y4 - 48) ∧ ∃ y45 : Int × T2t, palinoderef08_Reader_Put_R (o1.1, (o1.2.1 + 2), o1.2.2.1, o1.2.2.2.1, o1.2.2.2.2) (6, 0, 0, 0, 0, (y4 - 48), (Arr.rep 4 (0 : UInt64))) y45 ∧ r = (y45.1, y45.2)))) ∧ (¬ (x29 = true) → ((y4 < 0 → palinoderef08_Reader_Escape_j2 o1 y4 true r) ∧ (¬ (y4 < 0) → ∃ y71 : Bool, palinoderef08_Alnum_R y4 y71 ∧ palinoderef08_Reader_Escape_j2 o1 y4 (y71 && (!(decide (y4 = 110)))) r))))
def palinoderef08_Reader_Escape_R (o1 : (List UInt8) × Int × Int × T0t × T5t) (r : Int × T2t) : Prop :=
  ∃ y4 : Int, palinoderef08_Reader_Next_R o1 1 y4 ∧ palinoderef08_Reader_Escape_j1 y4 o1 ((decide (49 ≤ y4)) && (decide (y4 ≤ 57))) r
set_option maxHeartbeats 4000000 in
theorem k67_ ⦃o1 : (List UInt8) × Int × Int × T0t × T5t⦄ ⦃r : Int × T2t⦄ (h : palinoderef08_Reader_Escape_R o1 r) (bx0 : Nat) (ia2 : Option (Nat × Nat)) : Cn Try.prog 44 [pw bx0] [⟨bx0, 57, ([sb o1.1, iv o1.2.1, iv o1.2.2.1, .sl 10 (some ia2) (List.map E_palinode_api_Node o1.2.2.2.1.1), iv o1.2.2.2.1.2] ++ (List.map eB o1.2.2.2.2.l).flatten)⟩] [⟨ia2, 39, 10, o1.2.2.2.1.1.length⟩] fun rr bx tk=>∃ j1, rr=iv r.1 ∧ bx=[⟨bx0, 57, ([sb r.2.1, iv r.2.2.1, iv r.2.2.2.1, .sl 10 (some j1) (List.map E_palinode_api_Node r.2.2.2.2.1.1), iv r.2.2.2.2.1.2] ++ (List.map eB r.2.2.2.2.2.l).flatten)⟩] ∧ tk=[⟨j1, 39, 10, r.2.2.2.2.1.1.length⟩] := by
 refine xenterN Try.func44 rfl rfl (by kernel_rfl) fun g hg=>?_;simp only [Try.ntmps44,slots];refine c0_ k62_ h fun y4 h=>?_;refine wn_ 4 h fun h=>?_;refine xseqM (fun σ=>∃ x29, palinoderef08_Reader_Escape_j1 y4 o1 x29 r ∧ σ=⟨[(0, pw bx0), (3, iv y4), (11, bv x29)], [⟨bx0, 57, ([sb o1.1, iv o1.2.1, iv o1.2.2.1, .sl 10 (some ia2) (List.map E_palinode_api_Node o1.2.2.2.1.1), iv o1.2.2.2.1.2] ++ (List.map eB o1.2.2.2.2.l).flatten)⟩], [⟨ia2, 39, 10, o1.2.2.2.1.1.length⟩]⟩) ?_ ?_
 ·refine ks_ 8 h (fun h=>?_) fun h=>?_
  ·exact m_ h
  exact m_ h
 rintro _ ⟨x29,h,rfl⟩;refine i_ h (fun h=>?_) fun h=>?_
 ·refine wn_ 8 h fun h=>?_;obtain ⟨h39, h⟩ := h;obtain ⟨y40, h39b, h⟩ := h;refine vp_ (pv_indexAddrBA h39 UndC.h ShpC.h rfl rfl) ?_;refine v_ (qv_loadA (f := eB) (a := o1.2.2.2.2) (k := 1) (off := 0) (i := ((y4 - 48) : Int).toNat) 0 [sb o1.1, iv o1.2.1, iv o1.2.2.1, .sl 10 (some ia2) (List.map E_palinode_api_Node o1.2.2.2.1.1), iv o1.2.2.2.1.2] [] h39b sq_ so_ (by decide) rfl ShpC.h rfl rfl) ?_
  refine i_ h (fun h=>?_) fun h=>?_
  ·exact r_ h hg
  refine wn_ 20 h fun h=>?_;refine vp_ (pv_buildC (cs := ([iv 6, iv 0, iv 0, iv 0, iv 0, iv ((y4 - 48))] ++ (List.map ew ((Arr.rep 4 (0 : UInt64))).l).flatten)) StrC.h rfl (by refine fill_step [] [iv 0] ([iv 0, iv 0, iv 0, iv 0, iv 0] ++ (List.map ew ((Arr.rep 4 (0 : UInt64))).l).flatten) sq_ sl_ sl_ sl_ rfl rfl ?_; refine fill_step [iv 6, iv 0, iv 0, iv 0, iv 0] [iv 0] ((List.map ew ((Arr.rep 4 (0 : UInt64))).l).flatten) sq_ sl_ sl_ sl_ rfl rfl ?_; exact congrArg some sq_)) ?_
  refine c1_ k60_ h fun y45 i46 h=>?_;exact r_ h hg
 refine wn_ 3 h fun h=>?_;refine xseqM (fun σ=>∃ x67, palinoderef08_Reader_Escape_j2 o1 y4 x67 r ∧ σ=⟨[(0, pw bx0), (3, iv y4), (45, bv x67)], [⟨bx0, 57, ([sb o1.1, iv o1.2.1, iv o1.2.2.1, .sl 10 (some ia2) (List.map E_palinode_api_Node o1.2.2.2.1.1), iv o1.2.2.2.1.2] ++ (List.map eB o1.2.2.2.2.l).flatten)⟩], [⟨ia2, 39, 10, o1.2.2.2.1.1.length⟩]⟩) ?_ ?_
 ·refine is_ 38 h (fun h=>?_) fun h=>?_
  ·exact m_ h
  refine z0_ k65_ h fun y71 h=>?_;refine ks_ 41 h (fun h=>?_) fun h=>?_
  ·exact m_ h
  exact m_ h
 rintro _ ⟨x67,h,rfl⟩;refine i_ h (fun h=>?_) fun h=>?_
 ·exact r_ h hg
 refine wn_ 2 h fun h=>?_;refine xseqM (fun σ=>∃ x77, palinoderef08_Reader_Escape_j3 o1 x77 r ∧ σ=⟨[(0, pw bx0), (3, iv x77)], [⟨bx0, 57, ([sb o1.1, iv o1.2.1, iv o1.2.2.1, .sl 10 (some ia2) (List.map E_palinode_api_Node o1.2.2.2.1.1), iv o1.2.2.2.1.2] ++ (List.map eB o1.2.2.2.2.l).flatten)⟩], [⟨ia2, 39, 10, o1.2.2.2.1.1.length⟩]⟩) ?_ ?_
 ·refine i_ h (fun h=>?_) fun h=>?_
  ·exact m_ h
  exact m_ h
 rintro _ ⟨x77,h,rfl⟩;refine wn_ 17 h fun h=>?_;obtain ⟨c82, h81, h⟩ := h;refine vp_ (pv_convW h81 UndC.h UndC.h rfl) ?_;refine z0_ k66_ h fun y84 h=>?_;refine vp_ (pv_buildC (cs := ([iv 1, iv 0, iv 0, iv 0, iv 0, iv 0] ++ (List.map ew y84.l).flatten)) StrC.h rfl (by refine fill_step [] [iv 0] ([iv 0, iv 0, iv 0, iv 0, iv 0] ++ (List.map ew ((Arr.rep 4 (0 : UInt64))).l).flatten) sq_ sl_ sl_ sl_ rfl rfl ?_; refine fill_step [iv 1, iv 0, iv 0, iv 0, iv 0, iv 0] ((List.map ew ((Arr.rep 4 (0 : UInt64))).l).flatten) [] sq_ sl_ sl_ sl_ rfl rfl ?_; exact congrArg some sq_)) ?_
 refine c1_ k60_ h fun y86 i87 h=>?_;exact r_ h hg
def palinoderef07_at_R (bv1 : List UInt8) (iv2 : Int) (r : Int) : Prop :=
  ((iv2 < 0 → r = (-1)) ∧ (¬ (iv2 < 0) → (((bv1.length : Int) ≤ iv2 → r = (-1)) ∧ (¬ ((bv1.length : Int) ≤ iv2) → 0 ≤ (iv2 : Int) ∧ ∃ y21 : UInt8, bv1[(iv2 : Int).toNat]? = some y21 ∧ r = (y21.toNat : Int)))))
set_option maxHeartbeats 4000000 in
theorem k68_ ⦃bv1 : List UInt8⦄ ⦃iv2 : Int⦄ ⦃r : Int⦄ (h : palinoderef07_at_R bv1 iv2 r) : Cn Try.prog 78 [sb bv1, iv iv2] [] [] (Ret (iv r)) := by
 refine xenterN Try.func78 rfl rfl (by kernel_rfl) fun g hg=>?_;simp only [Try.ntmps78,slots];refine is_ 7 h (fun h=>?_) fun h=>?_
 ·exact r_ h hg
 refine i_ h (fun h=>?_) fun h=>?_
 ·exact r_ h hg
 refine x_ h fun y21 h=>?_;exact r_ h hg
def palinoderef01_Is_R (x1 : ByteArray) (x2 : UInt8) (r : Bool × Bool) : Prop :=
  (((x1.toList == ((⟨#[117, 112, 112, 101, 114]⟩ : ByteArray)).toList) = true → ∃ y88 : Bool, palinoderef01_In_R (⟨#[65, 90]⟩ : ByteArray) x2 y88 ∧ r = (y88, true)) ∧ (¬ ((x1.toList == ((⟨#[117, 112, 112, 101, 114]⟩ : ByteArray)).toList) = true) → (((x1.toList == ((⟨#[108, 111, 119, 101, 114]⟩ : ByteArray)).toList) = true → ∃ y92 : Bool, palinoderef01_In_R (⟨#[97, 122]⟩ : ByteArray) x2 y92 ∧ r = (y92, true)) ∧ (¬ ((x1.toList == ((⟨#[108, 111, 119, 101, 114]⟩ : ByteArray)).toList) = true) → (((x1.toList == ((⟨#[100, 105, 103, 105, 116]⟩ : ByteArray)).toList) = true → ∃ y96 : Bool, palinoderef01_In_R (⟨#[48, 57]⟩ : ByteArray) x2 y96 ∧ r = (y96, true)) ∧ (¬ ((x1.toList == ((⟨#[100, 105, 103, 105, 116]⟩ : ByteArray)).toList) = true) → (((x1.toList == ((⟨#[97, 108, 112, 104, 97]⟩ : ByteArray)).toList) = true → ∃ y100 : Bool, palinoderef01_In_R (⟨#[65, 90, 97, 122]⟩ : ByteArray) x2 y100 ∧ r = (y100, true)) ∧ (¬ ((x1.toList == ((⟨#[97, 108, 112, 104, 97]⟩ : ByteArray)).toList) = true) → (((x1.toList == ((⟨#[97, 108, 110, 117, 109]⟩ : ByteArray)).toList) = true → ∃ y104 : Bool, palinoderef01_In_R (⟨#[65, 90, 97, 122, 48, 57]⟩ : ByteArray) x2 y104 ∧ r = (y104, true)) ∧ (¬ ((x1.toList == ((⟨#[97, 108, 110, 117, 109]⟩ : ByteArray)).toList) = true) → (((x1.toList == ((⟨#[98, 108, 97, 110, 107]⟩ : ByteArray)).toList) = true → (((x2.toNat : Int) = 32 → r = (true, true)) ∧ (¬ ((x2.toNat : Int) = 32) → r = ((decide ((x2.toNat : Int) = 9)), true)))) ∧ (¬ ((x1.toList == ((⟨#[98, 108, 97, 110, 107]⟩ : ByteArray)).toList) = true) → (((x1.toList == ((⟨#[115, 112, 97, 99, 101]⟩ : ByteArray)).toList) = true → (((x2.toNat : Int) = 32 → r = (true, true)) ∧ (¬ ((x2.toNat : Int) = 32) → ((9 ≤ (x2.toNat : Int) → r = ((decide ((x2.toNat : Int) ≤ 13)), true)) ∧ (¬ (9 ≤ (x2.toNat : Int)) → r = (false, true)))))) ∧ (¬ ((x1.toList == ((⟨#[115, 112, 97, 99, 101]⟩ : ByteArray)).toList) = true) → (((x1.toList == ((⟨#[99, 110, 116, 114, 108]⟩ : ByteArray)).toList) = true → (((x2.toNat : Int) ≤ 31 → r = (true, true)) ∧ (¬ ((x2.toNat : Int) ≤ 31) → r = ((decide ((x2.toNat : Int) = 127)), true)))) ∧ (¬ ((x1.toList == ((⟨#[99, 110, 116, 114, 108]⟩ : ByteArray)).toList) = true) → (((x1.toList == ((⟨#[103, 114, 97, 112, 104]⟩ : ByteArray)).toList) = true → ((33 ≤ (x2.toNat : Int) → r = ((decide ((x2.toNat : Int) ≤ 126)), true)) ∧ (¬ (33 ≤ (x2.toNat : Int)) → r = (false, true)))) ∧ (¬ ((x1.toList == ((⟨#[103, 114, 97, 112, 104]⟩ : ByteArray)).toList) = true) → (((x1.toList == ((⟨#[112, 114, 105, 110, 116]⟩ : ByteArray)).toList) = true → ((32 ≤ (x2.toNat : Int) → r = ((decide ((x2.toNat : Int) ≤ 126)), true)) ∧ (¬ (32 ≤ (x2.toNat : Int)) → r = (false, true)))) ∧ (¬ ((x1.toList == ((⟨#[112, 114, 105, 110, 116]⟩ : ByteArray)).toList) = true) → (((x1.toList == ((⟨#[112, 117, 110, 99, 116]⟩ : ByteArray)).toList) = true → ((33 ≤ (x2.toNat : Int) → (((x2.toNat : Int) ≤ 126 → ∃ y162 : Bool, palinoderef01_In_R (⟨#[65, 90, 97, 122, 48, 57]⟩ : ByteArray) x2 y162 ∧ r = ((!y162), true)) ∧ (¬ ((x2.toNat : Int) ≤ 126) → r = (false, true)))) ∧ (¬ (33 ≤ (x2.toNat : Int)) → r = (false, true)))) ∧ (¬ ((x1.toList == ((⟨#[112, 117, 110, 99, 116]⟩ : ByteArray)).toList) = true) → (((x1.toList == ((⟨#[120, 100, 105, 103, 105, 116]⟩ : ByteArray)).toList) = true → ∃ y166 : Bool, palinoderef01_In_R (⟨#[48, 57, 65, 70, 97, 102]⟩ : ByteArray) x2 y166 ∧ r = (y166, true)) ∧ (¬ ((x1.toList == ((⟨#[120, 100, 105, 103, 105, 116]⟩ : ByteArray)).toList) = true) → r = (false, false)))))))))))))))))))))))))
set_option maxHeartbeats 4000000 in
theorem k69_ ⦃x1 : ByteArray⦄ ⦃x2 : UInt8⦄ ⦃r : Bool × Bool⦄ (h : palinoderef01_Is_R x1 x2 r) : Cn Try.prog 90 [.v (.string x1), uv x2] [] [] fun rr bx tk=>rr=.tup [bv r.1, bv r.2] ∧ bx=[] ∧ tk=[] := by
 refine xenterN Try.func90 rfl rfl (by kernel_rfl) fun g hg=>?_;simp only [Try.ntmps90,slots];refine i_ h (fun h=>?_) fun h=>?_
 ·refine z0_ k64_ h fun y88 h=>?_;exact r_ h hg
 refine i_ h (fun h=>?_) fun h=>?_
 ·refine z0_ k64_ h fun y92 h=>?_;exact r_ h hg
 refine i_ h (fun h=>?_) fun h=>?_
 ·refine z0_ k64_ h fun y96 h=>?_;exact r_ h hg
 refine i_ h (fun h=>?_) fun h=>?_
 ·refine z0_ k64_ h fun y100 h=>?_;exact r_ h hg
 refine i_ h (fun h=>?_) fun h=>?_
 ·refine z0_ k64_ h fun y104 h=>?_;exact r_ h hg
 refine i_ h (fun h=>?_) fun h=>?_
 ·refine is_ 31 h (fun h=>?_) fun h=>?_
  ·exact r_ h hg
  exact r_ h hg
 refine i_ h (fun h=>?_) fun h=>?_
 ·refine is_ 39 h (fun h=>?_) fun h=>?_
  ·exact r_ h hg
  refine is_ 42 h (fun h=>?_) fun h=>?_
  ·exact r_ h hg
  exact r_ h hg
 refine i_ h (fun h=>?_) fun h=>?_
 ·refine is_ 51 h (fun h=>?_) fun h=>?_
  ·exact r_ h hg
  exact r_ h hg
 refine i_ h (fun h=>?_) fun h=>?_
 ·refine is_ 59 h (fun h=>?_) fun h=>?_
  ·exact r_ h hg
  exact r_ h hg
 refine i_ h (fun h=>?_) fun h=>?_
 ·refine is_ 67 h (fun h=>?_) fun h=>?_
  ·exact r_ h hg
  exact r_ h hg
 refine i_ h (fun h=>?_) fun h=>?_
 ·refine is_ 75 h (fun h=>?_) fun h=>?_
  ·refine is_ 79 h (fun h=>?_) fun h=>?_
   ·refine z0_ k64_ h fun y162 h=>?_;exact r_ h hg
   exact r_ h hg
  exact r_ h hg
 refine i_ h (fun h=>?_) fun h=>?_
 ·refine z0_ k64_ h fun y166 h=>?_;exact r_ h hg
 exact r_ h hg
end Go.Proofs.Ytfhakeapepafbaa
