/- What functions' texts ask for, and the walks that show it (printed by a program). -/
import Derived.Test.YtnbceeholnkfeaaGreatDoorGKp7
namespace Go.Proofs.YtnbceeholnkfeaaGreatDoor
def gg (x754: Int) (ag3: rB→Prop) (l972: List Int) (l973: List Int) (_r: Bool) : Prop:=
 InR (x754 + 1)∧ag3 ((x754 + 1),l972,l973)
def eE (y974: Int×Int×Int×Int×Int×Int×T7t) (l756: List Int) (x754: Int) (ag3: rB→Prop) (l1019: List Int) (r: Bool) : Prop:=
 ((y974.1 = 5→0≤(y974.2.2.2.2.2.1 : Int)∧∃ y1036 : Int,l756[(y974.2.2.2.2.2.1 : Int).toNat]? = some y1036∧InR (y1036 + 1)∧0≤(y974.2.2.2.2.2.1 : Int)∧∃ y1039 : Int,l756[(y974.2.2.2.2.2.1 : Int).toNat]? = some y1039∧gg x754 ag3 l1019 (l756.set (y974.2.2.2.2.2.1 : Int).toNat (y1036 + 1)) r)∧(¬ (y974.1 = 5)→gg x754 ag3 l1019 l756 r))
def eF (y974: Int×Int×Int×Int×Int×Int×T7t) (l990: List Int) (l756: List Int) (x754: Int) (ag3: rB→Prop) (x1023: Bool) (r: Bool) : Prop:=
 ((x1023 = true→0≤(y974.2.2.1 : Int)∧∃ y1028 : Int,l990[(y974.2.2.1 : Int).toNat]? = some y1028∧InR (y1028 + 1)∧0≤(y974.2.2.1 : Int)∧∃ y1031 : Int,l990[(y974.2.2.1 : Int).toNat]? = some y1031∧eE y974 l756 x754 ag3 (l990.set (y974.2.2.1 : Int).toNat (y1028 + 1)) r)∧(¬ (x1023 = true)→eE y974 l756 x754 ag3 l990 r))
def cC (y974: Int×Int×Int×Int×Int×Int×T7t) (l756: List Int) (x754: Int) (ag3: rB→Prop) (l990: List Int) (r: Bool) : Prop:=
 eF y974 l990 l756 x754 ag3 ((decide (y974.1 = 2)) || (decide (y974.1 = 3))) r
def gh (y974: Int×Int×Int×Int×Int×Int×T7t) (l755: List Int) (l756: List Int) (x754: Int) (ag3: rB→Prop) (x994: Bool) (r: Bool) : Prop:=
 ((x994 = true→0≤(y974.2.1 : Int)∧∃ y999 : Int,l755[(y974.2.1 : Int).toNat]? = some y999∧InR (y999 + 1)∧0≤(y974.2.1 : Int)∧∃ y1002 : Int,l755[(y974.2.1 : Int).toNat]? = some y1002∧cC y974 l756 x754 ag3 (l755.set (y974.2.1 : Int).toNat (y999 + 1)) r)∧(¬ (x994 = true)→cC y974 l756 x754 ag3 l755 r))
def fM (x1: (List T4t)×Int) (l756: List Int) (ag10: (Int)→Prop) (x1188: Int) (r: Bool) : Prop:=
 ((x1188≤x1.2→0≤(x1188 : Int)∧∃ y1210 : Int,l756[(x1188 : Int).toNat]? = some y1210∧((¬ (y1210 = 1)→r = false)∧(¬ (¬ (y1210 = 1))→InR (x1188 + 1)∧ag10 (x1188 + 1))))∧(¬ (x1188≤x1.2)→r = true))
def gi (x1: (List T4t)×Int) (l755: List Int) (l756: List Int) (ag9: (Int)→Prop) (x1104: Int) (r: Bool) : Prop:=
 InR ((x1.1.length : Int) - 1)∧((x1104 < ((x1.1.length : Int) - 1)→0≤(x1104 : Int)∧∃ y1130 : Int,l755[(x1104 : Int).toNat]? = some y1130∧((¬ (y1130 = 1)→r = false)∧(¬ (¬ (y1130 = 1))→InR (x1104 + 1)∧ag9 (x1104 + 1))))∧(¬ (x1104 < ((x1.1.length : Int) - 1))→aR (fun ag10 s=>fM x1 l756 ag10 s r) 1))
def jy (x1: (List T4t)×Int) (ag3: rB→Prop) (x754: Int) (l755: List Int) (l756: List Int) (r: Bool) : Prop:=
 ((x754 < (x1.1.length : Int)→0≤(x754 : Int)∧∃ y974 : Int×Int×Int×Int×Int×Int×T7t,x1.1[(x754 : Int).toNat]? = some y974∧gh y974 l755 l756 x754 ag3 ((decide (2≤y974.1)) && (decide (y974.1≤5))) r)∧(¬ (x754 < (x1.1.length : Int))→aR (fun ag9 s=>gi x1 l755 l756 ag9 s r) 0))
def jz (x1: (List T4t)×Int) (ag2: (Int)→Prop) (x128: Int) (r: Bool) : Prop:=
 ((x128 < (x1.1.length : Int)→0≤(x128 : Int)∧∃ y169 : Int×Int×Int×Int×Int×Int×T7t,x1.1[(x128 : Int).toNat]? = some y169∧∃ y172 : Bool,dx y169 x128 x1.2 y172∧((¬ (y172 = true)→r = false)∧(¬ (¬ (y172 = true))→InR (x128 + 1)∧ag2 (x128 + 1))))∧(¬ (x128 < (x1.1.length : Int))→mz ((x1.1.length : Int)) ((x1.1.length : Int)) 8∧mz 10 10 8∧aR (fun ag3 s=>jy x1 ag3 s.1 s.2.1 s.2.2 r) (0,(List.replicate ((x1.1.length : Int) : Int).toNat 0),(List.replicate (10 : Int).toNat 0))))
def gj (x1: (List T4t)×Int) (x26: Bool) (r: Bool) : Prop:=
 ((x26 = true→r = false)∧(¬ (x26 = true)→aR (fun ag2 s=>jz x1 ag2 s r) 0))
def eS (x1: (List T4t)×Int) (r: Bool) : Prop:=
 gj x1 ((decide ((x1.1.length : Int) < 1)) || ((decide (1000 < (x1.1.length : Int))) || ((decide (x1.2 < 0)) || (decide (9 < x1.2))))) r
set_option maxHeartbeats 4000000 in
theorem CC ⦃x1: (List T4t) × Int⦄ ⦃r: Bool⦄ (h: eS x1 r) : Cn Tryz.prog 13 [.agg [.sl 10 none (List.map aa x1.1), iv x1.2]] [] [] (Ret (bv r)) := by
 refine aj Tryz.func13 rfl rfl (by kernel_rfl) fun g hg=>?_;simp only [Tryz.ntmps13,au];unfold eS at h;refine wn_ 2 h fun h=>?_;refine cr rfl rfl rfl rfl fun b1 => ?_;refine wn_ 12 h fun h=>?_;refine aw (fun σ=>∃ x26, gj x1 x26 r ∧ σ=⟨[(1, pw b1), (3, iv ((x1.1.length : Int))), (29, bv x26)], [⟨b1, 26, [.sl 10 none (List.map aa x1.1), iv x1.2]⟩], []⟩) ?_ ?_
 ·refine ks_ 16 h (fun h=>?_) fun h=>?_
  ·exact m_ h
  refine ks_ 20 h (fun h=>?_) fun h=>?_
  ·exact m_ h
  refine ks_ 25 h (fun h=>?_) fun h=>?_
  ·exact m_ h
  exact m_ h
 rintro _ ⟨x26,h,rfl⟩;refine i_ h (fun h=>?_) fun h=>?_
 ·exact r_ h hg
 refine wn_ 9 h fun h=>?_;obtain ⟨Inv,⟨m0,hI⟩,hS⟩ := lq_ h;refine lp_ hI (fun σ m=>∃ x128, Inv x128 m ∧ σ=⟨[(1, pw b1), (3, iv ((x1.1.length : Int))), (4, iv x128)], [⟨b1, 26, [.sl 10 none (List.map aa x1.1), iv x1.2]⟩], []⟩) ?_;rintro _ m ⟨x128,hI,rfl⟩;obtain ⟨ag2,hag2,h⟩ := bS hS hI;refine i_ h (fun h=>?_) fun h=>?_
 ·refine wn_ 5 h fun h=>?_;refine ay (m := 10) (by kernel_rfl) rfl ?_;obtain ⟨h170a, h⟩ := h;obtain ⟨y169, h170b, h⟩ := h;obtain ⟨y172, h171, h⟩ := h;refine o_ [0,2,5,6,1] ?_;refine pl_ 3 rfl (aI h170a h170b ah.h ae.h rfl rfl) ?_;refine cU 4 [7] rfl (ge (aa y169) [] sq_ sl_ (ao sl_) ae.h rfl) rfl rfl (by kernel_rfl) (by kernel_rfl) (by kernel_rfl) (fun _ _ _ _ h => h) ?_
  refine o_ [7] ?_;refine aE (i := 8) (by kernel_rfl) rfl ?_;refine cw zp h171 ?_;refine o_ [9] ?_;refine az (by kernel_rfl) ?_;refine i_ h (fun h=>?_) fun h=>?_
  ·exact r_ h hg
  exact g_ h hag2
 refine wn_ 8 h fun h=>?_;obtain ⟨h175, h⟩ := h;refine rG (f := ei) 0 h175 ah.h ar.h (.refl _) rfl rfl rfl rfl fun i176 => ?_;refine wn_ 5 h fun h=>?_;obtain ⟨h177, h⟩ := h;refine rG (f := ei) 0 h177 ah.h ar.h (.refl _) rfl rfl rfl rfl fun i178 => ?_;refine wn_ 10 h fun h=>?_;obtain ⟨Inv,⟨m0,hI⟩,hS⟩ := lq_ h;refine lp_ hI (fun σ m=>∃ x754 l755 l756, Inv (x754, l755, l756) m ∧ σ=⟨[(1, pw b1), (3, iv ((x1.1.length : Int))), (5, .rb i176 l755.length), (6, .rb i178 l756.length), (7, iv x754)], [rbx i178 3 1 (List.map ei l756), rbx i176 3 1 (List.map ei l755), ⟨b1, 26, [.sl 10 none (List.map aa x1.1), iv x1.2]⟩], []⟩) ?_
 rintro _ m ⟨x754,l755,l756,hI,rfl⟩;obtain ⟨ag3,hag3,h⟩ := bS hS hI;refine i_ h (fun h=>?_) fun h=>?_
 ·refine wn_ 2 h fun h=>?_;refine aw (fun σ=>∃ l972 l973, gg x754 ag3 l972 l973 r ∧ σ=⟨[(1, pw b1), (3, iv ((x1.1.length : Int))), (5, .rb i176 l972.length), (6, .rb i178 l973.length), (7, iv x754)], [rbx i178 3 1 (List.map ei l973), rbx i176 3 1 (List.map ei l972), ⟨b1, 26, [.sl 10 none (List.map aa x1.1), iv x1.2]⟩], []⟩) ?_ ?_
  ·refine x_ h fun y974 h=>?_;refine v_ (ge (aa y974) [] sq_ sl_ (ao sl_) ae.h rfl) ?_;refine aL ar.h rfl rfl fun b8 => ?_;refine bg 0 ([iv 0, iv 0, iv 0, iv 0, iv 0, iv 0] ++ (List.map ew ((Arr.rep 4 (0 : UInt64))).l).flatten) rfl rfl ?_
   refine aB 0 [] ([iv 0, iv 0, iv 0, iv 0, iv 0, iv 0] ++ (List.map ew ((Arr.rep 4 (0 : UInt64))).l).flatten) [] (aa y974) ae.h rfl rfl rfl rfl rfl ?_
   refine wn_ 2 h fun h=>?_;refine aw (fun σ=>∃ l990, cC y974 l756 x754 ag3 l990 r ∧ σ=⟨[(1, pw b1), (3, iv ((x1.1.length : Int))), (5, .rb i176 l990.length), (6, .rb i178 l756.length), (7, iv x754), (8, pw b8)], [⟨b8, 43, (aa y974)⟩, rbx i178 3 1 (List.map ei l756), rbx i176 3 1 (List.map ei l990), ⟨b1, 26, [.sl 10 none (List.map aa x1.1), iv x1.2]⟩], []⟩) ?_ ?_
   ·refine aw (fun σ=>∃ x994, gh y974 l755 l756 x754 ag3 x994 r ∧ σ=⟨[(1, pw b1), (3, iv ((x1.1.length : Int))), (5, .rb i176 l755.length), (6, .rb i178 l756.length), (7, iv x754), (8, pw b8), (65, bv x994)], [⟨b8, 43, (aa y974)⟩, rbx i178 3 1 (List.map ei l756), rbx i176 3 1 (List.map ei l755), ⟨b1, 26, [.sl 10 none (List.map aa x1.1), iv x1.2]⟩], []⟩) ?_ ?_
    ·refine ks_ 61 h (fun h=>?_) fun h=>?_
     ·exact m_ h
     exact m_ h
    rintro _ ⟨x994,h,rfl⟩;refine i_ h (fun h=>?_) fun h=>?_
    ·refine ay (m := 11) (by kernel_rfl) rfl ?_;obtain ⟨h1000a, h⟩ := h;obtain ⟨y999, h1000b, h⟩ := h;obtain ⟨h1001, h⟩ := h;obtain ⟨h1003a, h⟩ := h;obtain ⟨y1002, h1003b, h⟩ := h;refine o_ [0,1,3,4,5] ?_;refine pl_ 6 rfl (ce rfl h1000a h1000b ah.h ae.h rfl rfl) ?_;refine cU 7 [2] rfl (jh (f := ei) (k := 1) (off := 0) (i := (y974.2.1 : Int).toNat) 2 h1000b rfl (by decide) rfl ae.h rfl rfl) rfl rfl (by kernel_rfl) (by kernel_rfl) (by kernel_rfl) (fun _ _ _ _ h => h) ?_
     refine o_ [8,2] ?_;refine pl_ 9 rfl (ce rfl h1003a h1003b ah.h ae.h rfl rfl) ?_;refine aE (i := 10) (by kernel_rfl) rfl ?_;refine qi (f := ei) (k := 1) (off := 0) (i := (y974.2.1 : Int).toNat) 2 (y999 + 1) h1003b rfl (by decide) ae.h rfl rfl rfl rfl sl_ (.refl _) rfl ?_;refine az (by kernel_rfl) ?_;exact m_ h
    exact m_ h
   rintro _ ⟨l990,h,rfl⟩;unfold cC at h;refine aw (fun σ=>∃ l1019, eE y974 l756 x754 ag3 l1019 r ∧ σ=⟨[(1, pw b1), (3, iv ((x1.1.length : Int))), (5, .rb i176 l1019.length), (6, .rb i178 l756.length), (7, iv x754), (8, pw b8)], [⟨b8, 43, (aa y974)⟩, rbx i178 3 1 (List.map ei l756), rbx i176 3 1 (List.map ei l1019), ⟨b1, 26, [.sl 10 none (List.map aa x1.1), iv x1.2]⟩], []⟩) ?_ ?_
   ·refine aw (fun σ=>∃ x1023, eF y974 l990 l756 x754 ag3 x1023 r ∧ σ=⟨[(1, pw b1), (3, iv ((x1.1.length : Int))), (5, .rb i176 l990.length), (6, .rb i178 l756.length), (7, iv x754), (8, pw b8), (83, bv x1023)], [⟨b8, 43, (aa y974)⟩, rbx i178 3 1 (List.map ei l756), rbx i176 3 1 (List.map ei l990), ⟨b1, 26, [.sl 10 none (List.map aa x1.1), iv x1.2]⟩], []⟩) ?_ ?_
    ·refine ks_ 79 h (fun h=>?_) fun h=>?_
     ·exact m_ h
     exact m_ h
    rintro _ ⟨x1023,h,rfl⟩;refine i_ h (fun h=>?_) fun h=>?_
    ·refine ay (m := 11) (by kernel_rfl) rfl ?_;obtain ⟨h1029a, h⟩ := h;obtain ⟨y1028, h1029b, h⟩ := h;obtain ⟨h1030, h⟩ := h;obtain ⟨h1032a, h⟩ := h;obtain ⟨y1031, h1032b, h⟩ := h;refine o_ [0,1,3,4,5] ?_;refine pl_ 6 rfl (ce rfl h1029a h1029b ah.h ae.h rfl rfl) ?_;refine cU 7 [2] rfl (jh (f := ei) (k := 1) (off := 0) (i := (y974.2.2.1 : Int).toNat) 2 h1029b rfl (by decide) rfl ae.h rfl rfl) rfl rfl (by kernel_rfl) (by kernel_rfl) (by kernel_rfl) (fun _ _ _ _ h => h) ?_
     refine o_ [8,2] ?_;refine pl_ 9 rfl (ce rfl h1032a h1032b ah.h ae.h rfl rfl) ?_;refine aE (i := 10) (by kernel_rfl) rfl ?_;refine qi (f := ei) (k := 1) (off := 0) (i := (y974.2.2.1 : Int).toNat) 2 (y1028 + 1) h1032b rfl (by decide) ae.h rfl rfl rfl rfl sl_ (.refl _) rfl ?_;refine az (by kernel_rfl) ?_;exact m_ h
    exact m_ h
   rintro _ ⟨l1019,h,rfl⟩;refine i_ h (fun h=>?_) fun h=>?_
   ·refine ay (m := 11) (by kernel_rfl) rfl ?_;obtain ⟨h1037a, h⟩ := h;obtain ⟨y1036, h1037b, h⟩ := h;obtain ⟨h1038, h⟩ := h;obtain ⟨h1040a, h⟩ := h;obtain ⟨y1039, h1040b, h⟩ := h;refine o_ [0,1,3,4,5] ?_;refine pl_ 6 rfl (ce rfl h1037a h1037b ah.h ae.h rfl rfl) ?_;refine cU 7 [2] rfl (jh (f := ei) (k := 1) (off := 0) (i := (y974.2.2.2.2.2.1 : Int).toNat) 1 h1037b rfl (by decide) rfl ae.h rfl rfl) rfl rfl (by kernel_rfl) (by kernel_rfl) (by kernel_rfl) (fun _ _ _ _ h => h) ?_
    refine o_ [8,2] ?_;refine pl_ 9 rfl (ce rfl h1040a h1040b ah.h ae.h rfl rfl) ?_;refine aE (i := 10) (by kernel_rfl) rfl ?_;refine qi (f := ei) (k := 1) (off := 0) (i := (y974.2.2.2.2.2.1 : Int).toNat) 1 (y1036 + 1) h1040b rfl (by decide) ae.h rfl rfl rfl rfl sl_ (.refl _) rfl ?_;refine az (by kernel_rfl) ?_;exact m_ h
   exact m_ h
  rintro _ ⟨l972,l973,h,rfl⟩;refine wn_ 5 h fun h=>?_;obtain ⟨m', hm, hI⟩ := hag3 _ h;exact gI ⟨(x754 + 1), l972, l973, hI, rfl⟩ hm ⟨(.cons rfl (.refl _) (.cons rfl (.refl _) (.cons rfl (.eq (by first | rfl | simp)) (.cons rfl (.eq (by first | rfl | simp)) (.cons rfl (.refl _) (.nil _)))))), by exact sm_⟩
 refine wn_ 12 h fun h=>?_;obtain ⟨Inv,⟨m0,hI⟩,hS⟩ := lq_ h;refine lp_ hI (fun σ m=>∃ x1104, Inv x1104 m ∧ σ=⟨[(1, pw b1), (3, iv ((x1.1.length : Int))), (5, .rb i176 l755.length), (6, .rb i178 l756.length), (9, iv x1104)], [rbx i178 3 1 (List.map ei l756), rbx i176 3 1 (List.map ei l755), ⟨b1, 26, [.sl 10 none (List.map aa x1.1), iv x1.2]⟩], []⟩) ?_
 rintro _ m ⟨x1104,hI,rfl⟩;obtain ⟨ag9,hag9,h⟩ := bS hS hI;refine i_ h (fun h=>?_) fun h=>?_
 ·refine wn_ 8 h fun h=>?_;obtain ⟨h1131a, h⟩ := h;obtain ⟨y1130, h1131b, h⟩ := h;refine vp_ (ce rfl h1131a h1131b ah.h ae.h rfl rfl) ?_;refine v_ (jh (f := ei) (k := 1) (off := 0) (i := (x1104 : Int).toNat) 1 h1131b rfl (by decide) rfl ae.h rfl rfl) ?_;refine i_ h (fun h=>?_) fun h=>?_
  ·refine wn_ 11 h fun h=>?_;replace h := h.symm;subst h;exact mL (bx' := []) (tk' := []) hg rfl rfl (.refl _) sm_ ⟨rfl, rfl, rfl⟩
  refine wn_ 8 h fun h=>?_;obtain ⟨m', hm, hI⟩ := hag9 _ h;exact gI ⟨(x1104 + 1), hI, rfl⟩ hm ⟨(.cons rfl (.refl _) (.cons rfl (.refl _) (.cons rfl (.eq (by first | rfl | simp)) (.cons rfl (.eq (by first | rfl | simp)) (.cons rfl (.refl _) (.nil _)))))), by exact sm_⟩
 refine wn_ 12 h fun h=>?_;obtain ⟨Inv,⟨m0,hI⟩,hS⟩ := lq_ h;refine lp_ hI (fun σ m=>∃ x1188, Inv x1188 m ∧ σ=⟨[(1, pw b1), (6, .rb i178 l756.length), (10, iv x1188)], [rbx i178 3 1 (List.map ei l756), ⟨b1, 26, [.sl 10 none (List.map aa x1.1), iv x1.2]⟩], []⟩) ?_;rintro _ m ⟨x1188,hI,rfl⟩;obtain ⟨ag10,hag10,h⟩ := bS hS hI;refine i_ h (fun h=>?_) fun h=>?_
 ·refine wn_ 8 h fun h=>?_;obtain ⟨h1211a, h⟩ := h;obtain ⟨y1210, h1211b, h⟩ := h;refine vp_ (ce rfl h1211a h1211b ah.h ae.h rfl rfl) ?_;refine v_ (jh (f := ei) (k := 1) (off := 0) (i := (x1188 : Int).toNat) 0 h1211b rfl (by decide) rfl ae.h rfl rfl) ?_;refine i_ h (fun h=>?_) fun h=>?_
  ·refine wn_ 11 h fun h=>?_;replace h := h.symm;subst h;exact mL (bx' := []) (tk' := []) hg rfl rfl (.refl _) sm_ ⟨rfl, rfl, rfl⟩
  refine wn_ 8 h fun h=>?_;obtain ⟨m', hm, hI⟩ := hag10 _ h;exact gI ⟨(x1188 + 1), hI, rfl⟩ hm ⟨(.cons rfl (.refl _) (.cons rfl (.eq (by first | rfl | simp)) (.cons rfl (.refl _) (.nil _)))), by exact sm_⟩
 refine wn_ 11 h fun h=>?_;replace h := h.symm;subst h;exact mL (bx' := []) (tk' := []) hg rfl rfl (.refl _) sm_ ⟨rfl, rfl, rfl⟩
end Go.Proofs.YtnbceeholnkfeaaGreatDoor
