/- Taken over from other chapters' plain texts. -/
import Derived.Test.YtnbceeholnkfeaaGreatDoorPl
import Derived.Test.YtnbceeholnkfeaaGreatDoorGK
namespace Go.Proofs.YtnbceeholnkfeaaGreatDoor
abbrev aG:=Arr 4 UInt64
def aV (s : aG) (c : Nat) : Bool:=(s.l.getD (c / 64) 0).toNat.testBit (c % 64)
theorem tb (x k : Nat) : x.testBit k = decide (x / 2 ^ k % 2 = 1):=Nat.testBit_eq_decide_div_mod_eq
theorem Bc {s : aG} {c : Nat} {y : UInt64} (hy : s.l[c / 64]? = some y) : aV s c = decide (y.toNat / 2 ^ (c % 64) % 2 = 1):=by
 unfold aV
 rw [List.getD_eq_getElem?_getD,hy,tb];rfl
def ic (s : aG) : aG:=⟨s.l.map (~~~ ·),by rw [List.length_map];exact s.len⟩
def orS (s u : aG) : aG:=⟨List.zipWith (· ||| ·) s.l u.l,by rw [List.length_zipWith,s.len,u.len];rfl⟩
theorem zT (y : UInt64) : (18446744073709551615 : UInt64) ^^^ y = ~~~ y:=by
 apply UInt64.toBitVec_inj.1
 rw [UInt64.toBitVec_xor,UInt64.toBitVec_not,show (18446744073709551615 : UInt64).toBitVec = BitVec.allOnes 64 from rfl,BitVec.allOnes_xor]
theorem qy (s : aG) : iJ s (ic s):=by
 refine bP (fun st m=>∃ k,k≤4∧m = 4 - k∧st.1 = (k : Int)∧st.2.l = (s.l.take k).map (~~~ ·)++s.l.drop k) 4 ⟨0,by omega,rfl,rfl,by simp⟩ ?_
 rintro ⟨x,f⟩ m ⟨k,hk,rfl,h1,h2⟩
 simp only at h1 h2
 subst h1
 show oI _ (k : Int) f _
 refine ab (fun h3=>?_) fun h3=>?_
 ·have hk4 : k < s.l.length:=by rw [s.len];omega
  have hf : f.l[k]? = some s.l[k]:=by rw [h2,List.getElem?_append_right (by simp;omega),List.length_map,List.length_take,Nat.min_eq_left (by omega),Nat.sub_self,List.getElem?_drop,Nat.add_zero,List.getElem?_eq_getElem hk4]
  refine atA (by omega) (by omega) fun y hy=>?_
  rw [Int.toNat_natCast,hf] at hy
  injection hy with hy
  refine CO (a:=18446744073709551615) (b:=y) ?_
  refine atA (by omega) (by omega) fun y' hy'=>aq (by omega) ⟨4 - (k + 1),by omega,k + 1,by omega,rfl,by simp,?_⟩
  show f.l.set ((k : Int).toNat) _ = _
  have hml : (List.map (fun x : UInt64=>~~~ x) (s.l.take k)).length = k:=by rw [List.length_map,List.length_take];omega
  rw [Int.toNat_natCast,h2,zT,← hy,List.set_append_right _ _ (by omega),hml,Nat.sub_self,List.drop_eq_getElem_cons hk4,List.set_cons_zero,List.take_add_one,List.getElem?_eq_getElem hk4,List.map_append,List.append_assoc]
  rfl
 ·obtain rfl : k = 4:=by omega
  refine Arr.ext ?_
  show List.map _ s.l = f.l
  rw [h2,List.take_of_length_le (by rw [s.len];omega),List.drop_eq_nil_of_le (by rw [s.len];omega),List.append_nil]
def lx (s : aG) (c : Nat) : aG:=Arr.set s (c / 64) (s.l.getD (c / 64) 0 ||| UInt64.ofNat (2 ^ (c % 64)))
theorem rl (s : aG) (c : UInt8) : gL s c (lx s c.toNat):=by
 have hc:=c.toNat_lt
 have h1 : (c.toNat : Int).tdiv 64 = ((c.toNat / 64 : Nat) : Int):=td _ 64
 have h2 : (c.toNat : Int).tmod 64 = ((c.toNat % 64 : Nat) : Int):=tm _ 64
 unfold gL
 rw [h1,h2]
 refine ⟨by decide,gZ (by omega) fun c4 h4=>atA (by omega) (by omega) fun y hy=>⟨by decide,vN (by omega) fun c8 h8=>⟨by omega,?_⟩⟩⟩
 have hmin : min ((c8.toNat : Int) : Int).toNat IntKind.u64.bits = c.toNat % 64:=by show min _ 64 = _;omega
 rw [show ((c4.toNat : Int) : Int).toNat = c.toNat / 64 by omega] at hy ⊢
 have hp : 2 ^ (c.toNat % 64)≤2 ^ 63:=Nat.pow_le_pow_right (by decide) (by omega)
 have hz : (1 : Int) * 2 ^ (c.toNat % 64) = ((2 ^ (c.toNat % 64) : Nat) : Int):=by simp
 rw [hmin,hz]
 have hg : s.l.getD (c.toNat / 64) 0 = y:=by rw [List.getD_eq_getElem?_getD,hy];rfl
 unfold lx
 rw [hg]
 generalize 2 ^ (c.toNat % 64) = q at hp
 refine qU (by omega) fun c10 h10=>BT ⟨⟨by omega,by omega⟩,y,hy,?_⟩
 rw [show UInt64.ofNat q = c10 from UInt64.toNat_inj.1 (by rw [UInt64.toNat_ofNat_of_lt' (by simp [UInt64.size];omega)];omega)]
def ofS (l : List UInt8) : aG:=l.foldl (fun s c=>lx s c.toNat) (Arr.rep 4 0)
theorem xA {l : List UInt8} {k : Nat} {c : UInt8} (h : l[k]? = some c) : ofS (l.take (k + 1)) = lx (ofS (l.take k)) c.toNat:=by
 unfold ofS
 rw [List.take_add_one,h,List.foldl_append];rfl
theorem nF (l : List UInt8) (hl : l.length≤1000000) : fY l (ofS l):=by
 refine bP (fun st m=>∃ k,k≤l.length∧m = l.length - k∧st.1 = (k : Int)∧st.2 = ofS (l.take k)) _ ⟨0,by omega,rfl,rfl,rfl⟩ ?_
 rintro ⟨x,f⟩ m ⟨k,hk,rfl,h1,h2⟩
 simp only at h1 h2
 subst h1;subst h2
 show pJ l _ (k : Int) _ _
 refine ab (fun h3=>?_) fun h3=>?_
 ·refine at_ (by omega) (by omega) fun y hy=>⟨_,rl _ _,aq (by omega) ⟨l.length - (k + 1),by omega,k + 1,by omega,rfl,by simp,?_⟩⟩
  rw [Int.toNat_natCast] at hy
  exact (xA hy).symm
 ·rw [List.take_of_length_le (by omega)]
theorem wr (u : aG) (x : Int) (ag1 : Int×aG→Prop) (f : aG) (r : aG) (hx : 0≤x∧x≤1000) (h : ag1 (x + 1,orS f u)) : aR (fun ag2 s=>ld u x ag1 ag2 s.1 s.2 r) (0,f):=by
 refine bP (fun st m=>∃ k,k≤4∧m = 4 - k∧st.1 = (k : Int)∧st.2.l = List.zipWith (· ||| ·) (f.l.take k) (u.l.take k)++f.l.drop k) 4 ⟨0,by omega,rfl,rfl,by simp⟩ ?_
 rintro ⟨y,g⟩ m ⟨k,hk,rfl,h1,h2⟩
 simp only at h1 h2
 subst h1
 show ld u x ag1 _ (k : Int) g _
 refine ab (fun h3=>?_) fun h3=>?_
 ·have hf4 : k < f.l.length:=by rw [f.len];omega
  have hu4 : k < u.l.length:=by rw [u.len];omega
  have hml : (List.zipWith (· ||| ·) (f.l.take k) (u.l.take k)).length = k:=by rw [List.length_zipWith,List.length_take,List.length_take];omega
  have hg : g.l[k]? = some f.l[k]:=by rw [h2,List.getElem?_append_right (by omega),hml,Nat.sub_self,List.getElem?_drop,Nat.add_zero,List.getElem?_eq_getElem hf4]
  refine atA (by omega) (by omega) fun a ha=>atA (by omega) (by omega) fun b hb=>BT (atA (by omega) (by omega) fun c hc=>aq (by omega) ⟨4 - (k + 1),by omega,k + 1,by omega,rfl,by simp,?_⟩)
  rw [Int.toNat_natCast,hg] at ha
  rw [Int.toNat_natCast,List.getElem?_eq_getElem hu4] at hb
  injection ha with ha
  injection hb with hb
  show g.l.set ((k : Int).toNat) _ = _
  rw [Int.toNat_natCast,h2,← ha,← hb,List.set_append_right _ _ (by omega),hml,Nat.sub_self,List.drop_eq_getElem_cons hf4,List.set_cons_zero,List.take_add_one,List.take_add_one,List.getElem?_eq_getElem hf4,List.getElem?_eq_getElem hu4,List.zipWith_append (by rw [List.length_take,List.length_take];omega),List.append_assoc]
  rfl
 ·obtain rfl : k = 4:=by omega
  have : g = orS f u:=by
   apply Arr.ext
   show g.l = List.zipWith _ f.l u.l
   rw [h2,List.take_of_length_le (by rw [f.len];omega),List.take_of_length_le (by rw [u.len];omega),List.drop_eq_nil_of_le (by rw [f.len];omega),List.append_nil]
  subst this
  exact ⟨⟨by omega,by omega⟩,h⟩
def unS (l : List aG) : aG:=l.foldl orS (Arr.rep 4 0)
theorem xB {l : List aG} {k : Nat} {u : aG} (h : l[k]? = some u) : unS (l.take (k + 1)) = orS (unS (l.take k)) u:=by
 unfold unS
 rw [List.take_add_one,h,List.foldl_append];rfl
theorem xC (l : List aG) (hl : l.length≤100) : lY l (unS l):=by
 refine bP (fun st m=>∃ k,k≤l.length∧m = l.length - k∧st.1 = (k : Int)∧st.2 = unS (l.take k)) _ ⟨0,by omega,rfl,rfl,rfl⟩ ?_
 rintro ⟨x,f⟩ m ⟨k,hk,rfl,h1,h2⟩
 simp only at h1 h2
 subst h1;subst h2
 show nl l _ (k : Int) _ _
 refine ab (fun h3=>?_) fun h3=>?_
 ·refine at_ (by omega) (by omega) fun u hu=>wr _ _ _ _ _ (by omega) ⟨l.length - (k + 1),by omega,k + 1,by omega,rfl,by simp,?_⟩
  rw [Int.toNat_natCast] at hu
  exact (xB hu).symm
 ·rw [List.take_of_length_le (by omega)]
theorem Be (s u : aG) (c : Nat) (hc : c < 256) : aV (orS s u) c = (aV s c || aV u c):=by
 have h1 : c / 64 < s.l.length:=by rw [s.len];omega
 have h2 : c / 64 < u.l.length:=by rw [u.len];omega
 unfold aV orS
 simp only [List.getD_eq_getElem?_getD,List.getElem?_zipWith,List.getElem?_eq_getElem h1,List.getElem?_eq_getElem h2,Option.getD_some,UInt64.toNat_or,Nat.testBit_or]
theorem Bf (l : List aG) (c : Nat) (hc : c < 256) : aV (unS l) c = l.any (aV · c):=by
 have h : ∀ (l : List aG) (s : aG),aV (l.foldl orS s) c = (aV s c || l.any (aV · c)):=by
  intro l
  induction l with
  | nil=>intro s;simp
  | cons u l ih=>intro s;rw [List.foldl_cons,ih,Be _ _ _ hc,List.any_cons,Bool.or_assoc]
 unfold unS
 rw [h]
 have : aV (Arr.rep 4 0) c = false:=by
  unfold aV
  rw [List.getD_eq_getElem?_getD]
  show (((List.replicate 4 (0 : UInt64))[c / 64]?).getD 0).toNat.testBit _ = false
  rw [List.getElem?_replicate,if_pos (by omega)]
  simp
 rw [this,Bool.false_or]
theorem zU (u : UInt64) : (0 : UInt64) ||| u = u:=UInt64.toNat_inj.1 (by rw [UInt64.toNat_or];exact Nat.zero_or _)
theorem Bg (w : UInt64) (k j : Nat) (hk : k < 64) : (w ||| UInt64.ofNat (2 ^ k)).toNat.testBit j = (w.toNat.testBit j || decide (k = j)):=by
 have hp : 2 ^ k≤2 ^ 63:=Nat.pow_le_pow_right (by decide) (by omega)
 rw [UInt64.toNat_or,Nat.testBit_or,UInt64.toNat_ofNat_of_lt' (by simp [UInt64.size];omega),Nat.testBit_two_pow]
theorem nG (s : aG) (c d : Nat) (hc : c < 256) (hd : d < 256) : aV (lx s c) d = (aV s d || decide (c = d)):=by
 have hcl : c / 64 < s.l.length:=by rw [s.len];omega
 unfold aV lx
 simp only [Arr.set,List.getD_eq_getElem?_getD,List.getElem?_set]
 by_cases h : c / 64 = d / 64
 ·rw [if_pos h,if_pos hcl,Option.getD_some,Bg _ _ _ (by omega),h]
  congr 1
  rw [decide_eq_decide]
  omega
 ·rw [if_neg h,decide_eq_false (fun e=>h (by rw [e])),Bool.or_false]
theorem Bh (l : List UInt8) (d : Nat) (hd : d < 256) : aV (ofS l) d = l.any (fun c=>decide (c.toNat = d)):=by
 have h : ∀ (l : List UInt8) (s : aG),aV (l.foldl (fun s c=>lx s c.toNat) s) d = (aV s d || l.any (fun c=>decide (c.toNat = d))):=by
  intro l
  induction l with
  | nil=>intro s;simp
  | cons c l ih=>intro s;rw [List.foldl_cons,ih,nG _ _ _ (c.toNat_lt) hd,List.any_cons,Bool.or_assoc]
 unfold ofS
 rw [h]
 have : aV (Arr.rep 4 0) d = false:=by
  unfold aV
  rw [List.getD_eq_getElem?_getD]
  show (((List.replicate 4 (0 : UInt64))[d / 64]?).getD 0).toNat.testBit _ = false
  rw [List.getElem?_replicate,if_pos (by omega)]
  simp
 rw [this,Bool.false_or]
theorem zV {s u : aG} (h : ∀ c,c < 256→aV s c = aV u c) : s = u:=by
 apply Arr.ext
 apply List.ext_getElem (by rw [s.len,u.len])
 intro i h1 h2
 have hi : i < 4:=by rw [s.len] at h1;exact h1
 apply UInt64.toNat_inj.1
 apply Nat.eq_of_testBit_eq
 intro j
 by_cases hj : j < 64
 ·have:=h (64 * i + j) (by omega)
  unfold aV at this
  rw [show (64 * i + j) / 64 = i by omega,show (64 * i + j) % 64 = j by omega] at this
  simpa [List.getD_eq_getElem?_getD,List.getElem?_eq_getElem h1,List.getElem?_eq_getElem h2] using this
 ·have hb : ∀ w : UInt64,w.toNat.testBit j = false:=fun w=>Nat.testBit_lt_two_pow (Nat.lt_of_lt_of_le w.toNat_lt (Nat.pow_le_pow_right (by decide) (by omega)))
  rw [hb,hb]
def isS (x : ByteArray) (n : Nat) : Bool×Bool:=
 if (x.toList == ((⟨#[117,112,112,101,114]⟩: ByteArray)).toList) = true then (decide (65≤n∧n≤90),true) else
 if (x.toList == ((⟨#[108,111,119,101,114]⟩: ByteArray)).toList) = true then (decide (97≤n∧n≤122),true) else
 if (x.toList == ((⟨#[100,105,103,105,116]⟩: ByteArray)).toList) = true then (decide (48≤n∧n≤57),true) else
 if (x.toList == ((⟨#[97,108,112,104,97]⟩: ByteArray)).toList) = true then (decide ((65≤n∧n≤90)∨(97≤n∧n≤122)),true) else
 if (x.toList == ((⟨#[97,108,110,117,109]⟩: ByteArray)).toList) = true then (decide ((65≤n∧n≤90)∨(97≤n∧n≤122)∨(48≤n∧n≤57)),true) else
 if (x.toList == ((⟨#[98,108,97,110,107]⟩: ByteArray)).toList) = true then (decide (n = 32∨n = 9),true) else
 if (x.toList == ((⟨#[115,112,97,99,101]⟩: ByteArray)).toList) = true then (decide (n = 32∨(9≤n∧n≤13)),true) else
 if (x.toList == ((⟨#[99,110,116,114,108]⟩: ByteArray)).toList) = true then (decide (n≤31∨n = 127),true) else
 if (x.toList == ((⟨#[103,114,97,112,104]⟩: ByteArray)).toList) = true then (decide (33≤n∧n≤126),true) else
 if (x.toList == ((⟨#[112,114,105,110,116]⟩: ByteArray)).toList) = true then (decide (32≤n∧n≤126),true) else
 if (x.toList == ((⟨#[112,117,110,99,116]⟩: ByteArray)).toList) = true then (decide ((33≤n∧n≤126)∧¬ ((65≤n∧n≤90)∨(97≤n∧n≤122)∨(48≤n∧n≤57))),true) else
 if (x.toList == ((⟨#[120,100,105,103,105,116]⟩: ByteArray)).toList) = true then (decide ((48≤n∧n≤57)∨(65≤n∧n≤70)∨(97≤n∧n≤102)),true) else
 (false,false)
theorem jn (c lo hi : UInt8) (r : Bool) : cD c lo hi r↔r = decide (lo.toNat≤c.toNat∧c.toNat≤hi.toNat):=by
 unfold cD
 constructor
 ·rintro ⟨h1,h2⟩
  by_cases h : (lo.toNat : Int)≤(c.toNat : Int)
  ·rw [h1 h,decide_eq_decide];omega
  ·rw [h2 h,eq_comm,decide_eq_false_iff_not];omega
 ·rintro rfl
  refine ⟨fun h=>?_,fun h=>?_⟩
  ·rw [decide_eq_decide];omega
  ·rw [decide_eq_false_iff_not];omega
theorem oy (c : UInt8) (r : Bool) : eT c r↔r = decide (65≤c.toNat∧c.toNat≤90):=by
 unfold eT
 simp only [jn,exists_eq_left];rfl
theorem oz (c : UInt8) (r : Bool) : eU c r↔r = decide (97≤c.toNat∧c.toNat≤122):=by
 unfold eU
 simp only [jn,exists_eq_left];rfl
theorem mJ (c : UInt8) (r : Bool) : dS c r↔r = decide (48≤c.toNat∧c.toNat≤57):=by
 unfold dS
 simp only [jn,exists_eq_left];rfl
theorem oA (c : UInt8) (r : Bool) : eV c r↔r = decide (33≤c.toNat∧c.toNat≤126):=by
 unfold eV
 simp only [jn,exists_eq_left];rfl
theorem Bi (p q : Prop) [Decidable p] [Decidable q] (r : Bool) : ((decide p = true→r = true)∧(¬ (decide p = true)→r = decide q))↔r = decide (p∨q):=by
 by_cases hp : p <;> by_cases hq : q <;> simp [hp,hq]
theorem r6 (c : UInt8) (r : Bool) : fZ c r↔r = decide ((48≤c.toNat∧c.toNat≤57)∨(65≤c.toNat∧c.toNat≤90)∨(97≤c.toNat∧c.toNat≤122)):=by
 unfold fZ
 simp only [mJ,oy,oz,exists_eq_left,Bi]
theorem r7 (c : UInt8) (r : Bool) : f3 c r↔r = decide (c.toNat = 32∨c.toNat = 9):=by
 unfold f3
 by_cases h : (c.toNat : Int) = 32
 ·have h1 : c.toNat = 32:=by omega
  simp [h1]
 ·have h1 : ¬ c.toNat = 32:=by omega
  simp only [h,not_false_eq_true,true_implies,false_implies,true_and,h1,false_or]
  constructor <;> (intro e;rw [e,decide_eq_decide];omega)
theorem ie (a b : Bool) : ((a,true) = (b,true))↔a = b:=by simp
theorem sR (x : ByteArray) (c : UInt8) : jr x c (isS x c.toNat):=by
 have hA : (10 : UInt8).toNat = 10:=rfl
 have hB : (13 : UInt8).toNat = 13:=rfl
 have hC : (65 : UInt8).toNat = 65:=rfl
 have hD : (70 : UInt8).toNat = 70:=rfl
 have hE : (97 : UInt8).toNat = 97:=rfl
 have hF : (102 : UInt8).toNat = 102:=rfl
 unfold jr isS
 refine ⟨fun h=>?_,fun h=>?_⟩
 ·rw [if_pos h]
  exact ⟨_,(oy _ _).2 rfl,rfl⟩
 rw [if_neg h]
 refine ⟨fun h=>?_,fun h=>?_⟩
 ·rw [if_pos h]
  exact ⟨_,(oz _ _).2 rfl,rfl⟩
 rw [if_neg h]
 refine ⟨fun h=>?_,fun h=>?_⟩
 ·rw [if_pos h]
  exact ⟨_,(mJ _ _).2 rfl,rfl⟩
 rw [if_neg h]
 refine ⟨fun h=>?_,fun h=>?_⟩
 ·rw [if_pos h]
  simp only [oy,oz,exists_eq_left,ie,decide_eq_decide,decide_eq_true_eq]
  omega
 rw [if_neg h]
 refine ⟨fun h=>?_,fun h=>?_⟩
 ·rw [if_pos h]
  exact ⟨_,(r6 _ _).2 rfl,by rw [ie,decide_eq_decide];omega⟩
 rw [if_neg h]
 refine ⟨fun h=>?_,fun h=>?_⟩
 ·rw [if_pos h]
  exact ⟨_,(r7 _ _).2 rfl,rfl⟩
 rw [if_neg h]
 refine ⟨fun h=>?_,fun h=>?_⟩
 ·rw [if_pos h]
  simp only [r7,jn,hA,hB,exists_eq_left,ie,decide_eq_decide,decide_eq_true_eq]
  omega
 rw [if_neg h]
 refine ⟨fun h=>?_,fun h=>?_⟩
 ·rw [if_pos h]
  simp only [ie,decide_eq_decide,decide_eq_true_eq]
  omega
 rw [if_neg h]
 refine ⟨fun h=>?_,fun h=>?_⟩
 ·rw [if_pos h]
  exact ⟨_,(oA _ _).2 rfl,rfl⟩
 rw [if_neg h]
 refine ⟨fun h=>?_,fun h=>?_⟩
 ·rw [if_pos h]
  simp only [oA,exists_eq_left,ie,decide_eq_decide,decide_eq_true_eq]
  omega
 rw [if_neg h]
 refine ⟨fun h=>?_,fun h=>?_⟩
 ·rw [if_pos h]
  simp only [oA,r6,← decide_not,decide_eq_false_iff_not,exists_eq_left,ie,decide_eq_decide,decide_eq_true_eq]
  omega
 rw [if_neg h]
 refine ⟨fun h=>?_,fun h=>?_⟩
 ·rw [if_pos h]
  simp only [mJ,jn,hC,hD,hE,hF,exists_eq_left,ie,decide_eq_decide,decide_eq_true_eq]
  omega
 rw [if_neg h]
theorem oB (x : ByteArray) (n : Nat) : (isS x n).2 = (isS x 0).2:=by
 unfold isS
 by_cases h : (x.toList == ((⟨#[117,112,112,101,114]⟩: ByteArray)).toList) = true
 ·rw [if_pos h,if_pos h]
 rw [if_neg h,if_neg h]
 clear h
 by_cases h : (x.toList == ((⟨#[108,111,119,101,114]⟩: ByteArray)).toList) = true
 ·rw [if_pos h,if_pos h]
 rw [if_neg h,if_neg h]
 clear h
 by_cases h : (x.toList == ((⟨#[100,105,103,105,116]⟩: ByteArray)).toList) = true
 ·rw [if_pos h,if_pos h]
 rw [if_neg h,if_neg h]
 clear h
 by_cases h : (x.toList == ((⟨#[97,108,112,104,97]⟩: ByteArray)).toList) = true
 ·rw [if_pos h,if_pos h]
 rw [if_neg h,if_neg h]
 clear h
 by_cases h : (x.toList == ((⟨#[97,108,110,117,109]⟩: ByteArray)).toList) = true
 ·rw [if_pos h,if_pos h]
 rw [if_neg h,if_neg h]
 clear h
 by_cases h : (x.toList == ((⟨#[98,108,97,110,107]⟩: ByteArray)).toList) = true
 ·rw [if_pos h,if_pos h]
 rw [if_neg h,if_neg h]
 clear h
 by_cases h : (x.toList == ((⟨#[115,112,97,99,101]⟩: ByteArray)).toList) = true
 ·rw [if_pos h,if_pos h]
 rw [if_neg h,if_neg h]
 clear h
 by_cases h : (x.toList == ((⟨#[99,110,116,114,108]⟩: ByteArray)).toList) = true
 ·rw [if_pos h,if_pos h]
 rw [if_neg h,if_neg h]
 clear h
 by_cases h : (x.toList == ((⟨#[103,114,97,112,104]⟩: ByteArray)).toList) = true
 ·rw [if_pos h,if_pos h]
 rw [if_neg h,if_neg h]
 clear h
 by_cases h : (x.toList == ((⟨#[112,114,105,110,116]⟩: ByteArray)).toList) = true
 ·rw [if_pos h,if_pos h]
 rw [if_neg h,if_neg h]
 clear h
 by_cases h : (x.toList == ((⟨#[112,117,110,99,116]⟩: ByteArray)).toList) = true
 ·rw [if_pos h,if_pos h]
 rw [if_neg h,if_neg h]
 clear h
 by_cases h : (x.toList == ((⟨#[120,100,105,103,105,116]⟩: ByteArray)).toList) = true
 ·rw [if_pos h,if_pos h]
 rw [if_neg h,if_neg h]
theorem Cp (x : ByteArray) (n : Nat) (h0 : (isS x 0).2 = false) : (isS x n).1 = false:=by
 rw [← oB x n] at h0
 revert h0
 unfold isS
 by_cases h : (x.toList == ((⟨#[117,112,112,101,114]⟩: ByteArray)).toList) = true
 ·rw [if_pos h];intro h0;cases h0
 rw [if_neg h]
 clear h
 by_cases h : (x.toList == ((⟨#[108,111,119,101,114]⟩: ByteArray)).toList) = true
 ·rw [if_pos h];intro h0;cases h0
 rw [if_neg h]
 clear h
 by_cases h : (x.toList == ((⟨#[100,105,103,105,116]⟩: ByteArray)).toList) = true
 ·rw [if_pos h];intro h0;cases h0
 rw [if_neg h]
 clear h
 by_cases h : (x.toList == ((⟨#[97,108,112,104,97]⟩: ByteArray)).toList) = true
 ·rw [if_pos h];intro h0;cases h0
 rw [if_neg h]
 clear h
 by_cases h : (x.toList == ((⟨#[97,108,110,117,109]⟩: ByteArray)).toList) = true
 ·rw [if_pos h];intro h0;cases h0
 rw [if_neg h]
 clear h
 by_cases h : (x.toList == ((⟨#[98,108,97,110,107]⟩: ByteArray)).toList) = true
 ·rw [if_pos h];intro h0;cases h0
 rw [if_neg h]
 clear h
 by_cases h : (x.toList == ((⟨#[115,112,97,99,101]⟩: ByteArray)).toList) = true
 ·rw [if_pos h];intro h0;cases h0
 rw [if_neg h]
 clear h
 by_cases h : (x.toList == ((⟨#[99,110,116,114,108]⟩: ByteArray)).toList) = true
 ·rw [if_pos h];intro h0;cases h0
 rw [if_neg h]
 clear h
 by_cases h : (x.toList == ((⟨#[103,114,97,112,104]⟩: ByteArray)).toList) = true
 ·rw [if_pos h];intro h0;cases h0
 rw [if_neg h]
 clear h
 by_cases h : (x.toList == ((⟨#[112,114,105,110,116]⟩: ByteArray)).toList) = true
 ·rw [if_pos h];intro h0;cases h0
 rw [if_neg h]
 clear h
 by_cases h : (x.toList == ((⟨#[112,117,110,99,116]⟩: ByteArray)).toList) = true
 ·rw [if_pos h];intro h0;cases h0
 rw [if_neg h]
 clear h
 by_cases h : (x.toList == ((⟨#[120,100,105,103,105,116]⟩: ByteArray)).toList) = true
 ·rw [if_pos h];intro h0;cases h0
 rw [if_neg h]
 clear h
 intro _;rfl
def kd (p : Nat→Bool) : Nat→aG
 | 0=>Arr.rep 4 0
 | k + 1=>if p k = true then lx (kd p k) k else kd p k
theorem mZ (d : Nat) (hd : d < 256) : aV (Arr.rep 4 0) d = false:=by
 unfold aV
 rw [List.getD_eq_getElem?_getD]
 show (((List.replicate 4 (0 : UInt64))[d / 64]?).getD 0).toNat.testBit _ = false
 rw [List.getElem?_replicate,if_pos (by omega)]
 simp
theorem nH (p : Nat→Bool) (k d : Nat) (hk : k≤256) (hd : d < 256) : aV (kd p k) d = (decide (d < k) && p d):=by
 induction k with
 | zero=>rw [decide_eq_false (by omega),Bool.false_and];exact mZ d hd
 | succ k ih=>
  have ih:=ih (by omega)
  unfold kd
  by_cases h : p k = true
  ·rw [if_pos h,nG _ _ _ (by omega) hd,ih]
   by_cases h1 : d = k
   ·subst h1;rw [decide_eq_true (p:=d < d + 1) (by omega),h];simp
   ·rw [decide_eq_false (p:=k = d) (by omega),Bool.or_false,show decide (d < k + 1) = decide (d < k) by rw [decide_eq_decide];omega]
  ·rw [if_neg h,ih]
   by_cases h1 : d = k
   ·subst h1;rw [Bool.eq_false_iff.2 h];simp
   ·rw [show decide (d < k + 1) = decide (d < k) by rw [decide_eq_decide];omega]
theorem o5 {s : aG} {p : Nat→Bool} (h : ∀ d,d < 256→aV s d = p d) : kd p 256 = s:=by
 apply zV
 intro d hd
 rw [nH _ _ _ (by omega) hd,decide_eq_true (by omega),Bool.true_and,h d hd]
theorem xD (a b : UInt8) : lW a b (kd (fun c=>decide (a.toNat≤c∧c≤b.toNat)) 256):=by
 have hb:=b.toNat_lt
 have ha:=a.toNat_lt
 refine bP (fun st m=>∃ c : Nat,a.toNat≤c∧c≤256∧m = 257 - c∧st.1 = (c : Int)∧(c = a.toNat∨c≤b.toNat + 1)∧∀ d,d < 256→aV st.2 d = decide (a.toNat≤d∧d < c)) _ ⟨a.toNat,by omega,by omega,rfl,rfl,.inl rfl,fun d hd=>by rw [mZ d hd,eq_comm,decide_eq_false_iff_not];omega⟩ ?_
 rintro ⟨x,f⟩ m ⟨c,h1,h2,rfl,h3,h4,h5⟩
 simp only at h3 h5
 subst h3
 show nk b _ (c : Int) f _
 refine ab (fun h=>?_) fun h=>?_
 ·refine gZ (by omega) fun y hy=>⟨_,rl f y,aq (by omega) ⟨257 - (c + 1),by omega,c + 1,by omega,by omega,rfl,by simp,.inr (by omega),fun d hd=>?_⟩⟩
  have hyc : y.toNat = c:=by omega
  rw [nG _ _ _ (by omega) hd,h5 d hd,hyc,Bool.eq_iff_iff,Bool.or_eq_true,decide_eq_true_eq,decide_eq_true_eq,decide_eq_true_eq]
  omega
 ·refine o5 fun d hd=>?_
  rw [h5 d hd,decide_eq_decide]
  omega
theorem xE (x : ByteArray) : lU x (kd (fun c=>(isS x c).1) 256,(isS x 0).2):=by
 refine bP (fun st m=>∃ c : Nat,c≤256∧m = 256 - c∧st.1 = (c : Int)∧(c = 0∨(isS x 0).2 = true)∧∀ d,d < 256→aV st.2 d = (decide (d < c) && (isS x d).1)) _ ⟨0,by omega,rfl,rfl,.inl rfl,fun d hd=>by rw [mZ d hd,decide_eq_false (by omega),Bool.false_and]⟩ ?_
 rintro ⟨i,f⟩ m ⟨c,h1,rfl,h3,h4,h5⟩
 simp only at h3 h5
 subst h3
 show nj x _ (c : Int) f _
 refine ab (fun h=>?_) fun h=>?_
 ·refine gZ (by omega) fun y hy=>⟨_,sR x y,ab (fun h6=>?_) fun h6=>?_⟩
  ·rw [oB] at h6
   have h7:=Bool.eq_false_iff.2 h6
   rw [h7]
   congr 1
   refine o5 fun d hd=>?_
   rw [Cp x d h7];exact mZ d hd
  ·rw [oB,Decidable.not_not] at h6
   have hyc : y.toNat = c:=by omega
   rw [hyc]
   refine ab (fun h7=>?_) fun h7=>?_
   ·refine gZ (by omega) fun z hz=>⟨_,rl f z,aq (by omega) ⟨256 - (c + 1),by omega,c + 1,by omega,rfl,by simp,.inr h6,fun d hd=>?_⟩⟩
    have hzc : z.toNat = c:=by omega
    rw [nG _ _ _ (by omega) hd,h5 d hd,hzc]
    by_cases h8 : d = c
    ·subst h8;rw [decide_eq_true (p:=d < d + 1) (by omega),h7];simp
    ·rw [decide_eq_false (p:=c = d) (by omega),Bool.or_false,show decide (d < c + 1) = decide (d < c) by rw [decide_eq_decide];omega]
   ·refine aq (by omega) ⟨256 - (c + 1),by omega,c + 1,by omega,rfl,by simp,.inr h6,fun d hd=>?_⟩
    rw [h5 d hd]
    by_cases h8 : d = c
    ·subst h8;rw [Bool.eq_false_iff.2 h7];simp
    ·rw [show decide (d < c + 1) = decide (d < c) by rw [decide_eq_decide];omega]
 ·have h6 : (isS x 0).2 = true:=h4.resolve_left (by omega)
  rw [h6]
  congr 1
  refine o5 fun d hd=>?_
  rw [h5 d hd,decide_eq_true (by omega),Bool.true_and]
theorem bV {a b : UInt8} (h : (a.toNat : Int) = (b.toNat : Int)) : a = b:=UInt8.toNat_inj.1 (by omega)
end Go.Proofs.YtnbceeholnkfeaaGreatDoor
namespace Go.Proofs.YtnbceeholnkfeaaGreatDoor
abbrev z4 : aG:=Arr.rep 4 (0 : UInt64)
abbrev It:=UInt8×aG×Bool×Nat
abbrev ItR:=(UInt8×aG×Bool×Int)×Int
def ka (t : List UInt8) (k : Nat) : ByteArray:=⟨(t.take k).toArray⟩
def gG (two : UInt8) (t : List UInt8) : Except Int It:=
 if Lib.index t [two,93] < 0 then .error 11
 else if two.toNat = 58 then
  (if (isS (ka t (Lib.index t [two,93]).toNat) 0).2 = true then .ok (0,kd (fun c=>(isS (ka t (Lib.index t [two,93]).toNat) c).1) 256,true,(Lib.index t [two,93]).toNat + 4) else .error 12)
 else if (Lib.index t [two,93]).toNat = 1 then .ok (t.headD 0,z4,false,5) else .error 12
def iQ (x two : UInt8) (t : List UInt8) : Except Int It:=
 if x.toNat = 91∧(two.toNat = 58∨two.toNat = 46∨two.toNat = 61) then gG two (t.drop 1)
 else if x.toNat = 92∧two.toNat = 110 then .ok (10,z4,false,2)
 else .ok (x,z4,false,1)
def eR : List UInt8→Except Int It
 | []=>.error 11
 | x :: t=>iQ x (t.headD 0) t
def itR (at_ : Nat) : Except Int It→ItR
 | .error e=>((0,z4,false,0),e)
 | .ok x=>((x.1,x.2.1,x.2.2.1,((at_ + x.2.2.2 : Nat) : Int)),0)
theorem bM {l : List UInt8} {k : Nat} {x : UInt8} (h : l[k]? = some x) : l.drop k = x :: l.drop (k + 1):=by
 obtain ⟨h1,h2⟩:=List.getElem?_eq_some_iff.1 h
 rw [List.drop_eq_getElem_cons h1,h2]
theorem wq (b : List UInt8) (at_ : Nat) (two : UInt8) (hb : b.length≤40000000) (h : b[at_ + 1]? = some two) : lV b (at_ : Int) (itR at_ (gG two (b.drop (at_ + 2)))):=by
 obtain ⟨hlt,_⟩:=List.getElem?_eq_some_iff.1 h
 have e2 : ((at_ : Int) + 2).toNat = at_ + 2:=by omega
 have hroom:=Lib.index_room (b.drop (at_ + 2)) [two,93]
 unfold gG
 refine aq (by omega) ⟨by omega,two,by rw [show ((at_ : Int) + 1).toNat = at_ + 1 from by omega];exact h,aq (by omega) ⟨⟨by omega,by omega⟩,Lib.index (b.drop (at_ + 2)) [two,93],?_,?_⟩⟩
 ·rw [e2]
  exact ⟨⟨by rw [List.length_drop];omega,by simp,by simp⟩,rfl⟩
 ·generalize hk : Lib.index (b.drop (at_ + 2)) [two,93] = k at hroom
  refine ab (fun h1=>?_) fun h1=>?_
  ·rw [if_pos h1];rfl
  ·have hr:=hroom (by omega)
   rw [List.length_drop] at hr
   simp only [List.length_cons,List.length_nil] at hr
   have hname : (b.take (((at_ : Int) + 2) + k).toNat).drop ((at_ : Int) + 2).toNat = (b.drop (at_ + 2)).take k.toNat:=by
    rw [e2,List.drop_take,show (((at_ : Int) + 2) + k).toNat - (at_ + 2) = k.toNat from by omega]
   rw [hname,if_neg h1]
   refine aq (by omega) (aq (by omega) (aq (by omega) ⟨⟨by omega,by omega,by omega⟩,aq (by omega) (aq (by omega) (ab (fun h2=>?_) fun h2=>?_))⟩))
   ·rw [if_pos (by omega)]
    refine ⟨_,xE (ka (b.drop (at_ + 2)) k.toNat),ab (fun h3=>?_) fun h3=>?_⟩
    ·rw [if_neg h3];rfl
    ·rw [if_pos (Decidable.of_not_not h3)]
     refine Prod.ext (Prod.ext rfl (Prod.ext rfl (Prod.ext rfl ?_))) rfl
     show ((at_ + (k.toNat + 4) : Nat) : Int) = (at_ : Int) + k + 4
     omega
   ·rw [if_neg (by omega)]
    have hlen : (((b.drop (at_ + 2)).take k.toNat).length : Int) = k:=by
     rw [List.length_take,List.length_drop];omega
    rw [hlen]
    refine ab (fun h3=>?_) fun h3=>?_
    ·rw [if_neg (by omega)];rfl
    ·have hk1 : k = 1:=by omega
     subst hk1
     obtain ⟨x,hx⟩: ∃ x,b[at_ + 2]? = some x:=⟨_,List.getElem?_eq_getElem (by omega)⟩
     rw [bM hx]
     refine ⟨by omega,x,rfl,?_⟩
     rw [if_pos (show Int.toNat 1 = 1 from rfl)]
     refine Prod.ext (Prod.ext rfl (Prod.ext rfl (Prod.ext rfl ?_))) rfl
     show ((at_ + 5 : Nat) : Int) = (at_ : Int) + 1 + 4
     omega
theorem sQ (b : List UInt8) (at_ : Nat) (hb : b.length≤40000000) (hat : at_≤80000000) : jc b (at_ : Int) (itR at_ (eR (b.drop at_))):=by
 refine ab (fun h=>?_) fun h=>?_
 ·rw [List.drop_eq_nil_of_le (by omega)];rfl
 ·obtain ⟨x,hx⟩: ∃ x,b[at_]? = some x:=⟨_,List.getElem?_eq_getElem (by omega)⟩
  have hx0 : b[(at_ : Int).toNat]? = some x:=by rw [Int.toNat_natCast];exact hx
  rw [bM hx]
  have key : ∀ two : UInt8,(b.drop (at_ + 1)).headD 0 = two→(b[at_ + 1]? = some two∨two = 0)→fS (at_ : Int) b two (itR at_ (iQ x two (b.drop (at_ + 1)))):=by
   intro two _ htwo
   refine ⟨by omega,x,hx0,?_⟩
   unfold iQ
   by_cases h1 : x.toNat = 91∧(two.toNat = 58∨two.toNat = 46∨two.toNat = 61)
   ·rw [if_pos h1,show ((decide ((x.toNat : Int) = 91)) && ((decide ((two.toNat : Int) = 58)) || ((decide ((two.toNat : Int) = 46)) || (decide ((two.toNat : Int) = 61))))) = true from by
     simp only [Bool.and_eq_true,Bool.or_eq_true,decide_eq_true_eq];omega]
    have htw : b[at_ + 1]? = some two:=by
     rcases htwo with h | h
     ·exact h
     ·rw [h] at h1;exact absurd h1.2 (by decide)
    rw [List.drop_drop]
    exact ab (fun _=>⟨_,wq b at_ two hb htw,rfl⟩) fun h=>absurd rfl h
   ·rw [if_neg h1,show ((decide ((x.toNat : Int) = 91)) && ((decide ((two.toNat : Int) = 58)) || ((decide ((two.toNat : Int) = 46)) || (decide ((two.toNat : Int) = 61))))) = false from by
     rw [Bool.eq_false_iff]
     intro h
     simp only [Bool.and_eq_true,Bool.or_eq_true,decide_eq_true_eq] at h
     exact h1 (by omega)]
    refine ab (fun h=>by cases h) fun _=>⟨by omega,x,hx0,?_⟩
    by_cases h2 : x.toNat = 92∧two.toNat = 110
    ·rw [if_pos h2,show ((decide ((x.toNat : Int) = 92)) && (decide ((two.toNat : Int) = 110))) = true from by
      simp only [Bool.and_eq_true,decide_eq_true_eq];omega]
     exact ab (fun _=>aq (by omega) rfl) fun h=>absurd rfl h
    ·rw [if_neg h2,show ((decide ((x.toNat : Int) = 92)) && (decide ((two.toNat : Int) = 110))) = false from by
      rw [Bool.eq_false_iff]
      intro h
      simp only [Bool.and_eq_true,decide_eq_true_eq] at h
      exact h2 (by omega)]
     exact ab (fun h=>by cases h) fun _=>⟨by omega,x,hx0,aq (by omega) rfl⟩
  refine aq (by omega) (ab (fun h1=>?_) fun h1=>?_)
  ·obtain ⟨two,htwo⟩: ∃ x,b[at_ + 1]? = some x:=⟨_,List.getElem?_eq_getElem (by omega)⟩
   refine aq (by omega) ⟨by omega,two,by rw [show ((at_ : Int) + 1).toNat = at_ + 1 from by omega];exact htwo,?_⟩
   show fS _ _ _ (itR at_ (iQ x ((b.drop (at_ + 1)).headD 0) _))
   have:=bM htwo
   rw [show (b.drop (at_ + 1)).headD 0 = two from by rw [this];rfl]
   exact key two (by rw [this];rfl) (Or.inl htwo)
  ·have : b.drop (at_ + 1) = []:=List.drop_eq_nil_of_le (by omega)
   show fS _ _ _ (itR at_ (iQ x ((b.drop (at_ + 1)).headD 0) _))
   rw [show (b.drop (at_ + 1)).headD 0 = 0 from by rw [this];rfl]
   exact key 0 (by rw [this];rfl) (Or.inr rfl)
def isD : List UInt8→Bool
 | []=>false
 | x :: r=>decide (x.toNat = 45) && (match r with | []=>true | y :: _=>decide (y.toNat≠93))
theorem zR (b : List UInt8) (at_ : Nat) (hb : b.length≤40000000) (hat : at_≤120000000) : lc b (at_ : Int) (isD (b.drop at_)):=by
 refine ab (fun h=>?_) fun h=>?_
 ·obtain ⟨x,hx⟩: ∃ x,b[at_]? = some x:=⟨_,List.getElem?_eq_getElem (by omega)⟩
  have hx0 : b[(at_ : Int).toNat]? = some x:=by rw [Int.toNat_natCast];exact hx
  rw [bM hx]
  refine ⟨by omega,x,hx0,ab (fun h1=>aq (by omega) (ab (fun h2=>?_) fun h2=>?_)) fun h1=>?_⟩
  ·rw [List.drop_eq_nil_of_le (by omega)]
   show (decide (x.toNat = 45) && true) = true
   rw [decide_eq_true (by omega)];rfl
  ·obtain ⟨y,hy⟩: ∃ x,b[at_ + 1]? = some x:=⟨_,List.getElem?_eq_getElem (by omega)⟩
   refine aq (by omega) ⟨by omega,y,by rw [show ((at_ : Int) + 1).toNat = at_ + 1 from by omega];exact hy,?_⟩
   rw [bM hy]
   show (decide (x.toNat = 45) && decide (y.toNat≠93)) = !(decide ((y.toNat : Int) = 93))
   rw [decide_eq_true (show x.toNat = 45 by omega),Bool.true_and]
   by_cases h3 : y.toNat = 93
   ·rw [decide_eq_false (by omega),decide_eq_true (by omega)];rfl
   ·rw [decide_eq_true (by omega),decide_eq_false (by omega)];rfl
  ·show (decide (x.toNat = 45) && _) = false
   rw [decide_eq_false (by omega)];rfl
 ·rw [List.drop_eq_nil_of_le (by omega)];rfl
abbrev xz (a c : UInt8) : aG:=kd (fun d=>decide (a.toNat≤d∧d≤c.toNat)) 256
def kc (t : List UInt8) (x : It) : Except Int (aG×Nat):=
 if isD (t.drop x.2.2.2) = false then (if x.2.2.1 = true then .ok (x.2.1,x.2.2.2) else .ok (ofS [x.1],x.2.2.2))
 else if x.2.2.1 = true then .error 3
 else match eR (t.drop (x.2.2.2 + 1)) with
  | .error e=>.error e
  | .ok y=>if y.2.2.1 = true∨y.1.toNat < x.1.toNat then .error 3 else .ok (xz x.1 y.1,x.2.2.2 + 1 + y.2.2.2)
def gC (t : List UInt8) : Except Int (aG×Nat):=match eR t with
 | .error e=>.error e
 | .ok x=>kc t x
theorem vm {two : UInt8} {t : List UInt8} {x : It} (h : gG two t = .ok x) : 1≤x.2.2.2∧x.2.2.2≤t.length + 2:=by
 have hroom:=Lib.index_room t [two,93]
 simp only [List.length_cons,List.length_nil] at hroom
 unfold gG at h
 split at h
 ·cases h
 ·split at h
  ·split at h
   ·injection h with h;subst h;simp only;omega
   ·cases h
  ·split at h
   ·injection h with h;subst h;simp only;omega
   ·cases h
theorem iT {t : List UInt8} {x : It} (h : eR t = .ok x) : 1≤x.2.2.2∧x.2.2.2≤t.length:=by
 cases t with
 | nil=>cases h
 | cons a t=>
  have h : iQ a (t.headD 0) t = .ok x:=h
  unfold iQ at h
  rw [List.length_cons]
  split at h
  ·rename_i h1
   have:=vm h
   cases t with
   | nil=>exact absurd h1.2 (by decide)
   | cons y t=>rw [List.length_drop,List.length_cons] at this;rw [List.length_cons];omega
  ·split at h
   ·rename_i h1
    injection h with h;subst h
    cases t with
    | nil=>exact absurd h1.2 (by decide)
    | cons y t=>rw [List.length_cons];simp only;omega
   ·injection h with h;subst h;simp only;omega
theorem jU {t : List UInt8} {e : Int} (h : eR t = .error e) : e≠0:=by
 cases t with
 | nil=>injection h with h;subst h;decide
 | cons a t=>
  have h : iQ a (t.headD 0) t = .error e:=h
  unfold iQ gG at h
  split at h
  ·split at h
   ·injection h with h;subst h;decide
   ·split at h
    ·split at h
     ·cases h
     ·injection h with h;subst h;decide
    ·split at h
     ·cases h
     ·injection h with h;subst h;decide
  ·split at h <;> cases h
theorem rZ {t : List UInt8} {s : aG} {l : Nat} (h : gC t = .ok (s,l)) : 1≤l∧l≤t.length:=by
 unfold gC at h
 cases hr : eR t with
 | error e=>rw [hr] at h;cases h
 | ok x=>
  rw [hr] at h
  have h : kc t x = .ok (s,l):=h
  have h1:=iT hr
  unfold kc at h
  split at h
  ·split at h <;> (injection h with h;injection h with _ h;omega)
  ·split at h
   ·cases h
   ·cases hr2 : eR (t.drop (x.2.2.2 + 1)) with
    | error e=>rw [hr2] at h;cases h
    | ok y=>
     rw [hr2] at h
     simp only at h
     have h2:=iT hr2
     rw [List.length_drop] at h2
     split at h
     ·cases h
     ·injection h with h;injection h with _ h;omega
theorem r5 {t : List UInt8} {e : Int} (h : gC t = .error e) : e≠0:=by
 unfold gC at h
 cases hr : eR t with
 | error e=>rw [hr] at h;injection h with h;subst h;exact jU hr
 | ok x=>
  rw [hr] at h
  have h : kc t x = .error e:=h
  unfold kc at h
  split at h
  ·split at h <;> cases h
  ·split at h
   ·injection h with h;subst h;decide
   ·cases hr2 : eR (t.drop (x.2.2.2 + 1)) with
    | error e=>rw [hr2] at h;injection h with h;subst h;exact jU hr2
    | ok y=>
     rw [hr2] at h
     simp only at h
     split at h
     ·injection h with h;subst h;decide
     ·cases h
def ptR (at_ : Nat) : Except Int (aG×Nat)→aG×Int×Int
 | .error e=>(z4,0,e)
 | .ok x=>(x.1,((at_ + x.2 : Nat) : Int),0)
theorem zS (b : List UInt8) (at_ : Nat) (hb : b.length≤40000000) (hat : at_≤b.length) : ms b (at_ : Int) (ptR at_ (gC (b.drop at_))):=by
 refine ⟨_,sQ b at_ hb (by omega),?_⟩
 unfold gC
 cases hr : eR (b.drop at_) with
 | error e=>exact ab (fun _=>rfl) fun h=>absurd (jU hr) h
 | ok x=>
  have hl:=iT hr
  rw [List.length_drop] at hl
  refine ab (fun h=>absurd rfl h) fun _=>⟨_,zR b (at_ + x.2.2.2) hb (by omega),?_⟩
  show _∧_
  rw [← List.drop_drop]
  unfold kc
  refine ab (fun h1=>?_) fun h1=>?_
  ·have h1 : isD ((b.drop at_).drop x.2.2.2) = false:=by simpa using h1
   simp only
   rw [if_pos h1]
   refine ab (fun h2=>?_) fun h2=>⟨_,nF [x.1] (by simp),?_⟩
   ·have h2 : x.2.2.1 = true:=h2
    rw [if_pos h2];rfl
   ·have h2 : ¬ x.2.2.1 = true:=h2
    rw [if_neg h2];rfl
  ·have h1 : ¬ isD ((b.drop at_).drop x.2.2.2) = false:=by simpa using h1
   simp only
   rw [if_neg h1]
   refine ab (fun h2=>?_) fun h2=>?_
   ·have h2 : x.2.2.1 = true:=h2
    rw [if_pos h2];rfl
   ·have h2 : ¬ x.2.2.1 = true:=h2
    rw [if_neg h2]
    have hrd:=sQ b (at_ + (x.2.2.2 + 1)) hb (by omega)
    rw [← List.drop_drop] at hrd
    refine aq (by show _≤((at_ + x.2.2.2 : Nat) : Int) + 1∧((at_ + x.2.2.2 : Nat) : Int) + 1≤_;omega) ⟨_,by
     show jc b (((at_ + x.2.2.2 : Nat) : Int) + 1) _
     rw [show ((at_ + x.2.2.2 : Nat) : Int) + 1 = ((at_ + (x.2.2.2 + 1) : Nat) : Int) from by omega]
     exact hrd,?_⟩
    cases hr2 : eR ((b.drop at_).drop (x.2.2.2 + 1)) with
    | error e=>exact ab (fun _=>rfl) fun h=>absurd (jU hr2) h
    | ok y=>
     refine ab (fun h=>absurd rfl h) fun _=>?_
     show lX _ _ (y.2.2.1 || (decide ((y.1.toNat : Int) < (x.1.toNat : Int)))) (ptR at_ (if y.2.2.1 = true∨y.1.toNat < x.1.toNat then .error 3 else .ok (xz x.1 y.1,x.2.2.2 + 1 + y.2.2.2)))
     by_cases h3 : y.2.2.1 = true∨y.1.toNat < x.1.toNat
     ·rw [if_pos h3,show (y.2.2.1 || (decide ((y.1.toNat : Int) < (x.1.toNat : Int)))) = true from by
       rw [Bool.or_eq_true,decide_eq_true_eq]
       rcases h3 with h | h
       ·exact Or.inl h
       ·exact Or.inr (by omega)]
      exact ab (fun _=>rfl) fun h=>absurd rfl h
     ·rw [if_neg h3,show (y.2.2.1 || (decide ((y.1.toNat : Int) < (x.1.toNat : Int)))) = false from by
       rw [Bool.eq_false_iff]
       intro h
       rw [Bool.or_eq_true,decide_eq_true_eq] at h
       rcases h with h | h
       ·exact h3 (Or.inl h)
       ·exact h3 (Or.inr (by omega))]
      refine ab (fun h=>by cases h) fun _=>⟨_,xD x.1 y.1,?_⟩
      refine Prod.ext rfl (Prod.ext ?_ rfl)
      show ((at_ + (x.2.2.2 + 1 + y.2.2.2) : Nat) : Int) = ((at_ + (x.2.2.2 + 1) + y.2.2.2 : Nat) : Int)
      omega
end Go.Proofs.YtnbceeholnkfeaaGreatDoor
namespace Go.Proofs.YtnbceeholnkfeaaGreatDoor
def ml : List UInt8→Bool
 | []=>false
 | x :: _=>decide (x.toNat = 93)
def zj : List UInt8→Bool
 | []=>false
 | x :: _=>decide (x.toNat = 94)
def dt : Nat→Bool→List UInt8→aG→Nat→Except Int (aG×Nat)
 | 0,_,_,_,_=>.error 11
 | n + 1,first,t,s,len=>if first = false∧ml t = true then .ok (s,len + 1) else match gC t with
  | .error e=>.error e
  | .ok x=>dt n false (t.drop x.2) (unS [s,x.1]) (len + x.2)
theorem jm (n : Nat) (first : Bool) (t : List UInt8) (s : aG) (len : Nat) : dt (n + 1) first t s len = if first = false∧ml t = true then .ok (s,len + 1) else match gC t with
  | .error e=>.error e
  | .ok x=>dt n false (t.drop x.2) (unS [s,x.1]) (len + x.2):=rfl
def nE (no : Bool) (at_ : Nat) : Except Int (aG×Nat)→aG×Int×Int
 | .error e=>(z4,0,e)
 | .ok x=>(if no = true then ic x.1 else x.1,((at_ + x.2 : Nat) : Int),0)
def bU (b : List UInt8) (at_ : Nat) : aG×Int×Int:=
 if zj (b.drop at_) = true then nE true (at_ + 1) (dt ((b.drop (at_ + 1)).length + 1) true (b.drop (at_ + 1)) z4 0)
 else nE false at_ (dt ((b.drop at_).length + 1) true (b.drop at_) z4 0)
theorem pM (b : List UInt8) (no : Bool) (a0 : Nat) (hb : b.length≤40000000) (h0 : a0≤b.length) : aR (fun ag4 st=>lg b no ag4 st.1 st.2.1 st.2.2 (nE no a0 (dt ((b.drop a0).length + 1) true (b.drop a0) z4 0))) ((a0 : Int),true,z4):=by
 refine bP (fun (st : Int×Bool×aG) m=>∃ (n l : Nat) (first : Bool) (f : aG),m = n∧a0 + l≤b.length∧b.length - (a0 + l) < n∧st = (((a0 + l : Nat) : Int),first,f)∧dt n first (b.drop (a0 + l)) f l = dt ((b.drop a0).length + 1) true (b.drop a0) z4 0) ((b.drop a0).length + 1) ⟨(b.drop a0).length + 1,0,true,z4,rfl,by omega,by rw [List.length_drop];omega,rfl,rfl⟩ ?_
 rintro _ n ⟨_,l,first,f,rfl,hl,hn,rfl,hr⟩
 show lg b no _ ((a0 + l : Nat) : Int) first f _
 obtain ⟨n,rfl⟩: ∃ j,n = j + 1:=⟨n - 1,by omega⟩
 generalize hW : dt ((b.drop a0).length + 1) true (b.drop a0) z4 0 = W at hr ⊢
 rw [jm] at hr
 have hj5 : ¬ (first = false∧ml (b.drop (a0 + l)) = true)→gN b ((a0 + l : Nat) : Int) f (fun s'=>∃ m',m' < n + 1∧∃ (n l : Nat) (first : Bool) (f : aG),m' = n∧a0 + l≤b.length∧b.length - (a0 + l) < n∧s' = (((a0 + l : Nat) : Int),first,f)∧dt n first (b.drop (a0 + l)) f l = W) (nE no a0 W):=fun h=>by
  rw [if_neg h] at hr
  refine ⟨_,zS b (a0 + l) hb hl,?_⟩
  cases hp : gC (b.drop (a0 + l)) with
  | error e=>
   rw [hp] at hr
   rw [← hr]
   exact ab (fun _=>rfl) fun h=>absurd (r5 hp) h
  | ok x=>
   rw [hp] at hr
   have hlen:=rZ (s:=x.1) (l:=x.2) hp
   rw [List.length_drop] at hlen
   refine ab (fun h=>absurd rfl h) fun _=>⟨_,xC [f,x.1] (by simp),n,by omega,n,l + x.2,false,unS [f,x.1],rfl,by omega,by omega,?_,?_⟩
   ·refine Prod.ext ?_ rfl
    show ((a0 + l + x.2 : Nat) : Int) = ((a0 + (l + x.2) : Nat) : Int)
    omega
   ·rw [← hr]
    simp only
    rw [List.drop_drop,Nat.add_assoc]
 refine ab (fun h1=>?_) fun h1=>?_
 ·obtain ⟨x,hx⟩: ∃ x,b[a0 + l]? = some x:=⟨_,List.getElem?_eq_getElem (by omega)⟩
  have hd:=bM hx
  refine ⟨by omega,x,by rw [Int.toNat_natCast];exact hx,ab (fun h2=>ab (fun h3=>?_) fun h3=>?_) fun h2=>?_⟩
  ·have hf : first = false:=by simpa using h3
   rw [if_pos ⟨hf,by rw [hd];exact decide_eq_true (by omega)⟩] at hr
   rw [← hr]
   refine ab (fun h4=>⟨_,qy f,aq (by omega) ?_⟩) fun h4=>aq (by omega) ?_
   ·show (if no = true then ic f else f,((a0 + (l + 1) : Nat) : Int),(0 : Int)) = (ic f,((a0 + l : Nat) : Int) + 1,0)
    rw [if_pos h4];rfl
   ·show (if no = true then ic f else f,((a0 + (l + 1) : Nat) : Int),(0 : Int)) = (f,((a0 + l : Nat) : Int) + 1,0)
    rw [if_neg h4];rfl
  ·refine hj5 fun h=>h3 ?_
   rw [h.1];exact Bool.false_ne_true
  ·refine hj5 fun h=>h2 ?_
   have:=h.2
   rw [hd] at this
   have:=of_decide_eq_true this
   omega
 ·refine hj5 fun h=>?_
  have:=h.2
  rw [List.drop_eq_nil_of_le (by omega)] at this
  cases this
theorem sP (b : List UInt8) (at_ : Nat) (hb : b.length≤40000000) (h0 : at_≤b.length) : iE b (at_ : Int) (bU b at_):=by
 show lj (at_ : Int) b _ _
 rw [show ((decide ((at_ : Int) < 0)) || (decide ((b.length : Int) < (at_ : Int)))) = false from by
  rw [Bool.or_eq_false_iff,decide_eq_false_iff_not,decide_eq_false_iff_not];omega]
 unfold bU
 refine ab (fun h=>by cases h) fun _=>ab (fun h1=>?_) fun h1=>?_
 ·obtain ⟨x,hx⟩: ∃ x,b[at_]? = some x:=⟨_,List.getElem?_eq_getElem (by omega)⟩
  have hd:=bM hx
  refine ⟨by omega,x,by rw [Int.toNat_natCast];exact hx,?_⟩
  by_cases h2 : x.toNat = 94
  ·rw [decide_eq_true (show (x.toNat : Int) = 94 by omega),if_pos (by rw [hd];exact decide_eq_true h2)]
   refine ab (fun _=>aq (by omega) ?_) fun h=>absurd rfl h
   have:=pM b true (at_ + 1) hb (by omega)
   exact this
  ·rw [decide_eq_false (show ¬ (x.toNat : Int) = 94 by omega),if_neg (by rw [hd];show ¬ decide (x.toNat = 94) = true;rw [decide_eq_false h2];exact Bool.false_ne_true)]
   exact ab (fun h=>by cases h) fun _=>pM b false at_ hb h0
 ·rw [if_neg (by rw [List.drop_eq_nil_of_le (by omega)];exact Bool.false_ne_true)]
  exact ab (fun h=>by cases h) fun _=>pM b false at_ hb h0
end Go.Proofs.YtnbceeholnkfeaaGreatDoor
namespace Go.Proofs.YtnbceeholnkfeaaGreatDoor
theorem kT {t u : List UInt8} {m : Nat} (h : u.take m = t.take m) {i : Nat} (hi : i < m) : u[i]? = t[i]?:=by
 have:=congrArg (fun l=>l[i]?) h
 simpa [List.getElem?_take,hi] using this
theorem l9 {t u : List UInt8} {m k : Nat} (h : u.take m = t.take m) (hk : k≤m) : (u.drop k).take (m - k) = (t.drop k).take (m - k):=by
 rw [List.take_drop,List.take_drop,show k + (m - k) = m from by omega,h]
theorem sN {t u : List UInt8} {m k : Nat} (h : u.take m = t.take m) (hk : k≤m) : u.take k = t.take k:=by
 have:=congrArg (List.take k) h
 rwa [List.take_take,List.take_take,Nat.min_eq_left hk] at this
theorem jT {t u : List UInt8} {m : Nat} (h : u.take m = t.take m) (hm : m≤t.length) : m≤u.length:=by
 have:=congrArg List.length h
 rw [List.length_take,List.length_take] at this
 omega
theorem rY {t u sub : List UInt8} {m i : Nat} (h : u.take m = t.take m) (hm : m≤t.length) (hi : i + sub.length≤m) : Lib.occAt u sub i = Lib.occAt t sub i:=by
 rw [Lib.occAt_iff_take _ _ _ (by have:=jT h hm;omega),Lib.occAt_iff_take _ _ _ (by omega)]
 have:=l9 (sN h hi) (show i≤i + sub.length by omega)
 rw [show i + sub.length - i = sub.length from by omega] at this
 rw [this]
theorem uo {t u sub : List UInt8} {m : Nat} (h : u.take m = t.take m) (hm : m≤t.length) (h0 : 0≤Lib.index t sub) (hs : Lib.index t sub + sub.length≤m) : Lib.index u sub = Lib.index t sub:=by
 rcases Lib.index_spec t sub with h1 | ⟨i,h1,h2,h3,h4⟩
 ·omega
 ·rw [h1] at hs ⊢
  have hu:=jT h hm
  refine Lib.index_first (by omega) (by rw [rY h hm (by omega)];exact h3) fun j hj=>?_
  rw [rY h hm (by omega)]
  exact h4 j hj
theorem up {t u : List UInt8} {two : UInt8} {m : Nat} {x : It} (h : u.take m = t.take m) (hm : m≤t.length) (hx : gG two t = .ok x) (hl : x.2.2.2≤m + 2) : gG two u = .ok x:=by
 unfold gG at hx
 split at hx
 ·cases hx
 ·rename_i h1
  have h1 : 0≤Lib.index t [two,93]:=by omega
  have hlen : Lib.index t [two,93] + 4≤(m : Int) + 2:=by
   split at hx
   ·split at hx
    ·injection hx with hx;subst hx;simp only at hl;omega
    ·cases hx
   ·split at hx
    ·injection hx with hx;subst hx;simp only at hl;omega
    ·cases hx
  have hi:=uo (sub:=[two,93]) h hm h1 (by simp only [List.length_cons,List.length_nil];omega)
  have hn : ka u (Lib.index t [two,93]).toNat = ka t (Lib.index t [two,93]).toNat:=by
   unfold ka
   rw [sN h (by omega)]
  have hh : (Lib.index t [two,93]).toNat = 1→u.headD 0 = t.headD 0:=fun h2=>by
   have:=kT h (show 0 < m by omega)
   rw [List.headD_eq_head?_getD,List.headD_eq_head?_getD,List.head?_eq_getElem?,List.head?_eq_getElem?,this]
  unfold gG
  rw [hi,hn,if_neg (by omega)]
  split at hx
  ·rename_i h2
   rw [if_pos h2]
   exact hx
  ·rename_i h2
   rw [if_neg h2]
   split at hx
   ·rename_i h3
    rw [if_pos h3,hh h3];exact hx
   ·cases hx
theorem qv {t u : List UInt8} {m : Nat} {x : It} (h : u.take m = t.take m) (hm : m≤t.length) (hx : eR t = .ok x) (hl : x.2.2.2 + 1≤m) : eR u = .ok x:=by
 have hx1:=iT hx
 have hu:=jT h hm
 obtain ⟨a,b,t,rfl⟩: ∃ a b r,t = a :: b :: r:=by
  match t,hm with
  | [],h=>rw [List.length_nil] at h;omega
  | [a],h=>rw [List.length_singleton] at h;omega
  | a :: b :: r,_=>exact ⟨a,b,r,rfl⟩
 obtain ⟨a',b',u,rfl⟩: ∃ a b r,u = a :: b :: r:=by
  match u,hu with
  | [],h=>rw [List.length_nil] at h;omega
  | [a],h=>rw [List.length_singleton] at h;omega
  | a :: b :: r,_=>exact ⟨a,b,r,rfl⟩
 have e0:=kT h (show 0 < m by omega)
 have e1:=kT h (show 1 < m by omega)
 simp at e0 e1
 subst e0 e1
 have hx : iQ a' b' (b' :: t) = .ok x:=hx
 show iQ a' b' (b' :: u) = .ok x
 unfold iQ at hx ⊢
 split at hx
 ·rename_i h1
  rw [if_pos h1]
  have:=l9 h (show 2≤m by omega)
  simp only [List.drop_succ_cons,List.drop_zero] at this hx ⊢
  refine up this ?_ hx (by omega)
  simp only [List.length_cons] at hm
  omega
 ·rename_i h1
  rw [if_neg h1]
  split at hx
  ·rename_i h2;rw [if_pos h2];exact hx
  ·rename_i h2;rw [if_neg h2];exact hx
theorem qw {t u : List UInt8} {m l : Nat} (h : u.take m = t.take m) (hm : m≤t.length) (hl : l + 2≤m∨(l + 1≤m∧ml (t.drop l) = true)) : isD (u.drop l) = isD (t.drop l):=by
 have hu:=jT h hm
 obtain ⟨x,hx⟩: ∃ x,t[l]? = some x:=⟨_,List.getElem?_eq_getElem (by omega)⟩
 have hx' : u[l]? = some x:=by rw [kT h (by omega),hx]
 rw [bM hx,bM hx']
 rw [bM hx] at hl
 rcases hl with hl | ⟨_,hl⟩
 ·obtain ⟨y,hy⟩: ∃ x,t[l + 1]? = some x:=⟨_,List.getElem?_eq_getElem (by omega)⟩
  have hy' : u[l + 1]? = some y:=by rw [kT h (by omega),hy]
  rw [bM hy,bM hy']
  rfl
 ·have hl : x.toNat = 93:=of_decide_eq_true hl
  have : ∀ r,isD (x :: r) = false:=fun r=>by
   show (decide (x.toNat = 45) && _) = false
   rw [decide_eq_false (show ¬ x.toNat = 45 by omega)];rfl
  rw [this,this]
theorem vk {t u : List UInt8} {m l : Nat} {s : aG} (h : u.take m = t.take m) (hm : m≤t.length) (hp : gC t = .ok (s,l)) (hl : l + 2≤m∨(l + 1≤m∧ml (t.drop l) = true)) : gC u = .ok (s,l):=by
 unfold gC at hp
 cases hr : eR t with
 | error e=>rw [hr] at hp;cases hp
 | ok x=>
  rw [hr] at hp
  have hp : kc t x = .ok (s,l):=hp
  have hxl : x.2.2.2≤l∧(isD (t.drop x.2.2.2) = false→x.2.2.2 = l)∧(isD (t.drop x.2.2.2) = true→x.2.2.2 + 2≤l):=by
   unfold kc at hp
   split at hp
   ·rename_i h1
    have : x.2.2.2 = l:=by split at hp <;> (injection hp with hp;injection hp)
    exact ⟨by omega,fun _=>this,fun h=>by rw [h1] at h;cases h⟩
   ·rename_i h1
    split at hp
    ·cases hp
    ·cases hr2 : eR (t.drop (x.2.2.2 + 1)) with
     | error e=>rw [hr2] at hp;cases hp
     | ok y=>
      rw [hr2] at hp
      simp only at hp
      have h2:=iT hr2
      split at hp
      ·cases hp
      ·injection hp with hp
       injection hp with _ hp
       exact ⟨by omega,fun h=>absurd h h1,fun _=>by omega⟩
  have hru:=qv h hm hr (by omega)
  have hdu : isD (u.drop x.2.2.2) = isD (t.drop x.2.2.2):=by
   by_cases hd : isD (t.drop x.2.2.2) = false
   ·have e:=hxl.2.1 hd
    exact qw h hm (by rw [e];exact hl)
   ·exact qw h hm (Or.inl (by have:=hxl.2.2 (by simpa using hd);omega))
  unfold gC
  rw [hru]
  show kc u x = _
  unfold kc at hp ⊢
  rw [hdu]
  split at hp
  ·rename_i h1;rw [if_pos h1];exact hp
  ·rename_i h1
   rw [if_neg h1]
   split at hp
   ·cases hp
   ·rename_i h2
    rw [if_neg h2]
    cases hr2 : eR (t.drop (x.2.2.2 + 1)) with
    | error e=>rw [hr2] at hp;cases hp
    | ok y=>
     rw [hr2] at hp
     simp only at hp
     have hyl : x.2.2.2 + 1 + y.2.2.2 = l:=by
      split at hp
      ·cases hp
      ·injection hp with hp;injection hp
     have:=qv (l9 h (show x.2.2.2 + 1≤m by omega)) (by rw [List.length_drop];omega) hr2 (by omega)
     rw [this]
     exact hp
theorem sO {t u : List UInt8} {m : Nat} (h : u.take m = t.take m) (hm : m≤t.length) (h1 : 1≤m) : ml u = ml t:=by
 have hu:=jT h hm
 have e:=kT h (show 0 < m by omega)
 cases t with
 | nil=>rw [List.length_nil] at hm;omega
 | cons a t=>
  cases u with
  | nil=>rw [List.length_nil] at hu;omega
  | cons b u=>simp at e;subst e;rfl
theorem qx (n : Nat) : ∀ (first : Bool) (t : List UInt8) (s : aG) (len : Nat) (S : aG) (L : Nat),dt n first t s len = .ok (S,L)→
  len + 1≤L∧L - len≤t.length∧(L = len + 1→ml t = true)∧∀ (u : List UInt8) (n' : Nat),L - len≤n'→u.take (L - len) = t.take (L - len)→dt n' first u s len = .ok (S,L):=by
 induction n with
 | zero=>intro first t s len S L h;cases h
 | succ n ih=>
  intro first t s len S L h
  rw [jm] at h
  by_cases h1 : first = false∧ml t = true
  ·rw [if_pos h1] at h
   injection h with h
   injection h with h2 h3
   subst h2 h3
   have htl : 1≤t.length:=by
    cases t with
    | nil=>exact absurd h1.2 (by decide)
    | cons a t=>rw [List.length_cons];omega
   refine ⟨by omega,by omega,fun _=>h1.2,fun u n' hn hu=>?_⟩
   obtain ⟨n',rfl⟩: ∃ j,n' = j + 1:=⟨n' - 1,by omega⟩
   rw [jm,if_pos ⟨h1.1,by rw [sO hu (by omega) (by omega)];exact h1.2⟩]
  ·rw [if_neg h1] at h
   cases hp : gC t with
   | error e=>rw [hp] at h;cases h
   | ok x=>
    rw [hp] at h
    simp only at h
    have hxl:=rZ (s:=x.1) (l:=x.2) hp
    obtain ⟨k1,k2,k3,k4⟩:=ih _ _ _ _ _ _ h
    rw [List.length_drop] at k2
    refine ⟨by omega,by omega,fun e=>by omega,fun u n' hn hu=>?_⟩
    obtain ⟨n',rfl⟩: ∃ j,n' = j + 1:=⟨n' - 1,by omega⟩
    have hpu:=vk hu (by omega) (s:=x.1) (l:=x.2) hp (by
     by_cases e : L = len + x.2 + 1
     ·exact Or.inr ⟨by omega,k3 e⟩
     ·exact Or.inl (by omega))
    rw [jm,sO hu (by omega) (by omega),if_neg h1,hpu]
    simp only
    refine k4 _ _ (by omega) ?_
    have:=l9 hu (show x.2≤L - len by omega)
    rwa [show L - len - x.2 = L - (len + x.2) from by omega] at this
theorem xy (n : Nat) : ∀ (first : Bool) (t : List UInt8) (s : aG) (len : Nat) (e : Int),dt n first t s len = .error e→e≠0:=by
 induction n with
 | zero=>intro first t s len e h;injection h with h;subst h;decide
 | succ n ih=>
  intro first t s len e h
  rw [jm] at h
  split at h
  ·cases h
  ·cases hp : gC t with
   | error e'=>rw [hp] at h;injection h with h;subst h;exact r5 hp
   | ok x=>rw [hp] at h;exact ih _ _ _ _ _ h
theorem vl (t : List UInt8) (S : aG) (L : Nat) (h : dt (t.length + 1) true t z4 0 = .ok (S,L)) : 1≤L∧L≤t.length∧(∀ u : List UInt8,u.take L = t.take L→dt (u.length + 1) true u z4 0 = .ok (S,L))∧∀ m,m < L→∃ e,dt ((t.take m).length + 1) true (t.take m) z4 0 = .error e:=by
 obtain ⟨k1,k2,_,k4⟩:=qx _ _ _ _ _ _ _ h
 refine ⟨by omega,by omega,fun u hu=>?_,fun m hm=>?_⟩
 ·have:=jT hu (by omega)
  exact k4 u _ (by omega) (by rwa [Nat.sub_zero])
 ·cases hq : dt ((t.take m).length + 1) true (t.take m) z4 0 with
  | error e=>exact ⟨e,rfl⟩
  | ok y=>
   obtain ⟨q1,q2,_,q4⟩:=qx _ _ _ _ _ y.1 y.2 hq
   rw [List.length_take] at q2
   have:=q4 t (t.length + 1) (by omega) (by rw [List.take_take,Nat.min_eq_left (by omega)])
   rw [h] at this
   injection this with this
   injection this with _ this
   omega
end Go.Proofs.YtnbceeholnkfeaaGreatDoor
