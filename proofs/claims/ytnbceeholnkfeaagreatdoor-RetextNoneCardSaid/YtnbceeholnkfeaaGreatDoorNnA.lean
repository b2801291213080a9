/- A basic regular expression has no branches beside each other. -/
import Derived.Test.YtnbceeholnkfeaaGreatDoorReD
namespace Go.Proofs.YtnbceeholnkfeaaGreatDoor
def W (s s':Pz):Prop:=(∀ x∈s.L,x.1≠3)→∀ x∈s'.L,x.1≠3
theorem pO {s s':Pz} (h:s'.L=s.L):W s s':=fun k=>by rw [h];exact k
theorem lZ {s s' s'':Pz} (h:W s s') (k:W s' s''):W s s'':=fun e=>k (h e)
theorem sf {nd:ND} (hn:nd.1≠3) {s s1:Pz} (h:W s s1):W s (ah nd s1).2:=fun e=>by
 unfold ah
 split
 ·exact h e
 ·split
  ·intro x hx
   rcases List.mem_append.1 hx with hx | hx
   ·exact h e x hx
   ·obtain rfl:=List.mem_singleton.1 hx
    exact hn
  ·exact h e
theorem qr {nd:ND} (hn:nd.1≠3) {s s1:Pz} (h:W s s1):W s (okR (ah nd s1)).2.2:=sf hn h
theorem yN:∀ (l:List Int) (k:Int) (s:Pz),W s (bf 2 l k s).2
 | [],_,_=>id
 | y :: t,k,s=>by
  rw [cG]
  split
  ·exact id
  ·exact lZ (sf (nd:=(2,k,y,0,0,0,aj)) (by show (2:Int)≠3;decide) id) (yN t _ _)
theorem B0 (l:List Int) (s:Pz):W s (bd l s).2:=by
 cases l with
 | nil=>exact sf (nd:=(0,0,0,0,0,0,aj)) (by show (0:Int)≠3;decide) id
 | cons x t=>
  rw [gL]
  split
  ·exact id
  ·exact yN t x s
theorem uX (b:List UInt8) (k lo hi:Int) (s:Pz) (a:Nat):W s (dV b k lo hi s a).2.2:=by
 unfold dV
 split
 ·exact pO rfl
 ·exact qr (nd:=(4,k,0,lo,hi,0,aj)) (by show (4:Int)≠3;decide) (pO rfl)
theorem AJ (b:List UInt8) (k:Int) (s:Pz):W s (aR b k s).2.2:=by
 unfold aR
 split
 ·exact qr (nd:=(4,k,0,0,-1,0,aj)) (by show (4:Int)≠3;decide) (pO rfl)
 ·split
  ·exact id
  ·split
   ·split
    ·exact uX _ _ _ _ _ _
    ·split
     ·exact uX _ _ _ _ _ _
     ·exact id
   ·exact uX _ _ _ _ _ _
theorem yO (b:List UInt8):∀ (n:Nat) (k:Int) (w:List (Int×Int)) (s:Pz),W s (aL b n k w s).2.2:=by
 intro n
 induction n with
 | zero=>intro k w s;exact id
 | succ n ih=>
  intro k w s
  unfold aL
  split
  ·exact lZ (AJ b k s) (ih _ _ _)
  ·exact id
theorem qt (S:ay) {s s1:Pz} (h:s1.L=s.L):W s (okR (ah (cn S) s1)).2.2:=qr (nd:=cn S) (by show (1:Int)≠3;decide) (pO h)
theorem GA (b:List UInt8):∀ (n:Nat) (j:Job) (q:Res),go b n j=some q→W j.s q.2.2:=by
 intro n
 induction n with
 | zero=>intro j q h;cases h
 | succ n ih=>
  intro j q h
  cases j with
  | branch inner s=>
   have hb:W s (ah (7,0,0,0,0,0,aj) (adv s 1)).2:=sf (nd:=(7,0,0,0,0,0,aj)) (by show (7:Int)≠3;decide) (pO rfl)
   unfold go at h
   split at h
   ·split at h
    ·injection h with h;subst h;exact hb
    ·exact lZ hb (ih _ _ h)
   ·exact ih (.loop inner [] true s) q h
  | loop inner l f s=>
   unfold go at h
   split at h
   ·cases hg:go b n (.piece f s) with
    | none=>rw [hg] at h;cases h
    | some q1=>
     have h1:W s q1.2.2:=ih _ _ hg
     obtain ⟨k,w,s'⟩:=q1
     rw [hg] at h
     dsimp only at h
     split at h
     ·exact lZ h1 (ih _ _ h)
     ·injection h with h;subst h;exact h1
   ·injection h with h
    subst h
    show W s (fo b inner l s).2.2
    unfold fo
    split
    ·exact id
    ·split
     ·exact B0 l s
     ·exact B0 l s
  | piece f s=>
   unfold go at h
   split at h
   ·injection h with h;subst h;exact id
   ·split at h
    ·injection h with h;subst h
     exact lZ (qt (s:=s) (s1:=adv s 1) (ofS [42]) rfl) (yO b _ _ _ _)
    ·cases hg:go b n (.atom s) with
     | none=>rw [hg] at h;cases h
     | some q1=>
      rw [hg] at h
      injection h with h
      subst h
      exact lZ (ih (.atom s) _ hg) (yO b _ _ _ _)
  | atom s=>
   unfold go at h
   cases hc:b[s.p]? with
   | none=>rw [hc] at h;cases h
   | some c=>
    rw [hc] at h
    dsimp only at h
    split at h
    ·exact ih (.escape s) q h
    ·split at h
     ·injection h with h;subst h;exact qt (s:=s) (s1:=adv s 1) _ rfl
     ·split at h
      ·split at h
       ·injection h with h;subst h;exact qt (s:=s) (s1:={ s with p:=(bn b (s.p+1)).2.1.toNat }) _ rfl
       ·injection h with h;subst h;exact id
      ·split at h
       ·injection h with h;subst h;exact qr (s:=s) (s1:=adv s 1) (nd:=(8,0,0,0,0,0,aj)) (by show (8:Int)≠3;decide) (pO rfl)
       ·injection h with h;subst h;exact qt (s:=s) (s1:=adv s 1) _ rfl
  | escape s=>
   unfold go at h
   cases hc:b[s.p+1]? with
   | none=>rw [hc] at h;injection h with h;subst h;exact id
   | some c=>
    rw [hc] at h
    dsimp only at h
    split at h
    ·exact ih (.group s) q h
    ·split at h
     ·split at h
      ·injection h with h;subst h;exact qr (s:=s) (s1:=adv s 2) (nd:=(6,0,0,0,0,(c.toNat:Int) - 48,aj)) (by show (6:Int)≠3;decide) (pO rfl)
      ·injection h with h;subst h;exact id
     ·split at h
      ·injection h with h;subst h;exact qt (s:=s) (s1:=adv (adv s 1) 1) _ rfl
      ·split at h
       ·injection h with h;subst h;exact id
       ·injection h with h;subst h;exact qt (s:=s) (s1:=adv (adv s 1) 1) _ rfl
  | group s=>
   unfold go at h
   split at h
   ·injection h with h;subst h;exact id
   ·cases hg:go b n (.branch true { s with g:=s.g+1,p:=s.p+2 }) with
    | none=>rw [hg] at h;cases h
    | some q1=>
     have h1:W s q1.2.2:=ih _ _ hg
     obtain ⟨k,w,s'⟩:=q1
     rw [hg] at h
     dsimp only at h
     split at h
     ·injection h with h
      subst h
      exact qr (nd:=(5,k,0,0,0,((s.g+1:Nat):Int),aj)) (by show (5:Int)≠3;decide) (lZ h1 (pO rfl))
     ·injection h with h
      subst h
      exact h1
theorem xy (L:List ND) (g:Int) {x:ND} (hx:x∈L) (h3:x.1=3):bU (L,g) false ([],false):=by
 obtain ⟨r,hr,ho⟩:=Bw false L g (fun _ z=>z.2.2=0→∀ x∈z.1.1,x.1≠3) fun τ hτ=>by
  obtain ⟨z,z1,z2,z3,_,z5,_⟩:=tH τ false hτ
  refine ⟨z,z1,z2,z3,fun h=>?_⟩
  obtain ⟨n,q,hq,rfl,hw⟩:=z5 rfl
  have e:kH q=((q.2.2.L,(q.2.2.g:Int)),0,0):=by unfold kH;rw [hw h]
  rw [e]
  exact GA τ n _ q hq fun x hx=>by cases hx
 rcases ho with rfl | ⟨τ,_,_,_,h⟩
 ·exact hr
 ·exact absurd h3 (h rfl x hx)
end Go.Proofs.YtnbceeholnkfeaaGreatDoor
