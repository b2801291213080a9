/- The parser of basic regular expressions as a function of a text. -/
import Derived.Test.YtpddiffpanihdaaBpA
namespace Go.Proofs.Ytpddiffpanihdaa
def alnB (n : Nat) : Bool := decide ((65 ≤ n ∧ n ≤ 90) ∨ (97 ≤ n ∧ n ≤ 122) ∨ (48 ≤ n ∧ n ≤ 57))
def isEndB (b : List UInt8) (p : Nat) : Bool := decide (p + 1 = b.length) || hasS b p [36, 92, 41]
def rep2 (b : List UInt8) (k lo hi : Int) (s : Pz) (at_ : Nat) : Res :=
  if (!(hasS b at_ [92, 125]) || (!(decide (hi = -1)) && decide (hi < lo))) = true then (0, [((s.p : Int), 13)], { s with p := at_ })
  else okR (putS (4, k, 0, lo, hi, 0, setZ) { s with p := at_ + 2 })
def repeatF (b : List UInt8) (k : Int) (s : Pz) : Res :=
  if hasS b s.p [42] = true then okR (putS (4, k, 0, 0, -1, 0, setZ) (adv s 1))
  else if (numR b (s.p + 2)).2.2 ≠ 0 then noR s 13
  else if b[(numR b (s.p + 2)).2.1.toNat]? = some 44 then
    (if (numR b ((numR b (s.p + 2)).2.1.toNat + 1)).2.2 = 0 then rep2 b k (numR b (s.p + 2)).1 (numR b ((numR b (s.p + 2)).2.1.toNat + 1)).1 s (numR b ((numR b (s.p + 2)).2.1.toNat + 1)).2.1.toNat
    else if (numR b ((numR b (s.p + 2)).2.1.toNat + 1)).2.2 = 9 then rep2 b k (numR b (s.p + 2)).1 (-1) s ((numR b (s.p + 2)).2.1.toNat + 1)
    else noR s 13)
  else rep2 b k (numR b (s.p + 2)).1 (numR b (s.p + 2)).1 s (numR b (s.p + 2)).2.1.toNat
def moreR (b : List UInt8) (k : Int) (w : List (Int × Int)) (s : Pz) : Bool := w.isEmpty && (decide (0 ≤ k) && (hasS b s.p [42] || hasS b s.p [92, 123]))
def endRp (k : Int) (w : List (Int × Int)) (s : Pz) : Res := (k, if (w.isEmpty && decide (k < 0)) = true then [((s.p : Int), 8)] else w, s)
def repsF (b : List UInt8) : Nat → Int → List (Int × Int) → Pz → Res
  | 0, k, w, s => endRp k w s
  | n + 1, k, w, s => if moreR b k w s = true then repsF b n (repeatF b k s).1 (repeatF b k s).2.1 (repeatF b k s).2.2 else endRp k w s
def repsR (b : List UInt8) (r : Res) : Res := repsF b (b.length + 1) r.1 r.2.1 r.2.2
inductive Job where
  | branch (inner : Bool) (s : Pz)
  | loop (inner : Bool) (l : List Int) (first : Bool) (s : Pz)
  | piece (first : Bool) (s : Pz)
  | atom (s : Pz)
  | escape (s : Pz)
  | group (s : Pz)
def branchE (b : List UInt8) (inner : Bool) (l : List Int) (s : Pz) : Res :=
  if (inner == decide ((s.p : Int) = (b.length : Int))) = true then noR s 14
  else if (catS l s).1 < 0 then noR (catS l s).2 8 else okR (catS l s)
def go (b : List UInt8) : Nat → Job → Option Res
  | 0, _ => none
  | n + 1, .branch inner s =>
    if hasS b s.p [94] = true then
      (if (putS (7, 0, 0, 0, 0, 0, setZ) (adv s 1)).1 < 0 then some (noR (putS (7, 0, 0, 0, 0, 0, setZ) (adv s 1)).2 8)
      else go b n (.loop inner [(putS (7, 0, 0, 0, 0, 0, setZ) (adv s 1)).1] true (putS (7, 0, 0, 0, 0, 0, setZ) (adv s 1)).2))
    else go b n (.loop inner [] true s)
  | n + 1, .loop inner l first s =>
    if s.p < b.length ∧ hasS b s.p [92, 41] = false then
      (match go b n (.piece first s) with
      | none => none
      | some (k, w, s') => if w.isEmpty = true then go b n (.loop inner (l ++ [k]) false s') else some (0, w, s'))
    else some (branchE b inner l s)
  | n + 1, .piece first s =>
    if first = true ∧ hasS b s.p [92, 123] = true then some (noR s 13)
    else if first = true ∧ hasS b s.p [42] = true then some (repsR b (oneR 42 s))
    else (go b n (.atom s)).map (repsR b)
  | n + 1, .atom s => match b[s.p]? with
    | none => none
    | some c => if c.toNat = 92 then go b n (.escape s)
      else if c.toNat = 46 then some (okR (putS (setN (notS z4)) (adv s 1)))
      else if c.toNat = 91 then (if (parseR b (s.p + 1)).2.2 = 0 then some (okR (putS (setN (parseR b (s.p + 1)).1) { s with p := (parseR b (s.p + 1)).2.1.toNat })) else some (noR s (parseR b (s.p + 1)).2.2))
      else if c.toNat = 36 ∧ isEndB b s.p = true then some (okR (putS (8, 0, 0, 0, 0, 0, setZ) (adv s 1)))
      else some (oneR c s)
  | n + 1, .escape s => match b[s.p + 1]? with
    | none => some (noR s 10)
    | some c => if c.toNat = 40 then go b n (.group s)
      else if 49 ≤ c.toNat ∧ c.toNat ≤ 57 then (if s.cl.l[c.toNat - 48]? = some true then some (okR (putS (6, 0, 0, 0, 0, (c.toNat : Int) - 48, setZ) (adv s 2))) else some (noR s 16))
      else if c.toNat = 110 then some (oneR 10 (adv s 1))
      else if alnB c.toNat = true then some (noR s 10)
      else some (oneR c (adv s 1))
  | n + 1, .group s =>
    if 9 ≤ s.g then some (noR s 17)
    else match go b n (.branch true { s with g := s.g + 1, p := s.p + 2 }) with
      | none => none
      | some (k, w, s') => if w.isEmpty = true then some (okR (putS (5, k, 0, 0, 0, ((s.g + 1 : Nat) : Int), setZ) { s' with p := s'.p + 2, cl := Arr.set s'.cl (s.g + 1) true })) else some (0, w, s')
end Go.Proofs.Ytpddiffpanihdaa
