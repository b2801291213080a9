/- The walk of ref.Parse. -/
import Derived.Test.YtcekiclbfjfagaaParse2
import Derived.Test.YtcekiclbfjfagaaCopy
namespace Go.Proofs.Ytcekiclbfjfagaa

/-- One part more; a text behind a text lengthens it. -/
def addP (out : List PartT) (p : PartT) : List PartT := match out.getLast? with
  | some q => if p.1 = 0 ∧ q.1 = 0 then out.dropLast ++ [(0, 0, q.2.2 ++ p.2.2)] else out ++ [p]
  | none => out ++ [p]
theorem addP_nil (p : PartT) : addP [] p = [p] := rfl
theorem addP_snoc (out : List PartT) (q p : PartT) : addP (out ++ [q]) p = if p.1 = 0 ∧ q.1 = 0 then out ++ [(0, 0, q.2.2 ++ p.2.2)] else out ++ [q] ++ [p] := by
  unfold addP
  rw [List.getLast?_concat, List.dropLast_concat]
def rGo (gs : Int) : Nat → List UInt8 → List PartT → List PartT × Int × Int
  | _, [], out => (out, 0, 0)
  | k, [c], out => if c.toNat = 38 then (addP out (1, 0, []), 0, 0) else if c.toNat = 92 then ([], k, 10) else (addP out (0, 0, [c]), 0, 0)
  | k, c :: d :: rest, out => if c.toNat = 38 then rGo gs (k + 1) (d :: rest) (addP out (1, 0, []))
    else if c.toNat = 92 then (if 49 ≤ d.toNat ∧ d.toNat ≤ 57 then (if gs < (d.toNat : Int) - 48 then ([], k, 16) else rGo gs (k + 2) rest (addP out (1, (d.toNat : Int) - 48, [])))
      else rGo gs (k + 2) rest (addP out (0, 0, [if d.toNat = 110 then 10 else d])))
    else rGo gs (k + 1) (d :: rest) (addP out (0, 0, [c]))
theorem rGo_amp {gs : Int} {k : Nat} {c : UInt8} {l : List UInt8} {out : List PartT} (h : c.toNat = 38) : rGo gs k (c :: l) out = rGo gs (k + 1) l (addP out (1, 0, [])) := by
  cases l with
  | nil => simp [rGo, h]
  | cons d r => simp [rGo, h]
theorem rGo_text {gs : Int} {k : Nat} {c : UInt8} {l : List UInt8} {out : List PartT} (h : c.toNat ≠ 38) (h2 : c.toNat ≠ 92) : rGo gs k (c :: l) out = rGo gs (k + 1) l (addP out (0, 0, [c])) := by
  cases l with
  | nil => simp [rGo, h, h2]
  | cons d r => simp [rGo, h, h2]
/-- Both parsers tell the same. -/
theorem pGo_rGo (gs : Int) : ∀ (n k : Nat) (l : List UInt8) (out : List PartT) (text : List UInt8), l.length ≤ n → (∀ q, out.getLast? = some q → q.1 = 1) → pGo gs k l out text = rGo gs k l (flushP out text) := by
  have hadd : ∀ (out : List PartT) (text : List UInt8) (c : UInt8), (∀ q, out.getLast? = some q → q.1 = 1) → flushP out (text ++ [c]) = addP (flushP out text) (0, 0, [c]) := by
    intro out text c ho
    have h1 : flushP out (text ++ [c]) = out ++ [(0, 0, text ++ [c])] := if_neg (by simp)
    rw [h1]
    unfold flushP
    split
    · rename_i h; subst h
      unfold addP
      cases hq : out.getLast? with
      | none => rfl
      | some q => simp [ho q hq]
    · rw [addP_snoc]; simp
  have hgr : ∀ (out : List PartT) (g : Int), addP out (1, g, []) = out ++ [(1, g, [])] := by
    intro out g
    unfold addP
    cases out.getLast? <;> simp
  intro n
  induction n with
  | zero =>
    intro k l out text hl ho
    obtain rfl : l = [] := List.eq_nil_of_length_eq_zero (by omega)
    rfl
  | succ n ih =>
    intro k l out text hl ho
    cases l with
    | nil => rfl
    | cons c l =>
      have hl' : l.length ≤ n := by simp at hl; omega
      by_cases h1 : c.toNat = 38
      · rw [pGo_amp h1, rGo_amp h1, ih _ _ _ _ hl' (by simp), flush_nil, hgr]
      · by_cases h2 : c.toNat = 92
        · cases l with
          | nil => simp [pGo, rGo, h2]
          | cons d r =>
            have hr : r.length ≤ n := by simp at hl'; omega
            simp only [pGo, rGo, if_neg h1, if_pos h2]
            split
            · split
              · rfl
              · rw [ih _ _ _ _ hr (by simp), flush_nil, hgr]
            · rw [ih _ _ _ _ hr ho, hadd _ _ _ ho]
        · rw [pGo_text h1 h2, rGo_text h1 h2, ih _ _ _ _ hl' ho, hadd _ _ _ ho]
theorem addP_le (out : List PartT) (p : PartT) {k : Nat} (h1 : out.length ≤ k) (h2 : ∀ q ∈ out, q.2.2.length ≤ k) (hp : p.2.2.length ≤ 1) : (addP out p).length ≤ k + 1 ∧ ∀ q ∈ addP out p, q.2.2.length ≤ k + 1 := by
  rcases List.eq_nil_or_concat out with rfl | ⟨xs, x, rfl⟩
  · rw [addP_nil]; exact ⟨by simp, fun q hq => by simp at hq; subst hq; omega⟩
  · rw [List.concat_eq_append] at h1 h2 ⊢
    rw [addP_snoc]
    have hx := h2 x (by simp)
    split
    · refine ⟨by simp at h1 ⊢; omega, fun q hq => ?_⟩
      simp at hq
      rcases hq with hq | rfl
      · have := h2 q (by simp [hq]); omega
      · simp; omega
    · refine ⟨by simp at h1 ⊢; omega, fun q hq => ?_⟩
      rcases List.mem_append.1 hq with hq | hq
      · have := h2 q hq; omega
      · simp at hq; subst hq; omega

theorem encP_len (l : List PartT) : ∀ r ∈ l.map encP, r.length = 3 := fun r hr => by obtain ⟨p, _, rfl⟩ := List.mem_map.1 hr; rfl
def RParInv (gs : Int) (b : List UInt8) (res : List PartT × Int × Int) (σ : St) (m : Nat) : Prop := ∃ k out id, k ≤ b.length ∧ m = b.length - k ∧ out.length ≤ k ∧ (∀ q ∈ out, q.2.2.length ≤ k) ∧ RbOk id out.length ∧ rGo gs k (b.drop k) out = res ∧
  σ = ⟨[(8, .v (.int .i64 (k : Int))), (0, .sl 1 none (b.map eb)), (1, .v (.int .i64 gs)), (7, .v (rbV id out.length))], rbB id 37 3 (out.map encP) ++ [], []⟩
/-- What the reference's Parse hands back. -/
abbrev RetR (res : List PartT × Int × Int) : Sd → List Bx → List Tk → Prop := fun r bx tk => r = .tup [.sl 3 none (res.1.map encP), .v (.int .i64 res.2.1), .v (.int .i64 res.2.2)] ∧ bx = [] ∧ tk = []
abbrev BPt (b : Nat) (p : PartT) : Bx := ⟨b, 37, encP p⟩
def RMid (gs : Int) (b : List UInt8) (res : List PartT × Int × Int) (k : Nat) (out : List PartT) (id : Option (Nat × Nat)) (bp : Nat) (σ : St) : Prop := ∃ k' p, k ≤ k' ∧ k' < b.length ∧ p.2.2.length ≤ 1 ∧ rGo gs (k' + 1) (b.drop (k' + 1)) (addP out p) = res ∧
  σ = ⟨[(8, .v (.int .i64 (k' : Int))), (0, .sl 1 none (b.map eb)), (1, .v (.int .i64 gs)), (7, .v (rbV id out.length)), (9, .v (.pointer (some ⟨bp, 0, none⟩)))], BPt bp p :: (rbB id 37 3 (out.map encP) ++ []), []⟩
def RMid0 (gs : Int) (b : List UInt8) (k : Nat) (c : UInt8) (out : List PartT) (id : Option (Nat × Nat)) (bp : Nat) (σ : St) : Prop := ∃ p0, (if c.toNat = 38 then (1, 0, []) else (0, 0, [c])) = p0 ∧
  σ = ⟨[(8, .v (.int .i64 (k : Int))), (0, .sl 1 none (b.map eb)), (1, .v (.int .i64 gs)), (7, .v (rbV id out.length)), (9, .v (.pointer (some ⟨bp, 0, none⟩)))], BPt bp p0 :: (rbB id 37 3 (out.map encP) ++ []), []⟩

set_option maxHeartbeats 2000000 in
theorem rparse_any (gs : Int) (b : List UInt8) (hl : b.length ≤ 5000) : Con Try.prog 17 [.sl 1 none (b.map eb), .v (.int .i64 gs)] [] [] (RetR (rGo gs 0 b [])) := by
  refine xenter Try.func17 rfl rfl fun g hg => ?_
  simp only [Try.ntmps17, slots]
  repeat
    first
    | refine xseq ?_
    | first
      | refine xregion ?_
      | refine xvalP (pv_move rfl) rfl rfl ?_
      | refine xvalP (pv_assign rfl) rfl rfl ?_
      | refine xvalP (pv_add1 rfl rfl (by omega)) rfl rfl ?_
      | refine xvalP (pv_sub1 rfl rfl (by omega)) rfl rfl ?_
      | refine xvalP (pv_bin2 rfl rfl rfl) rfl rfl ?_
      | refine xnil ?_
      | refine xthen ?_
      | refine xblock ?_
      | refine xval (qv_load ShpC.h rfl rfl rfl) rfl rfl ?_
      | refine xvalP (qv_fieldAddrB FldC.h rfl) rfl rfl ?_
      | refine xvalP (qv_fieldAddrE FldC.h rfl) rfl rfl ?_
      | refine xval (qv_loadB 0 ShpC.h rfl rfl rfl rfl) rfl rfl ?_
      | refine xval (qv_loadB 1 ShpC.h rfl rfl rfl rfl) rfl rfl ?_
      | refine xval (qv_loadB 2 ShpC.h rfl rfl rfl rfl) rfl rfl ?_
      | refine xval (qv_loadB 3 ShpC.h rfl rfl rfl rfl) rfl rfl ?_
      | refine xval (qv_loadB 4 ShpC.h rfl rfl rfl rfl) rfl rfl ?_
      | refine xvalP (pv_pick rfl rfl) rfl rfl ?_
      | refine xvalP (pv_len UndC.h rfl rfl) rfl rfl ?_
      | refine xvalP (pv_lenS UndC.h rfl) rfl rfl ?_
      | refine xvalP (pv_lenRb UndC.h rfl) rfl rfl ?_
      | refine xvalP (pv_lenV UndC.h rfl) rfl rfl ?_
      | refine xvalP (pv_not rfl) rfl rfl ?_
      | refine xvalP (pv_nilCheck rfl) rfl rfl ?_
      | refine xvalP (pv_nilCheckE rfl) rfl rfl ?_
      | refine xvalP (pv_nilCheckF rfl) rfl rfl ?_
      | refine xvalP (pv_extract rfl rfl) rfl rfl ?_
      | refine xvalP (qv_field FldC.h rfl rfl) rfl rfl ?_
      | refine xvalP (pv_indexAddr UndC.h ShpC.h rfl rfl rfl (map_at (by assumption))) rfl rfl ?_
      | refine xvalP (pv_indexAddrB UndC.h ShpC.h rfl rfl (Int.toNat_of_nonneg (by decide)).symm (by decide)) rfl rfl ?_
      | refine xvalP (pv_indexAddrE UndC.h ShpC.h rfl rfl (Int.toNat_of_nonneg (by decide)).symm (by decide)) rfl rfl ?_
      | refine xvalP (pv_eqB UndC.h rfl rfl) rfl rfl ?_
      | refine xvalP (pv_neB UndC.h rfl rfl) rfl rfl ?_
      | refine xvalP (pv_convI UndC.h UndC.h rfl) rfl rfl ?_
      | refine xvalP (pv_buildC StrC.h rfl rfl) rfl rfl ?_
      | refine xalloc InfC.h rfl rfl fun _ => ?_
      | refine xbuildSliceC UndC.h InfC.h rfl rfl rfl rfl rfl rfl fun _ => ?_
      | refine xvalP (pv_makeFuncC rfl) rfl rfl ?_
      | refine xbox rfl rfl rfl rfl fun _ => ?_
      | refine xstore 0 ShpC.h rfl rfl rfl rfl rfl rfl rfl ?_
      | refine xstore 1 ShpC.h rfl rfl rfl rfl rfl rfl rfl ?_
      | refine xstore 2 ShpC.h rfl rfl rfl rfl rfl rfl rfl ?_
      | refine xstore 3 ShpC.h rfl rfl rfl rfl rfl rfl rfl ?_
      | refine xstore 4 ShpC.h rfl rfl rfl rfl rfl rfl rfl ?_
      | refine xskip rfl rfl ?_
      | refine xskip0 rfl ?_
      | refine xcondT rfl ?_
      | refine xcondF rfl ?_
      | refine xskipc ?_
      | refine xexit ?_
      | refine xretc ?_
      | refine xin_normal ?_
      | refine xin_ret ?_
      | refine xthen_exit ?_
      | refine xthen_ret ?_
      | refine xin_same rfl ?_
      | refine xin_other rfl ?_
  refine xloop (RParInv gs b (rGo gs 0 b [])) ⟨0, [], none, Nat.zero_le _, rfl, Nat.le_refl _, by simp, rfl, rfl, rfl⟩ ⟨by (repeat (first | exact ImpT.nil _ | refine ImpT.cons rfl (by first | with_reducible exact Wk.refl _ | exact Wk.nil_own _ | exact Wk.nil_pl _ | with_reducible exact Wk.tok _ _ _ | exact Wk.tok _ _ _ | exact Wk.eq (by first | rfl | (simp []; done) | (simp []; omega))) ?_)), (SubM.of (by repeat (first | with_reducible exact SubB.refl _ | exact SubB.nil _ | refine SubB.keep rfl rfl (by first | with_reducible exact WkL.refl _ | ((repeat (first | exact WkL.nil | refine WkL.cons (by first | with_reducible exact Wk.refl _ | exact Wk.nil_own _ | exact Wk.nil_pl _ | with_reducible exact Wk.tok _ _ _ | exact Wk.tok _ _ _ | exact Wk.eq (by first | rfl | (simp []; done) | (simp []; omega))) ?_)); done) | exact WkL.refl _) ?_ | refine SubB.drop ?_)) (by repeat (first | exact SubT.nil _ | refine SubT.add ?_ | (refine SubT.keep ?_ ?_; focus (first | with_reducible rfl | (simp []; done))) | refine SubT.drop ?_)))⟩ ?_
  rintro _ m ⟨k, out, id, hk, rfl, hol, hob, hid, hres, rfl⟩
  have hbl : (b.map eb).length = b.length := List.length_map _
  repeat
    first
    | refine xseq ?_
    | first
      | refine xregion ?_
      | refine xvalP (pv_move rfl) rfl rfl ?_
      | refine xvalP (pv_assign rfl) rfl rfl ?_
      | refine xvalP (pv_add1 rfl rfl (by omega)) rfl rfl ?_
      | refine xvalP (pv_sub1 rfl rfl (by omega)) rfl rfl ?_
      | refine xvalP (pv_bin2 rfl rfl rfl) rfl rfl ?_
      | refine xnil ?_
      | refine xthen ?_
      | refine xblock ?_
      | refine xval (qv_load ShpC.h rfl rfl rfl) rfl rfl ?_
      | refine xvalP (qv_fieldAddrB FldC.h rfl) rfl rfl ?_
      | refine xvalP (qv_fieldAddrE FldC.h rfl) rfl rfl ?_
      | refine xval (qv_loadB 0 ShpC.h rfl rfl rfl rfl) rfl rfl ?_
      | refine xval (qv_loadB 1 ShpC.h rfl rfl rfl rfl) rfl rfl ?_
      | refine xval (qv_loadB 2 ShpC.h rfl rfl rfl rfl) rfl rfl ?_
      | refine xval (qv_loadB 3 ShpC.h rfl rfl rfl rfl) rfl rfl ?_
      | refine xval (qv_loadB 4 ShpC.h rfl rfl rfl rfl) rfl rfl ?_
      | refine xvalP (pv_pick rfl rfl) rfl rfl ?_
      | refine xvalP (pv_len UndC.h rfl rfl) rfl rfl ?_
      | refine xvalP (pv_lenS UndC.h rfl) rfl rfl ?_
      | refine xvalP (pv_lenRb UndC.h rfl) rfl rfl ?_
      | refine xvalP (pv_lenV UndC.h rfl) rfl rfl ?_
      | refine xvalP (pv_not rfl) rfl rfl ?_
      | refine xvalP (pv_nilCheck rfl) rfl rfl ?_
      | refine xvalP (pv_nilCheckE rfl) rfl rfl ?_
      | refine xvalP (pv_nilCheckF rfl) rfl rfl ?_
      | refine xvalP (pv_extract rfl rfl) rfl rfl ?_
      | refine xvalP (qv_field FldC.h rfl rfl) rfl rfl ?_
      | refine xvalP (pv_indexAddr UndC.h ShpC.h rfl rfl rfl (map_at (by assumption))) rfl rfl ?_
      | refine xvalP (pv_indexAddrB UndC.h ShpC.h rfl rfl (Int.toNat_of_nonneg (by decide)).symm (by decide)) rfl rfl ?_
      | refine xvalP (pv_indexAddrE UndC.h ShpC.h rfl rfl (Int.toNat_of_nonneg (by decide)).symm (by decide)) rfl rfl ?_
      | refine xvalP (pv_eqB UndC.h rfl rfl) rfl rfl ?_
      | refine xvalP (pv_neB UndC.h rfl rfl) rfl rfl ?_
      | refine xvalP (pv_convI UndC.h UndC.h rfl) rfl rfl ?_
      | refine xvalP (pv_buildC StrC.h rfl rfl) rfl rfl ?_
      | refine xalloc InfC.h rfl rfl fun _ => ?_
      | refine xbuildSliceC UndC.h InfC.h rfl rfl rfl rfl rfl rfl fun _ => ?_
      | refine xvalP (pv_makeFuncC rfl) rfl rfl ?_
      | refine xbox rfl rfl rfl rfl fun _ => ?_
      | refine xstore 0 ShpC.h rfl rfl rfl rfl rfl rfl rfl ?_
      | refine xstore 1 ShpC.h rfl rfl rfl rfl rfl rfl rfl ?_
      | refine xstore 2 ShpC.h rfl rfl rfl rfl rfl rfl rfl ?_
      | refine xstore 3 ShpC.h rfl rfl rfl rfl rfl rfl rfl ?_
      | refine xstore 4 ShpC.h rfl rfl rfl rfl rfl rfl rfl ?_
      | refine xskip rfl rfl ?_
      | refine xskip0 rfl ?_
      | refine xcondT rfl ?_
      | refine xcondF rfl ?_
      | refine xskipc ?_
      | refine xexit ?_
      | refine xretc ?_
      | refine xin_normal ?_
      | refine xin_ret ?_
      | refine xthen_exit ?_
      | refine xthen_ret ?_
      | refine xin_same rfl ?_
      | refine xin_other rfl ?_
  refine xcondD rfl (fun h1 => ?_) (fun h1 => ?_)
  · have hk1 : k < b.length := by simpa using h1
    obtain ⟨c, hc⟩ : ∃ c, b[k]? = some c := ⟨_, List.getElem?_eq_getElem hk1⟩
    have hd : b.drop k = c :: b.drop (k + 1) := by rw [List.drop_eq_getElem_cons hk1]; congr 1; exact (List.getElem?_eq_some_iff.1 hc).2
    rw [hd] at hres
    repeat
      first
      | refine xregion ?_
      | refine xvalP (pv_move rfl) rfl rfl ?_
      | refine xvalP (pv_assign rfl) rfl rfl ?_
      | refine xvalP (pv_add1 rfl rfl (by omega)) rfl rfl ?_
      | refine xvalP (pv_sub1 rfl rfl (by omega)) rfl rfl ?_
      | refine xvalP (pv_bin2 rfl rfl rfl) rfl rfl ?_
      | refine xnil ?_
      | refine xthen ?_
      | refine xblock ?_
      | refine xval (qv_load ShpC.h rfl rfl rfl) rfl rfl ?_
      | refine xvalP (qv_fieldAddrB FldC.h rfl) rfl rfl ?_
      | refine xvalP (qv_fieldAddrE FldC.h rfl) rfl rfl ?_
      | refine xval (qv_loadB 0 ShpC.h rfl rfl rfl rfl) rfl rfl ?_
      | refine xval (qv_loadB 1 ShpC.h rfl rfl rfl rfl) rfl rfl ?_
      | refine xval (qv_loadB 2 ShpC.h rfl rfl rfl rfl) rfl rfl ?_
      | refine xval (qv_loadB 3 ShpC.h rfl rfl rfl rfl) rfl rfl ?_
      | refine xval (qv_loadB 4 ShpC.h rfl rfl rfl rfl) rfl rfl ?_
      | refine xvalP (pv_pick rfl rfl) rfl rfl ?_
      | refine xvalP (pv_len UndC.h rfl rfl) rfl rfl ?_
      | refine xvalP (pv_lenS UndC.h rfl) rfl rfl ?_
      | refine xvalP (pv_lenRb UndC.h rfl) rfl rfl ?_
      | refine xvalP (pv_lenV UndC.h rfl) rfl rfl ?_
      | refine xvalP (pv_not rfl) rfl rfl ?_
      | refine xvalP (pv_nilCheck rfl) rfl rfl ?_
      | refine xvalP (pv_nilCheckE rfl) rfl rfl ?_
      | refine xvalP (pv_nilCheckF rfl) rfl rfl ?_
      | refine xvalP (pv_extract rfl rfl) rfl rfl ?_
      | refine xvalP (qv_field FldC.h rfl rfl) rfl rfl ?_
      | refine xvalP (pv_indexAddr UndC.h ShpC.h rfl rfl rfl (map_at (by assumption))) rfl rfl ?_
      | refine xvalP (pv_indexAddrB UndC.h ShpC.h rfl rfl (Int.toNat_of_nonneg (by decide)).symm (by decide)) rfl rfl ?_
      | refine xvalP (pv_indexAddrE UndC.h ShpC.h rfl rfl (Int.toNat_of_nonneg (by decide)).symm (by decide)) rfl rfl ?_
      | refine xvalP (pv_eqB UndC.h rfl rfl) rfl rfl ?_
      | refine xvalP (pv_neB UndC.h rfl rfl) rfl rfl ?_
      | refine xvalP (pv_convI UndC.h UndC.h rfl) rfl rfl ?_
      | refine xvalP (pv_buildC StrC.h rfl rfl) rfl rfl ?_
      | refine xalloc InfC.h rfl rfl fun _ => ?_
      | refine xbuildSliceC UndC.h InfC.h rfl rfl rfl rfl rfl rfl fun _ => ?_
      | refine xvalP (pv_makeFuncC rfl) rfl rfl ?_
      | refine xbox rfl rfl rfl rfl fun _ => ?_
      | refine xstore 0 ShpC.h rfl rfl rfl rfl rfl rfl rfl ?_
      | refine xstore 1 ShpC.h rfl rfl rfl rfl rfl rfl rfl ?_
      | refine xstore 2 ShpC.h rfl rfl rfl rfl rfl rfl rfl ?_
      | refine xstore 3 ShpC.h rfl rfl rfl rfl rfl rfl rfl ?_
      | refine xstore 4 ShpC.h rfl rfl rfl rfl rfl rfl rfl ?_
      | refine xskip rfl rfl ?_
      | refine xskip0 rfl ?_
      | refine xcondT rfl ?_
      | refine xcondF rfl ?_
      | refine xskipc ?_
      | refine xexit ?_
      | refine xretc ?_
      | refine xin_normal ?_
      | refine xin_ret ?_
      | refine xthen_exit ?_
      | refine xthen_ret ?_
      | refine xin_same rfl ?_
      | refine xin_other rfl ?_
    refine xseq ?_
    repeat
      first
      | refine xregion ?_
      | refine xvalP (pv_move rfl) rfl rfl ?_
      | refine xvalP (pv_assign rfl) rfl rfl ?_
      | refine xvalP (pv_add1 rfl rfl (by omega)) rfl rfl ?_
      | refine xvalP (pv_sub1 rfl rfl (by omega)) rfl rfl ?_
      | refine xvalP (pv_bin2 rfl rfl rfl) rfl rfl ?_
      | refine xnil ?_
      | refine xthen ?_
      | refine xblock ?_
      | refine xval (qv_load ShpC.h rfl rfl rfl) rfl rfl ?_
      | refine xvalP (qv_fieldAddrB FldC.h rfl) rfl rfl ?_
      | refine xvalP (qv_fieldAddrE FldC.h rfl) rfl rfl ?_
      | refine xval (qv_loadB 0 ShpC.h rfl rfl rfl rfl) rfl rfl ?_
      | refine xval (qv_loadB 1 ShpC.h rfl rfl rfl rfl) rfl rfl ?_
      | refine xval (qv_loadB 2 ShpC.h rfl rfl rfl rfl) rfl rfl ?_
      | refine xval (qv_loadB 3 ShpC.h rfl rfl rfl rfl) rfl rfl ?_
      | refine xval (qv_loadB 4 ShpC.h rfl rfl rfl rfl) rfl rfl ?_
      | refine xvalP (pv_pick rfl rfl) rfl rfl ?_
      | refine xvalP (pv_len UndC.h rfl rfl) rfl rfl ?_
      | refine xvalP (pv_lenS UndC.h rfl) rfl rfl ?_
      | refine xvalP (pv_lenRb UndC.h rfl) rfl rfl ?_
      | refine xvalP (pv_lenV UndC.h rfl) rfl rfl ?_
      | refine xvalP (pv_not rfl) rfl rfl ?_
      | refine xvalP (pv_nilCheck rfl) rfl rfl ?_
      | refine xvalP (pv_nilCheckE rfl) rfl rfl ?_
      | refine xvalP (pv_nilCheckF rfl) rfl rfl ?_
      | refine xvalP (pv_extract rfl rfl) rfl rfl ?_
      | refine xvalP (qv_field FldC.h rfl rfl) rfl rfl ?_
      | refine xvalP (pv_indexAddr UndC.h ShpC.h rfl rfl rfl (map_at (by assumption))) rfl rfl ?_
      | refine xvalP (pv_indexAddrB UndC.h ShpC.h rfl rfl (Int.toNat_of_nonneg (by decide)).symm (by decide)) rfl rfl ?_
      | refine xvalP (pv_indexAddrE UndC.h ShpC.h rfl rfl (Int.toNat_of_nonneg (by decide)).symm (by decide)) rfl rfl ?_
      | refine xvalP (pv_eqB UndC.h rfl rfl) rfl rfl ?_
      | refine xvalP (pv_neB UndC.h rfl rfl) rfl rfl ?_
      | refine xvalP (pv_convI UndC.h UndC.h rfl) rfl rfl ?_
      | refine xvalP (pv_buildC StrC.h rfl rfl) rfl rfl ?_
      | refine xalloc InfC.h rfl rfl fun _ => ?_
      | refine xbuildSliceC UndC.h InfC.h rfl rfl rfl rfl rfl rfl fun _ => ?_
      | refine xvalP (pv_makeFuncC rfl) rfl rfl ?_
      | refine xbox rfl rfl rfl rfl fun _ => ?_
      | refine xstore 0 ShpC.h rfl rfl rfl rfl rfl rfl rfl ?_
      | refine xstore 1 ShpC.h rfl rfl rfl rfl rfl rfl rfl ?_
      | refine xstore 2 ShpC.h rfl rfl rfl rfl rfl rfl rfl ?_
      | refine xstore 3 ShpC.h rfl rfl rfl rfl rfl rfl rfl ?_
      | refine xstore 4 ShpC.h rfl rfl rfl rfl rfl rfl rfl ?_
      | refine xskip rfl rfl ?_
      | refine xskip0 rfl ?_
      | refine xcondT rfl ?_
      | refine xcondF rfl ?_
      | refine xskipc ?_
      | refine xexit ?_
      | refine xretc ?_
      | refine xin_normal ?_
      | refine xin_ret ?_
      | refine xthen_exit ?_
      | refine xthen_ret ?_
      | refine xin_same rfl ?_
      | refine xin_other rfl ?_
    refine xseq ?_
    repeat
      first
      | refine xregion ?_
      | refine xvalP (pv_move rfl) rfl rfl ?_
      | refine xvalP (pv_assign rfl) rfl rfl ?_
      | refine xvalP (pv_add1 rfl rfl (by omega)) rfl rfl ?_
      | refine xvalP (pv_sub1 rfl rfl (by omega)) rfl rfl ?_
      | refine xvalP (pv_bin2 rfl rfl rfl) rfl rfl ?_
      | refine xnil ?_
      | refine xthen ?_
      | refine xblock ?_
      | refine xval (qv_load ShpC.h rfl rfl rfl) rfl rfl ?_
      | refine xvalP (qv_fieldAddrB FldC.h rfl) rfl rfl ?_
      | refine xvalP (qv_fieldAddrE FldC.h rfl) rfl rfl ?_
      | refine xval (qv_loadB 0 ShpC.h rfl rfl rfl rfl) rfl rfl ?_
      | refine xval (qv_loadB 1 ShpC.h rfl rfl rfl rfl) rfl rfl ?_
      | refine xval (qv_loadB 2 ShpC.h rfl rfl rfl rfl) rfl rfl ?_
      | refine xval (qv_loadB 3 ShpC.h rfl rfl rfl rfl) rfl rfl ?_
      | refine xval (qv_loadB 4 ShpC.h rfl rfl rfl rfl) rfl rfl ?_
      | refine xvalP (pv_pick rfl rfl) rfl rfl ?_
      | refine xvalP (pv_len UndC.h rfl rfl) rfl rfl ?_
      | refine xvalP (pv_lenS UndC.h rfl) rfl rfl ?_
      | refine xvalP (pv_lenRb UndC.h rfl) rfl rfl ?_
      | refine xvalP (pv_lenV UndC.h rfl) rfl rfl ?_
      | refine xvalP (pv_not rfl) rfl rfl ?_
      | refine xvalP (pv_nilCheck rfl) rfl rfl ?_
      | refine xvalP (pv_nilCheckE rfl) rfl rfl ?_
      | refine xvalP (pv_nilCheckF rfl) rfl rfl ?_
      | refine xvalP (pv_extract rfl rfl) rfl rfl ?_
      | refine xvalP (qv_field FldC.h rfl rfl) rfl rfl ?_
      | refine xvalP (pv_indexAddr UndC.h ShpC.h rfl rfl rfl (map_at (by assumption))) rfl rfl ?_
      | refine xvalP (pv_indexAddrB UndC.h ShpC.h rfl rfl (Int.toNat_of_nonneg (by decide)).symm (by decide)) rfl rfl ?_
      | refine xvalP (pv_indexAddrE UndC.h ShpC.h rfl rfl (Int.toNat_of_nonneg (by decide)).symm (by decide)) rfl rfl ?_
      | refine xvalP (pv_eqB UndC.h rfl rfl) rfl rfl ?_
      | refine xvalP (pv_neB UndC.h rfl rfl) rfl rfl ?_
      | refine xvalP (pv_convI UndC.h UndC.h rfl) rfl rfl ?_
      | refine xvalP (pv_buildC StrC.h rfl rfl) rfl rfl ?_
      | refine xalloc InfC.h rfl rfl fun _ => ?_
      | refine xbuildSliceC UndC.h InfC.h rfl rfl rfl rfl rfl rfl fun _ => ?_
      | refine xvalP (pv_makeFuncC rfl) rfl rfl ?_
      | refine xbox rfl rfl rfl rfl fun _ => ?_
      | refine xstore 0 ShpC.h rfl rfl rfl rfl rfl rfl rfl ?_
      | refine xstore 1 ShpC.h rfl rfl rfl rfl rfl rfl rfl ?_
      | refine xstore 2 ShpC.h rfl rfl rfl rfl rfl rfl rfl ?_
      | refine xstore 3 ShpC.h rfl rfl rfl rfl rfl rfl rfl ?_
      | refine xstore 4 ShpC.h rfl rfl rfl rfl rfl rfl rfl ?_
      | refine xskip rfl rfl ?_
      | refine xskip0 rfl ?_
      | refine xcondT rfl ?_
      | refine xcondF rfl ?_
      | refine xskipc ?_
      | refine xexit ?_
      | refine xretc ?_
      | refine xin_normal ?_
      | refine xin_ret ?_
      | refine xthen_exit ?_
      | refine xthen_ret ?_
      | refine xin_same rfl ?_
      | refine xin_other rfl ?_
    rename_i bp
    refine xseqM (RMid0 gs b k c out id bp) ?_ ?_
    · repeat
        first
        | refine xseq ?_
        | first
          | refine xregion ?_
          | refine xvalP (pv_move rfl) rfl rfl ?_
          | refine xvalP (pv_assign rfl) rfl rfl ?_
          | refine xvalP (pv_add1 rfl rfl (by omega)) rfl rfl ?_
          | refine xvalP (pv_sub1 rfl rfl (by omega)) rfl rfl ?_
          | refine xvalP (pv_bin2 rfl rfl rfl) rfl rfl ?_
          | refine xnil ?_
          | refine xthen ?_
          | refine xblock ?_
          | refine xval (qv_load ShpC.h rfl rfl rfl) rfl rfl ?_
          | refine xvalP (qv_fieldAddrB FldC.h rfl) rfl rfl ?_
          | refine xvalP (qv_fieldAddrE FldC.h rfl) rfl rfl ?_
          | refine xval (qv_loadB 0 ShpC.h rfl rfl rfl rfl) rfl rfl ?_
          | refine xval (qv_loadB 1 ShpC.h rfl rfl rfl rfl) rfl rfl ?_
          | refine xval (qv_loadB 2 ShpC.h rfl rfl rfl rfl) rfl rfl ?_
          | refine xval (qv_loadB 3 ShpC.h rfl rfl rfl rfl) rfl rfl ?_
          | refine xval (qv_loadB 4 ShpC.h rfl rfl rfl rfl) rfl rfl ?_
          | refine xvalP (pv_pick rfl rfl) rfl rfl ?_
          | refine xvalP (pv_len UndC.h rfl rfl) rfl rfl ?_
          | refine xvalP (pv_lenS UndC.h rfl) rfl rfl ?_
          | refine xvalP (pv_lenRb UndC.h rfl) rfl rfl ?_
          | refine xvalP (pv_lenV UndC.h rfl) rfl rfl ?_
          | refine xvalP (pv_not rfl) rfl rfl ?_
          | refine xvalP (pv_nilCheck rfl) rfl rfl ?_
          | refine xvalP (pv_nilCheckE rfl) rfl rfl ?_
          | refine xvalP (pv_nilCheckF rfl) rfl rfl ?_
          | refine xvalP (pv_extract rfl rfl) rfl rfl ?_
          | refine xvalP (qv_field FldC.h rfl rfl) rfl rfl ?_
          | refine xvalP (pv_indexAddr UndC.h ShpC.h rfl rfl rfl (map_at (by assumption))) rfl rfl ?_
          | refine xvalP (pv_indexAddrB UndC.h ShpC.h rfl rfl (Int.toNat_of_nonneg (by decide)).symm (by decide)) rfl rfl ?_
          | refine xvalP (pv_indexAddrE UndC.h ShpC.h rfl rfl (Int.toNat_of_nonneg (by decide)).symm (by decide)) rfl rfl ?_
          | refine xvalP (pv_eqB UndC.h rfl rfl) rfl rfl ?_
          | refine xvalP (pv_neB UndC.h rfl rfl) rfl rfl ?_
          | refine xvalP (pv_convI UndC.h UndC.h rfl) rfl rfl ?_
          | refine xvalP (pv_buildC StrC.h rfl rfl) rfl rfl ?_
          | refine xalloc InfC.h rfl rfl fun _ => ?_
          | refine xbuildSliceC UndC.h InfC.h rfl rfl rfl rfl rfl rfl fun _ => ?_
          | refine xvalP (pv_makeFuncC rfl) rfl rfl ?_
          | refine xbox rfl rfl rfl rfl fun _ => ?_
          | refine xstore 0 ShpC.h rfl rfl rfl rfl rfl rfl rfl ?_
          | refine xstore 1 ShpC.h rfl rfl rfl rfl rfl rfl rfl ?_
          | refine xstore 2 ShpC.h rfl rfl rfl rfl rfl rfl rfl ?_
          | refine xstore 3 ShpC.h rfl rfl rfl rfl rfl rfl rfl ?_
          | refine xstore 4 ShpC.h rfl rfl rfl rfl rfl rfl rfl ?_
          | refine xskip rfl rfl ?_
          | refine xskip0 rfl ?_
          | refine xcondT rfl ?_
          | refine xcondF rfl ?_
          | refine xskipc ?_
          | refine xexit ?_
          | refine xretc ?_
          | refine xin_normal ?_
          | refine xin_ret ?_
          | refine xthen_exit ?_
          | refine xthen_ret ?_
          | refine xin_same rfl ?_
          | refine xin_other rfl ?_
      refine xcondD rfl (fun h2 => ?_) (fun h2 => ?_)
      · have hc38 : c.toNat = 38 := by omega
        repeat
          first
          | refine xseq ?_
          | first
            | refine xregion ?_
            | refine xvalP (pv_move rfl) rfl rfl ?_
            | refine xvalP (pv_assign rfl) rfl rfl ?_
            | refine xvalP (pv_add1 rfl rfl (by omega)) rfl rfl ?_
            | refine xvalP (pv_sub1 rfl rfl (by omega)) rfl rfl ?_
            | refine xvalP (pv_bin2 rfl rfl rfl) rfl rfl ?_
            | refine xnil ?_
            | refine xthen ?_
            | refine xblock ?_
            | refine xval (qv_load ShpC.h rfl rfl rfl) rfl rfl ?_
            | refine xvalP (qv_fieldAddrB FldC.h rfl) rfl rfl ?_
            | refine xvalP (qv_fieldAddrE FldC.h rfl) rfl rfl ?_
            | refine xval (qv_loadB 0 ShpC.h rfl rfl rfl rfl) rfl rfl ?_
            | refine xval (qv_loadB 1 ShpC.h rfl rfl rfl rfl) rfl rfl ?_
            | refine xval (qv_loadB 2 ShpC.h rfl rfl rfl rfl) rfl rfl ?_
            | refine xval (qv_loadB 3 ShpC.h rfl rfl rfl rfl) rfl rfl ?_
            | refine xval (qv_loadB 4 ShpC.h rfl rfl rfl rfl) rfl rfl ?_
            | refine xvalP (pv_pick rfl rfl) rfl rfl ?_
            | refine xvalP (pv_len UndC.h rfl rfl) rfl rfl ?_
            | refine xvalP (pv_lenS UndC.h rfl) rfl rfl ?_
            | refine xvalP (pv_lenRb UndC.h rfl) rfl rfl ?_
            | refine xvalP (pv_lenV UndC.h rfl) rfl rfl ?_
            | refine xvalP (pv_not rfl) rfl rfl ?_
            | refine xvalP (pv_nilCheck rfl) rfl rfl ?_
            | refine xvalP (pv_nilCheckE rfl) rfl rfl ?_
            | refine xvalP (pv_nilCheckF rfl) rfl rfl ?_
            | refine xvalP (pv_extract rfl rfl) rfl rfl ?_
            | refine xvalP (qv_field FldC.h rfl rfl) rfl rfl ?_
            | refine xvalP (pv_indexAddr UndC.h ShpC.h rfl rfl rfl (map_at (by assumption))) rfl rfl ?_
            | refine xvalP (pv_indexAddrB UndC.h ShpC.h rfl rfl (Int.toNat_of_nonneg (by decide)).symm (by decide)) rfl rfl ?_
            | refine xvalP (pv_indexAddrE UndC.h ShpC.h rfl rfl (Int.toNat_of_nonneg (by decide)).symm (by decide)) rfl rfl ?_
            | refine xvalP (pv_eqB UndC.h rfl rfl) rfl rfl ?_
            | refine xvalP (pv_neB UndC.h rfl rfl) rfl rfl ?_
            | refine xvalP (pv_convI UndC.h UndC.h rfl) rfl rfl ?_
            | refine xvalP (pv_buildC StrC.h rfl rfl) rfl rfl ?_
            | refine xalloc InfC.h rfl rfl fun _ => ?_
            | refine xbuildSliceC UndC.h InfC.h rfl rfl rfl rfl rfl rfl fun _ => ?_
            | refine xvalP (pv_makeFuncC rfl) rfl rfl ?_
            | refine xbox rfl rfl rfl rfl fun _ => ?_
            | refine xstore 0 ShpC.h rfl rfl rfl rfl rfl rfl rfl ?_
            | refine xstore 1 ShpC.h rfl rfl rfl rfl rfl rfl rfl ?_
            | refine xstore 2 ShpC.h rfl rfl rfl rfl rfl rfl rfl ?_
            | refine xstore 3 ShpC.h rfl rfl rfl rfl rfl rfl rfl ?_
            | refine xstore 4 ShpC.h rfl rfl rfl rfl rfl rfl rfl ?_
            | refine xskip rfl rfl ?_
            | refine xskip0 rfl ?_
            | refine xcondT rfl ?_
            | refine xcondF rfl ?_
            | refine xskipc ?_
            | refine xexit ?_
            | refine xretc ?_
            | refine xin_normal ?_
            | refine xin_ret ?_
            | refine xthen_exit ?_
            | refine xthen_ret ?_
            | refine xin_same rfl ?_
            | refine xin_other rfl ?_
        exact xmeet ⟨_, if_pos hc38, rfl⟩ ⟨by (repeat (first | exact ImpT.nil _ | refine ImpT.cons rfl (by first | with_reducible exact Wk.refl _ | exact Wk.nil_own _ | exact Wk.nil_pl _ | with_reducible exact Wk.tok _ _ _ | exact Wk.tok _ _ _ | exact Wk.eq (by first | rfl | (simp []; done) | (simp []; omega))) ?_)), (SubM.of (by repeat (first | with_reducible exact SubB.refl _ | exact SubB.nil _ | refine SubB.keep rfl rfl (by first | with_reducible exact WkL.refl _ | ((repeat (first | exact WkL.nil | refine WkL.cons (by first | with_reducible exact Wk.refl _ | exact Wk.nil_own _ | exact Wk.nil_pl _ | with_reducible exact Wk.tok _ _ _ | exact Wk.tok _ _ _ | exact Wk.eq (by first | rfl | (simp []; done) | (simp []; omega))) ?_)); done) | exact WkL.refl _) ?_ | refine SubB.drop ?_)) (by repeat (first | exact SubT.nil _ | refine SubT.add ?_ | (refine SubT.keep ?_ ?_; focus (first | with_reducible rfl | (simp []; done))) | refine SubT.drop ?_)))⟩
      · have hc38 : c.toNat ≠ 38 := by omega
        repeat
          first
          | refine xseq ?_
          | first
            | refine xregion ?_
            | refine xvalP (pv_move rfl) rfl rfl ?_
            | refine xvalP (pv_assign rfl) rfl rfl ?_
            | refine xvalP (pv_add1 rfl rfl (by omega)) rfl rfl ?_
            | refine xvalP (pv_sub1 rfl rfl (by omega)) rfl rfl ?_
            | refine xvalP (pv_bin2 rfl rfl rfl) rfl rfl ?_
            | refine xnil ?_
            | refine xthen ?_
            | refine xblock ?_
            | refine xval (qv_load ShpC.h rfl rfl rfl) rfl rfl ?_
            | refine xvalP (qv_fieldAddrB FldC.h rfl) rfl rfl ?_
            | refine xvalP (qv_fieldAddrE FldC.h rfl) rfl rfl ?_
            | refine xval (qv_loadB 0 ShpC.h rfl rfl rfl rfl) rfl rfl ?_
            | refine xval (qv_loadB 1 ShpC.h rfl rfl rfl rfl) rfl rfl ?_
            | refine xval (qv_loadB 2 ShpC.h rfl rfl rfl rfl) rfl rfl ?_
            | refine xval (qv_loadB 3 ShpC.h rfl rfl rfl rfl) rfl rfl ?_
            | refine xval (qv_loadB 4 ShpC.h rfl rfl rfl rfl) rfl rfl ?_
            | refine xvalP (pv_pick rfl rfl) rfl rfl ?_
            | refine xvalP (pv_len UndC.h rfl rfl) rfl rfl ?_
            | refine xvalP (pv_lenS UndC.h rfl) rfl rfl ?_
            | refine xvalP (pv_lenRb UndC.h rfl) rfl rfl ?_
            | refine xvalP (pv_lenV UndC.h rfl) rfl rfl ?_
            | refine xvalP (pv_not rfl) rfl rfl ?_
            | refine xvalP (pv_nilCheck rfl) rfl rfl ?_
            | refine xvalP (pv_nilCheckE rfl) rfl rfl ?_
            | refine xvalP (pv_nilCheckF rfl) rfl rfl ?_
            | refine xvalP (pv_extract rfl rfl) rfl rfl ?_
            | refine xvalP (qv_field FldC.h rfl rfl) rfl rfl ?_
            | refine xvalP (pv_indexAddr UndC.h ShpC.h rfl rfl rfl (map_at (by assumption))) rfl rfl ?_
            | refine xvalP (pv_indexAddrB UndC.h ShpC.h rfl rfl (Int.toNat_of_nonneg (by decide)).symm (by decide)) rfl rfl ?_
            | refine xvalP (pv_indexAddrE UndC.h ShpC.h rfl rfl (Int.toNat_of_nonneg (by decide)).symm (by decide)) rfl rfl ?_
            | refine xvalP (pv_eqB UndC.h rfl rfl) rfl rfl ?_
            | refine xvalP (pv_neB UndC.h rfl rfl) rfl rfl ?_
            | refine xvalP (pv_convI UndC.h UndC.h rfl) rfl rfl ?_
            | refine xvalP (pv_buildC StrC.h rfl rfl) rfl rfl ?_
            | refine xalloc InfC.h rfl rfl fun _ => ?_
            | refine xbuildSliceC UndC.h InfC.h rfl rfl rfl rfl rfl rfl fun _ => ?_
            | refine xvalP (pv_makeFuncC rfl) rfl rfl ?_
            | refine xbox rfl rfl rfl rfl fun _ => ?_
            | refine xstore 0 ShpC.h rfl rfl rfl rfl rfl rfl rfl ?_
            | refine xstore 1 ShpC.h rfl rfl rfl rfl rfl rfl rfl ?_
            | refine xstore 2 ShpC.h rfl rfl rfl rfl rfl rfl rfl ?_
            | refine xstore 3 ShpC.h rfl rfl rfl rfl rfl rfl rfl ?_
            | refine xstore 4 ShpC.h rfl rfl rfl rfl rfl rfl rfl ?_
            | refine xskip rfl rfl ?_
            | refine xskip0 rfl ?_
            | refine xcondT rfl ?_
            | refine xcondF rfl ?_
            | refine xskipc ?_
            | refine xexit ?_
            | refine xretc ?_
            | refine xin_normal ?_
            | refine xin_ret ?_
            | refine xthen_exit ?_
            | refine xthen_ret ?_
            | refine xin_same rfl ?_
            | refine xin_other rfl ?_
        exact xmeet ⟨_, if_neg hc38, rfl⟩ ⟨by (repeat (first | exact ImpT.nil _ | refine ImpT.cons rfl (by first | with_reducible exact Wk.refl _ | exact Wk.nil_own _ | exact Wk.nil_pl _ | with_reducible exact Wk.tok _ _ _ | exact Wk.tok _ _ _ | exact Wk.eq (by first | rfl | (simp []; done) | (simp []; omega))) ?_)), (SubM.of (by repeat (first | with_reducible exact SubB.refl _ | exact SubB.nil _ | refine SubB.keep rfl rfl (by first | with_reducible exact WkL.refl _ | ((repeat (first | exact WkL.nil | refine WkL.cons (by first | with_reducible exact Wk.refl _ | exact Wk.nil_own _ | exact Wk.nil_pl _ | with_reducible exact Wk.tok _ _ _ | exact Wk.tok _ _ _ | exact Wk.eq (by first | rfl | (simp []; done) | (simp []; omega))) ?_)); done) | exact WkL.refl _) ?_ | refine SubB.drop ?_)) (by repeat (first | exact SubT.nil _ | refine SubT.add ?_ | (refine SubT.keep ?_ ?_; focus (first | with_reducible rfl | (simp []; done))) | refine SubT.drop ?_)))⟩
    · rintro _ ⟨p0, hp0, rfl⟩
      refine xseqM (RMid gs b (rGo gs 0 b []) k out id bp) ?_ ?_
      · repeat
          first
          | refine xseq ?_
          | first
            | refine xregion ?_
            | refine xvalP (pv_move rfl) rfl rfl ?_
            | refine xvalP (pv_assign rfl) rfl rfl ?_
            | refine xvalP (pv_add1 rfl rfl (by omega)) rfl rfl ?_
            | refine xvalP (pv_sub1 rfl rfl (by omega)) rfl rfl ?_
            | refine xvalP (pv_bin2 rfl rfl rfl) rfl rfl ?_
            | refine xnil ?_
            | refine xthen ?_
            | refine xblock ?_
            | refine xval (qv_load ShpC.h rfl rfl rfl) rfl rfl ?_
            | refine xvalP (qv_fieldAddrB FldC.h rfl) rfl rfl ?_
            | refine xvalP (qv_fieldAddrE FldC.h rfl) rfl rfl ?_
            | refine xval (qv_loadB 0 ShpC.h rfl rfl rfl rfl) rfl rfl ?_
            | refine xval (qv_loadB 1 ShpC.h rfl rfl rfl rfl) rfl rfl ?_
            | refine xval (qv_loadB 2 ShpC.h rfl rfl rfl rfl) rfl rfl ?_
            | refine xval (qv_loadB 3 ShpC.h rfl rfl rfl rfl) rfl rfl ?_
            | refine xval (qv_loadB 4 ShpC.h rfl rfl rfl rfl) rfl rfl ?_
            | refine xvalP (pv_pick rfl rfl) rfl rfl ?_
            | refine xvalP (pv_len UndC.h rfl rfl) rfl rfl ?_
            | refine xvalP (pv_lenS UndC.h rfl) rfl rfl ?_
            | refine xvalP (pv_lenRb UndC.h rfl) rfl rfl ?_
            | refine xvalP (pv_lenV UndC.h rfl) rfl rfl ?_
            | refine xvalP (pv_not rfl) rfl rfl ?_
            | refine xvalP (pv_nilCheck rfl) rfl rfl ?_
            | refine xvalP (pv_nilCheckE rfl) rfl rfl ?_
            | refine xvalP (pv_nilCheckF rfl) rfl rfl ?_
            | refine xvalP (pv_extract rfl rfl) rfl rfl ?_
            | refine xvalP (qv_field FldC.h rfl rfl) rfl rfl ?_
            | refine xvalP (pv_indexAddr UndC.h ShpC.h rfl rfl rfl (map_at (by assumption))) rfl rfl ?_
            | refine xvalP (pv_indexAddrB UndC.h ShpC.h rfl rfl (Int.toNat_of_nonneg (by decide)).symm (by decide)) rfl rfl ?_
            | refine xvalP (pv_indexAddrE UndC.h ShpC.h rfl rfl (Int.toNat_of_nonneg (by decide)).symm (by decide)) rfl rfl ?_
            | refine xvalP (pv_eqB UndC.h rfl rfl) rfl rfl ?_
            | refine xvalP (pv_neB UndC.h rfl rfl) rfl rfl ?_
            | refine xvalP (pv_convI UndC.h UndC.h rfl) rfl rfl ?_
            | refine xvalP (pv_buildC StrC.h rfl rfl) rfl rfl ?_
            | refine xalloc InfC.h rfl rfl fun _ => ?_
            | refine xbuildSliceC UndC.h InfC.h rfl rfl rfl rfl rfl rfl fun _ => ?_
            | refine xvalP (pv_makeFuncC rfl) rfl rfl ?_
            | refine xbox rfl rfl rfl rfl fun _ => ?_
            | refine xstore 0 ShpC.h rfl rfl rfl rfl rfl rfl rfl ?_
            | refine xstore 1 ShpC.h rfl rfl rfl rfl rfl rfl rfl ?_
            | refine xstore 2 ShpC.h rfl rfl rfl rfl rfl rfl rfl ?_
            | refine xstore 3 ShpC.h rfl rfl rfl rfl rfl rfl rfl ?_
            | refine xstore 4 ShpC.h rfl rfl rfl rfl rfl rfl rfl ?_
            | refine xskip rfl rfl ?_
            | refine xskip0 rfl ?_
            | refine xcondT rfl ?_
            | refine xcondF rfl ?_
            | refine xskipc ?_
            | refine xexit ?_
            | refine xretc ?_
            | refine xin_normal ?_
            | refine xin_ret ?_
            | refine xthen_exit ?_
            | refine xthen_ret ?_
            | refine xin_same rfl ?_
            | refine xin_other rfl ?_
        refine xcondD rfl (fun h3 => ?_) (fun h3 => ?_)
        · have he : c.toNat = 92 := by omega
          have hne : c.toNat ≠ 38 := by omega
          rw [if_neg hne] at hp0
          subst hp0
          repeat
            first
            | refine xseq ?_
            | first
              | refine xregion ?_
              | refine xvalP (pv_move rfl) rfl rfl ?_
              | refine xvalP (pv_assign rfl) rfl rfl ?_
              | refine xvalP (pv_add1 rfl rfl (by omega)) rfl rfl ?_
              | refine xvalP (pv_sub1 rfl rfl (by omega)) rfl rfl ?_
              | refine xvalP (pv_bin2 rfl rfl rfl) rfl rfl ?_
              | refine xnil ?_
              | refine xthen ?_
              | refine xblock ?_
              | refine xval (qv_load ShpC.h rfl rfl rfl) rfl rfl ?_
              | refine xvalP (qv_fieldAddrB FldC.h rfl) rfl rfl ?_
              | refine xvalP (qv_fieldAddrE FldC.h rfl) rfl rfl ?_
              | refine xval (qv_loadB 0 ShpC.h rfl rfl rfl rfl) rfl rfl ?_
              | refine xval (qv_loadB 1 ShpC.h rfl rfl rfl rfl) rfl rfl ?_
              | refine xval (qv_loadB 2 ShpC.h rfl rfl rfl rfl) rfl rfl ?_
              | refine xval (qv_loadB 3 ShpC.h rfl rfl rfl rfl) rfl rfl ?_
              | refine xval (qv_loadB 4 ShpC.h rfl rfl rfl rfl) rfl rfl ?_
              | refine xvalP (pv_pick rfl rfl) rfl rfl ?_
              | refine xvalP (pv_len UndC.h rfl rfl) rfl rfl ?_
              | refine xvalP (pv_lenS UndC.h rfl) rfl rfl ?_
              | refine xvalP (pv_lenRb UndC.h rfl) rfl rfl ?_
              | refine xvalP (pv_lenV UndC.h rfl) rfl rfl ?_
              | refine xvalP (pv_not rfl) rfl rfl ?_
              | refine xvalP (pv_nilCheck rfl) rfl rfl ?_
              | refine xvalP (pv_nilCheckE rfl) rfl rfl ?_
              | refine xvalP (pv_nilCheckF rfl) rfl rfl ?_
              | refine xvalP (pv_extract rfl rfl) rfl rfl ?_
              | refine xvalP (qv_field FldC.h rfl rfl) rfl rfl ?_
              | refine xvalP (pv_indexAddr UndC.h ShpC.h rfl rfl rfl (map_at (by assumption))) rfl rfl ?_
              | refine xvalP (pv_indexAddrB UndC.h ShpC.h rfl rfl (Int.toNat_of_nonneg (by decide)).symm (by decide)) rfl rfl ?_
              | refine xvalP (pv_indexAddrE UndC.h ShpC.h rfl rfl (Int.toNat_of_nonneg (by decide)).symm (by decide)) rfl rfl ?_
              | refine xvalP (pv_eqB UndC.h rfl rfl) rfl rfl ?_
              | refine xvalP (pv_neB UndC.h rfl rfl) rfl rfl ?_
              | refine xvalP (pv_convI UndC.h UndC.h rfl) rfl rfl ?_
              | refine xvalP (pv_buildC StrC.h rfl rfl) rfl rfl ?_
              | refine xalloc InfC.h rfl rfl fun _ => ?_
              | refine xbuildSliceC UndC.h InfC.h rfl rfl rfl rfl rfl rfl fun _ => ?_
              | refine xvalP (pv_makeFuncC rfl) rfl rfl ?_
              | refine xbox rfl rfl rfl rfl fun _ => ?_
              | refine xstore 0 ShpC.h rfl rfl rfl rfl rfl rfl rfl ?_
              | refine xstore 1 ShpC.h rfl rfl rfl rfl rfl rfl rfl ?_
              | refine xstore 2 ShpC.h rfl rfl rfl rfl rfl rfl rfl ?_
              | refine xstore 3 ShpC.h rfl rfl rfl rfl rfl rfl rfl ?_
              | refine xstore 4 ShpC.h rfl rfl rfl rfl rfl rfl rfl ?_
              | refine xskip rfl rfl ?_
              | refine xskip0 rfl ?_
              | refine xcondT rfl ?_
              | refine xcondF rfl ?_
              | refine xskipc ?_
              | refine xexit ?_
              | refine xretc ?_
              | refine xin_normal ?_
              | refine xin_ret ?_
              | refine xthen_exit ?_
              | refine xthen_ret ?_
              | refine xin_same rfl ?_
              | refine xin_other rfl ?_
          refine xcondD rfl (fun h4 => ?_) (fun h4 => ?_)
          · have hlen : b.drop (k + 1) = [] := List.drop_eq_nil_of_le (by omega)
            rw [hlen] at hres
            have hr2 : rGo gs 0 b [] = ([], (k : Int), 10) := by rw [← hres]; simp [rGo, hne, he]
            repeat
              first
              | refine xseq ?_
              | first
                | refine xregion ?_
                | refine xvalP (pv_move rfl) rfl rfl ?_
                | refine xvalP (pv_assign rfl) rfl rfl ?_
                | refine xvalP (pv_add1 rfl rfl (by omega)) rfl rfl ?_
                | refine xvalP (pv_sub1 rfl rfl (by omega)) rfl rfl ?_
                | refine xvalP (pv_bin2 rfl rfl rfl) rfl rfl ?_
                | refine xnil ?_
                | refine xthen ?_
                | refine xblock ?_
                | refine xval (qv_load ShpC.h rfl rfl rfl) rfl rfl ?_
                | refine xvalP (qv_fieldAddrB FldC.h rfl) rfl rfl ?_
                | refine xvalP (qv_fieldAddrE FldC.h rfl) rfl rfl ?_
                | refine xval (qv_loadB 0 ShpC.h rfl rfl rfl rfl) rfl rfl ?_
                | refine xval (qv_loadB 1 ShpC.h rfl rfl rfl rfl) rfl rfl ?_
                | refine xval (qv_loadB 2 ShpC.h rfl rfl rfl rfl) rfl rfl ?_
                | refine xval (qv_loadB 3 ShpC.h rfl rfl rfl rfl) rfl rfl ?_
                | refine xval (qv_loadB 4 ShpC.h rfl rfl rfl rfl) rfl rfl ?_
                | refine xvalP (pv_pick rfl rfl) rfl rfl ?_
                | refine xvalP (pv_len UndC.h rfl rfl) rfl rfl ?_
                | refine xvalP (pv_lenS UndC.h rfl) rfl rfl ?_
                | refine xvalP (pv_lenRb UndC.h rfl) rfl rfl ?_
                | refine xvalP (pv_lenV UndC.h rfl) rfl rfl ?_
                | refine xvalP (pv_not rfl) rfl rfl ?_
                | refine xvalP (pv_nilCheck rfl) rfl rfl ?_
                | refine xvalP (pv_nilCheckE rfl) rfl rfl ?_
                | refine xvalP (pv_nilCheckF rfl) rfl rfl ?_
                | refine xvalP (pv_extract rfl rfl) rfl rfl ?_
                | refine xvalP (qv_field FldC.h rfl rfl) rfl rfl ?_
                | refine xvalP (pv_indexAddr UndC.h ShpC.h rfl rfl rfl (map_at (by assumption))) rfl rfl ?_
                | refine xvalP (pv_indexAddrB UndC.h ShpC.h rfl rfl (Int.toNat_of_nonneg (by decide)).symm (by decide)) rfl rfl ?_
                | refine xvalP (pv_indexAddrE UndC.h ShpC.h rfl rfl (Int.toNat_of_nonneg (by decide)).symm (by decide)) rfl rfl ?_
                | refine xvalP (pv_eqB UndC.h rfl rfl) rfl rfl ?_
                | refine xvalP (pv_neB UndC.h rfl rfl) rfl rfl ?_
                | refine xvalP (pv_convI UndC.h UndC.h rfl) rfl rfl ?_
                | refine xvalP (pv_buildC StrC.h rfl rfl) rfl rfl ?_
                | refine xalloc InfC.h rfl rfl fun _ => ?_
                | refine xbuildSliceC UndC.h InfC.h rfl rfl rfl rfl rfl rfl fun _ => ?_
                | refine xvalP (pv_makeFuncC rfl) rfl rfl ?_
                | refine xbox rfl rfl rfl rfl fun _ => ?_
                | refine xstore 0 ShpC.h rfl rfl rfl rfl rfl rfl rfl ?_
                | refine xstore 1 ShpC.h rfl rfl rfl rfl rfl rfl rfl ?_
                | refine xstore 2 ShpC.h rfl rfl rfl rfl rfl rfl rfl ?_
                | refine xstore 3 ShpC.h rfl rfl rfl rfl rfl rfl rfl ?_
                | refine xstore 4 ShpC.h rfl rfl rfl rfl rfl rfl rfl ?_
                | refine xskip rfl rfl ?_
                | refine xskip0 rfl ?_
                | refine xcondT rfl ?_
                | refine xcondF rfl ?_
                | refine xskipc ?_
                | refine xexit ?_
                | refine xretc ?_
                | refine xin_normal ?_
                | refine xin_ret ?_
                | refine xthen_exit ?_
                | refine xthen_ret ?_
                | refine xin_same rfl ?_
                | refine xin_other rfl ?_
            exact xret3 hg rfl rfl (.nil_pl 3) rfl (.refl _) rfl (.eq rfl) (SubM.none _ _) ⟨by rw [hr2]; rfl, rfl, rfl⟩
          · have hk2 : k + 1 < b.length := by omega
            obtain ⟨d, hdd⟩ : ∃ d, b[k + 1]? = some d := ⟨_, List.getElem?_eq_getElem hk2⟩
            have hd2 : b.drop (k + 1) = d :: b.drop (k + 2) := by rw [List.drop_eq_getElem_cons hk2]; congr 1; exact (List.getElem?_eq_some_iff.1 hdd).2
            rw [hd2] at hres
            simp only [rGo, if_neg hne, if_pos he] at hres
            repeat
              first
              | refine xseq ?_
              | first
                | refine xregion ?_
                | refine xvalP (pv_move rfl) rfl rfl ?_
                | refine xvalP (pv_assign rfl) rfl rfl ?_
                | refine xvalP (pv_add1 rfl rfl (by omega)) rfl rfl ?_
                | refine xvalP (pv_sub1 rfl rfl (by omega)) rfl rfl ?_
                | refine xvalP (pv_bin2 rfl rfl rfl) rfl rfl ?_
                | refine xnil ?_
                | refine xthen ?_
                | refine xblock ?_
                | refine xval (qv_load ShpC.h rfl rfl rfl) rfl rfl ?_
                | refine xvalP (qv_fieldAddrB FldC.h rfl) rfl rfl ?_
                | refine xvalP (qv_fieldAddrE FldC.h rfl) rfl rfl ?_
                | refine xval (qv_loadB 0 ShpC.h rfl rfl rfl rfl) rfl rfl ?_
                | refine xval (qv_loadB 1 ShpC.h rfl rfl rfl rfl) rfl rfl ?_
                | refine xval (qv_loadB 2 ShpC.h rfl rfl rfl rfl) rfl rfl ?_
                | refine xval (qv_loadB 3 ShpC.h rfl rfl rfl rfl) rfl rfl ?_
                | refine xval (qv_loadB 4 ShpC.h rfl rfl rfl rfl) rfl rfl ?_
                | refine xvalP (pv_pick rfl rfl) rfl rfl ?_
                | refine xvalP (pv_len UndC.h rfl rfl) rfl rfl ?_
                | refine xvalP (pv_lenS UndC.h rfl) rfl rfl ?_
                | refine xvalP (pv_lenRb UndC.h rfl) rfl rfl ?_
                | refine xvalP (pv_lenV UndC.h rfl) rfl rfl ?_
                | refine xvalP (pv_not rfl) rfl rfl ?_
                | refine xvalP (pv_nilCheck rfl) rfl rfl ?_
                | refine xvalP (pv_nilCheckE rfl) rfl rfl ?_
                | refine xvalP (pv_nilCheckF rfl) rfl rfl ?_
                | refine xvalP (pv_extract rfl rfl) rfl rfl ?_
                | refine xvalP (qv_field FldC.h rfl rfl) rfl rfl ?_
                | refine xvalP (pv_indexAddr UndC.h ShpC.h rfl rfl rfl (map_at (by assumption))) rfl rfl ?_
                | refine xvalP (pv_indexAddrB UndC.h ShpC.h rfl rfl (Int.toNat_of_nonneg (by decide)).symm (by decide)) rfl rfl ?_
                | refine xvalP (pv_indexAddrE UndC.h ShpC.h rfl rfl (Int.toNat_of_nonneg (by decide)).symm (by decide)) rfl rfl ?_
                | refine xvalP (pv_eqB UndC.h rfl rfl) rfl rfl ?_
                | refine xvalP (pv_neB UndC.h rfl rfl) rfl rfl ?_
                | refine xvalP (pv_convI UndC.h UndC.h rfl) rfl rfl ?_
                | refine xvalP (pv_buildC StrC.h rfl rfl) rfl rfl ?_
                | refine xalloc InfC.h rfl rfl fun _ => ?_
                | refine xbuildSliceC UndC.h InfC.h rfl rfl rfl rfl rfl rfl fun _ => ?_
                | refine xvalP (pv_makeFuncC rfl) rfl rfl ?_
                | refine xbox rfl rfl rfl rfl fun _ => ?_
                | refine xstore 0 ShpC.h rfl rfl rfl rfl rfl rfl rfl ?_
                | refine xstore 1 ShpC.h rfl rfl rfl rfl rfl rfl rfl ?_
                | refine xstore 2 ShpC.h rfl rfl rfl rfl rfl rfl rfl ?_
                | refine xstore 3 ShpC.h rfl rfl rfl rfl rfl rfl rfl ?_
                | refine xstore 4 ShpC.h rfl rfl rfl rfl rfl rfl rfl ?_
                | refine xskip rfl rfl ?_
                | refine xskip0 rfl ?_
                | refine xcondT rfl ?_
                | refine xcondF rfl ?_
                | refine xskipc ?_
                | refine xexit ?_
                | refine xretc ?_
                | refine xin_normal ?_
                | refine xin_ret ?_
                | refine xthen_exit ?_
                | refine xthen_ret ?_
                | refine xin_same rfl ?_
                | refine xin_other rfl ?_
            have hdig : ∀ (h : 49 ≤ d.toNat ∧ d.toNat ≤ 57), (if gs < (d.toNat : Int) - 48 then ([], (k : Int), 16) else rGo gs (k + 2) (b.drop (k + 2)) (addP out (1, (d.toNat : Int) - 48, []))) = rGo gs 0 b [] := fun h => by rw [if_pos h] at hres; exact hres
            have hoth : ∀ (h : ¬ (49 ≤ d.toNat ∧ d.toNat ≤ 57)), rGo gs (k + 2) (b.drop (k + 2)) (addP out (0, 0, [if d.toNat = 110 then 10 else d])) = rGo gs 0 b [] := fun h => by rw [if_neg h] at hres; exact hres
            refine xcondD rfl (fun h5 => ?_) (fun h5 => ?_)
            · have hr := hoth (by omega)
              rw [if_pos (by omega)] at hr
              repeat
                first
                | refine xseq ?_
                | first
                  | refine xregion ?_
                  | refine xvalP (pv_move rfl) rfl rfl ?_
                  | refine xvalP (pv_assign rfl) rfl rfl ?_
                  | refine xvalP (pv_add1 rfl rfl (by omega)) rfl rfl ?_
                  | refine xvalP (pv_sub1 rfl rfl (by omega)) rfl rfl ?_
                  | refine xvalP (pv_bin2 rfl rfl rfl) rfl rfl ?_
                  | refine xnil ?_
                  | refine xthen ?_
                  | refine xblock ?_
                  | refine xval (qv_load ShpC.h rfl rfl rfl) rfl rfl ?_
                  | refine xvalP (qv_fieldAddrB FldC.h rfl) rfl rfl ?_
                  | refine xvalP (qv_fieldAddrE FldC.h rfl) rfl rfl ?_
                  | refine xval (qv_loadB 0 ShpC.h rfl rfl rfl rfl) rfl rfl ?_
                  | refine xval (qv_loadB 1 ShpC.h rfl rfl rfl rfl) rfl rfl ?_
                  | refine xval (qv_loadB 2 ShpC.h rfl rfl rfl rfl) rfl rfl ?_
                  | refine xval (qv_loadB 3 ShpC.h rfl rfl rfl rfl) rfl rfl ?_
                  | refine xval (qv_loadB 4 ShpC.h rfl rfl rfl rfl) rfl rfl ?_
                  | refine xvalP (pv_pick rfl rfl) rfl rfl ?_
                  | refine xvalP (pv_len UndC.h rfl rfl) rfl rfl ?_
                  | refine xvalP (pv_lenS UndC.h rfl) rfl rfl ?_
                  | refine xvalP (pv_lenRb UndC.h rfl) rfl rfl ?_
                  | refine xvalP (pv_lenV UndC.h rfl) rfl rfl ?_
                  | refine xvalP (pv_not rfl) rfl rfl ?_
                  | refine xvalP (pv_nilCheck rfl) rfl rfl ?_
                  | refine xvalP (pv_nilCheckE rfl) rfl rfl ?_
                  | refine xvalP (pv_nilCheckF rfl) rfl rfl ?_
                  | refine xvalP (pv_extract rfl rfl) rfl rfl ?_
                  | refine xvalP (qv_field FldC.h rfl rfl) rfl rfl ?_
                  | refine xvalP (pv_indexAddr UndC.h ShpC.h rfl rfl rfl (map_at (by assumption))) rfl rfl ?_
                  | refine xvalP (pv_indexAddrB UndC.h ShpC.h rfl rfl (Int.toNat_of_nonneg (by decide)).symm (by decide)) rfl rfl ?_
                  | refine xvalP (pv_indexAddrE UndC.h ShpC.h rfl rfl (Int.toNat_of_nonneg (by decide)).symm (by decide)) rfl rfl ?_
                  | refine xvalP (pv_eqB UndC.h rfl rfl) rfl rfl ?_
                  | refine xvalP (pv_neB UndC.h rfl rfl) rfl rfl ?_
                  | refine xvalP (pv_convI UndC.h UndC.h rfl) rfl rfl ?_
                  | refine xvalP (pv_buildC StrC.h rfl rfl) rfl rfl ?_
                  | refine xalloc InfC.h rfl rfl fun _ => ?_
                  | refine xbuildSliceC UndC.h InfC.h rfl rfl rfl rfl rfl rfl fun _ => ?_
                  | refine xvalP (pv_makeFuncC rfl) rfl rfl ?_
                  | refine xbox rfl rfl rfl rfl fun _ => ?_
                  | refine xstore 0 ShpC.h rfl rfl rfl rfl rfl rfl rfl ?_
                  | refine xstore 1 ShpC.h rfl rfl rfl rfl rfl rfl rfl ?_
                  | refine xstore 2 ShpC.h rfl rfl rfl rfl rfl rfl rfl ?_
                  | refine xstore 3 ShpC.h rfl rfl rfl rfl rfl rfl rfl ?_
                  | refine xstore 4 ShpC.h rfl rfl rfl rfl rfl rfl rfl ?_
                  | refine xskip rfl rfl ?_
                  | refine xskip0 rfl ?_
                  | refine xcondT rfl ?_
                  | refine xcondF rfl ?_
                  | refine xskipc ?_
                  | refine xexit ?_
                  | refine xretc ?_
                  | refine xin_normal ?_
                  | refine xin_ret ?_
                  | refine xthen_exit ?_
                  | refine xthen_ret ?_
                  | refine xin_same rfl ?_
                  | refine xin_other rfl ?_
              refine xguardD rfl rfl (fun h6 => ?_) (fun h6 => absurd (show (49 : Int) ≤ d.toNat by omega) h6)
              repeat
                first
                | refine xseq ?_
                | first
                  | refine xregion ?_
                  | refine xvalP (pv_move rfl) rfl rfl ?_
                  | refine xvalP (pv_assign rfl) rfl rfl ?_
                  | refine xvalP (pv_add1 rfl rfl (by omega)) rfl rfl ?_
                  | refine xvalP (pv_sub1 rfl rfl (by omega)) rfl rfl ?_
                  | refine xvalP (pv_bin2 rfl rfl rfl) rfl rfl ?_
                  | refine xnil ?_
                  | refine xthen ?_
                  | refine xblock ?_
                  | refine xval (qv_load ShpC.h rfl rfl rfl) rfl rfl ?_
                  | refine xvalP (qv_fieldAddrB FldC.h rfl) rfl rfl ?_
                  | refine xvalP (qv_fieldAddrE FldC.h rfl) rfl rfl ?_
                  | refine xval (qv_loadB 0 ShpC.h rfl rfl rfl rfl) rfl rfl ?_
                  | refine xval (qv_loadB 1 ShpC.h rfl rfl rfl rfl) rfl rfl ?_
                  | refine xval (qv_loadB 2 ShpC.h rfl rfl rfl rfl) rfl rfl ?_
                  | refine xval (qv_loadB 3 ShpC.h rfl rfl rfl rfl) rfl rfl ?_
                  | refine xval (qv_loadB 4 ShpC.h rfl rfl rfl rfl) rfl rfl ?_
                  | refine xvalP (pv_pick rfl rfl) rfl rfl ?_
                  | refine xvalP (pv_len UndC.h rfl rfl) rfl rfl ?_
                  | refine xvalP (pv_lenS UndC.h rfl) rfl rfl ?_
                  | refine xvalP (pv_lenRb UndC.h rfl) rfl rfl ?_
                  | refine xvalP (pv_lenV UndC.h rfl) rfl rfl ?_
                  | refine xvalP (pv_not rfl) rfl rfl ?_
                  | refine xvalP (pv_nilCheck rfl) rfl rfl ?_
                  | refine xvalP (pv_nilCheckE rfl) rfl rfl ?_
                  | refine xvalP (pv_nilCheckF rfl) rfl rfl ?_
                  | refine xvalP (pv_extract rfl rfl) rfl rfl ?_
                  | refine xvalP (qv_field FldC.h rfl rfl) rfl rfl ?_
                  | refine xvalP (pv_indexAddr UndC.h ShpC.h rfl rfl rfl (map_at (by assumption))) rfl rfl ?_
                  | refine xvalP (pv_indexAddrB UndC.h ShpC.h rfl rfl (Int.toNat_of_nonneg (by decide)).symm (by decide)) rfl rfl ?_
                  | refine xvalP (pv_indexAddrE UndC.h ShpC.h rfl rfl (Int.toNat_of_nonneg (by decide)).symm (by decide)) rfl rfl ?_
                  | refine xvalP (pv_eqB UndC.h rfl rfl) rfl rfl ?_
                  | refine xvalP (pv_neB UndC.h rfl rfl) rfl rfl ?_
                  | refine xvalP (pv_convI UndC.h UndC.h rfl) rfl rfl ?_
                  | refine xvalP (pv_buildC StrC.h rfl rfl) rfl rfl ?_
                  | refine xalloc InfC.h rfl rfl fun _ => ?_
                  | refine xbuildSliceC UndC.h InfC.h rfl rfl rfl rfl rfl rfl fun _ => ?_
                  | refine xvalP (pv_makeFuncC rfl) rfl rfl ?_
                  | refine xbox rfl rfl rfl rfl fun _ => ?_
                  | refine xstore 0 ShpC.h rfl rfl rfl rfl rfl rfl rfl ?_
                  | refine xstore 1 ShpC.h rfl rfl rfl rfl rfl rfl rfl ?_
                  | refine xstore 2 ShpC.h rfl rfl rfl rfl rfl rfl rfl ?_
                  | refine xstore 3 ShpC.h rfl rfl rfl rfl rfl rfl rfl ?_
                  | refine xstore 4 ShpC.h rfl rfl rfl rfl rfl rfl rfl ?_
                  | refine xskip rfl rfl ?_
                  | refine xskip0 rfl ?_
                  | refine xcondT rfl ?_
                  | refine xcondF rfl ?_
                  | refine xskipc ?_
                  | refine xexit ?_
                  | refine xretc ?_
                  | refine xin_normal ?_
                  | refine xin_ret ?_
                  | refine xthen_exit ?_
                  | refine xthen_ret ?_
                  | refine xin_same rfl ?_
                  | refine xin_other rfl ?_
              refine xcondD rfl (fun h7 => absurd h7 (by omega)) (fun h7 => ?_)
              repeat
                first
                | refine xseq ?_
                | first
                  | refine xregion ?_
                  | refine xvalP (pv_move rfl) rfl rfl ?_
                  | refine xvalP (pv_assign rfl) rfl rfl ?_
                  | refine xvalP (pv_add1 rfl rfl (by omega)) rfl rfl ?_
                  | refine xvalP (pv_sub1 rfl rfl (by omega)) rfl rfl ?_
                  | refine xvalP (pv_bin2 rfl rfl rfl) rfl rfl ?_
                  | refine xnil ?_
                  | refine xthen ?_
                  | refine xblock ?_
                  | refine xval (qv_load ShpC.h rfl rfl rfl) rfl rfl ?_
                  | refine xvalP (qv_fieldAddrB FldC.h rfl) rfl rfl ?_
                  | refine xvalP (qv_fieldAddrE FldC.h rfl) rfl rfl ?_
                  | refine xval (qv_loadB 0 ShpC.h rfl rfl rfl rfl) rfl rfl ?_
                  | refine xval (qv_loadB 1 ShpC.h rfl rfl rfl rfl) rfl rfl ?_
                  | refine xval (qv_loadB 2 ShpC.h rfl rfl rfl rfl) rfl rfl ?_
                  | refine xval (qv_loadB 3 ShpC.h rfl rfl rfl rfl) rfl rfl ?_
                  | refine xval (qv_loadB 4 ShpC.h rfl rfl rfl rfl) rfl rfl ?_
                  | refine xvalP (pv_pick rfl rfl) rfl rfl ?_
                  | refine xvalP (pv_len UndC.h rfl rfl) rfl rfl ?_
                  | refine xvalP (pv_lenS UndC.h rfl) rfl rfl ?_
                  | refine xvalP (pv_lenRb UndC.h rfl) rfl rfl ?_
                  | refine xvalP (pv_lenV UndC.h rfl) rfl rfl ?_
                  | refine xvalP (pv_not rfl) rfl rfl ?_
                  | refine xvalP (pv_nilCheck rfl) rfl rfl ?_
                  | refine xvalP (pv_nilCheckE rfl) rfl rfl ?_
                  | refine xvalP (pv_nilCheckF rfl) rfl rfl ?_
                  | refine xvalP (pv_extract rfl rfl) rfl rfl ?_
                  | refine xvalP (qv_field FldC.h rfl rfl) rfl rfl ?_
                  | refine xvalP (pv_indexAddr UndC.h ShpC.h rfl rfl rfl (map_at (by assumption))) rfl rfl ?_
                  | refine xvalP (pv_indexAddrB UndC.h ShpC.h rfl rfl (Int.toNat_of_nonneg (by decide)).symm (by decide)) rfl rfl ?_
                  | refine xvalP (pv_indexAddrE UndC.h ShpC.h rfl rfl (Int.toNat_of_nonneg (by decide)).symm (by decide)) rfl rfl ?_
                  | refine xvalP (pv_eqB UndC.h rfl rfl) rfl rfl ?_
                  | refine xvalP (pv_neB UndC.h rfl rfl) rfl rfl ?_
                  | refine xvalP (pv_convI UndC.h UndC.h rfl) rfl rfl ?_
                  | refine xvalP (pv_buildC StrC.h rfl rfl) rfl rfl ?_
                  | refine xalloc InfC.h rfl rfl fun _ => ?_
                  | refine xbuildSliceC UndC.h InfC.h rfl rfl rfl rfl rfl rfl fun _ => ?_
                  | refine xvalP (pv_makeFuncC rfl) rfl rfl ?_
                  | refine xbox rfl rfl rfl rfl fun _ => ?_
                  | refine xstore 0 ShpC.h rfl rfl rfl rfl rfl rfl rfl ?_
                  | refine xstore 1 ShpC.h rfl rfl rfl rfl rfl rfl rfl ?_
                  | refine xstore 2 ShpC.h rfl rfl rfl rfl rfl rfl rfl ?_
                  | refine xstore 3 ShpC.h rfl rfl rfl rfl rfl rfl rfl ?_
                  | refine xstore 4 ShpC.h rfl rfl rfl rfl rfl rfl rfl ?_
                  | refine xskip rfl rfl ?_
                  | refine xskip0 rfl ?_
                  | refine xcondT rfl ?_
                  | refine xcondF rfl ?_
                  | refine xskipc ?_
                  | refine xexit ?_
                  | refine xretc ?_
                  | refine xin_normal ?_
                  | refine xin_ret ?_
                  | refine xthen_exit ?_
                  | refine xthen_ret ?_
                  | refine xin_same rfl ?_
                  | refine xin_other rfl ?_
              exact xmeet ⟨k + 1, (0, 0, [10]), by omega, hk2, by simp, hr, rfl⟩ ⟨by (repeat (first | exact ImpT.nil _ | refine ImpT.cons rfl (by first | with_reducible exact Wk.refl _ | exact Wk.nil_own _ | exact Wk.nil_pl _ | with_reducible exact Wk.tok _ _ _ | exact Wk.tok _ _ _ | exact Wk.eq (by first | rfl | (simp []; done) | (simp []; omega))) ?_)), (SubM.of (by repeat (first | with_reducible exact SubB.refl _ | exact SubB.nil _ | refine SubB.keep rfl rfl (by first | with_reducible exact WkL.refl _ | ((repeat (first | exact WkL.nil | refine WkL.cons (by first | with_reducible exact Wk.refl _ | exact Wk.nil_own _ | exact Wk.nil_pl _ | with_reducible exact Wk.tok _ _ _ | exact Wk.tok _ _ _ | exact Wk.eq (by first | rfl | (simp []; done) | (simp []; omega))) ?_)); done) | exact WkL.refl _) ?_ | refine SubB.drop ?_)) (by repeat (first | exact SubT.nil _ | refine SubT.add ?_ | (refine SubT.keep ?_ ?_; focus (first | with_reducible rfl | (simp []; done))) | refine SubT.drop ?_)))⟩
            · repeat
                first
                | refine xseq ?_
                | first
                  | refine xregion ?_
                  | refine xvalP (pv_move rfl) rfl rfl ?_
                  | refine xvalP (pv_assign rfl) rfl rfl ?_
                  | refine xvalP (pv_add1 rfl rfl (by omega)) rfl rfl ?_
                  | refine xvalP (pv_sub1 rfl rfl (by omega)) rfl rfl ?_
                  | refine xvalP (pv_bin2 rfl rfl rfl) rfl rfl ?_
                  | refine xnil ?_
                  | refine xthen ?_
                  | refine xblock ?_
                  | refine xval (qv_load ShpC.h rfl rfl rfl) rfl rfl ?_
                  | refine xvalP (qv_fieldAddrB FldC.h rfl) rfl rfl ?_
                  | refine xvalP (qv_fieldAddrE FldC.h rfl) rfl rfl ?_
                  | refine xval (qv_loadB 0 ShpC.h rfl rfl rfl rfl) rfl rfl ?_
                  | refine xval (qv_loadB 1 ShpC.h rfl rfl rfl rfl) rfl rfl ?_
                  | refine xval (qv_loadB 2 ShpC.h rfl rfl rfl rfl) rfl rfl ?_
                  | refine xval (qv_loadB 3 ShpC.h rfl rfl rfl rfl) rfl rfl ?_
                  | refine xval (qv_loadB 4 ShpC.h rfl rfl rfl rfl) rfl rfl ?_
                  | refine xvalP (pv_pick rfl rfl) rfl rfl ?_
                  | refine xvalP (pv_len UndC.h rfl rfl) rfl rfl ?_
                  | refine xvalP (pv_lenS UndC.h rfl) rfl rfl ?_
                  | refine xvalP (pv_lenRb UndC.h rfl) rfl rfl ?_
                  | refine xvalP (pv_lenV UndC.h rfl) rfl rfl ?_
                  | refine xvalP (pv_not rfl) rfl rfl ?_
                  | refine xvalP (pv_nilCheck rfl) rfl rfl ?_
                  | refine xvalP (pv_nilCheckE rfl) rfl rfl ?_
                  | refine xvalP (pv_nilCheckF rfl) rfl rfl ?_
                  | refine xvalP (pv_extract rfl rfl) rfl rfl ?_
                  | refine xvalP (qv_field FldC.h rfl rfl) rfl rfl ?_
                  | refine xvalP (pv_indexAddr UndC.h ShpC.h rfl rfl rfl (map_at (by assumption))) rfl rfl ?_
                  | refine xvalP (pv_indexAddrB UndC.h ShpC.h rfl rfl (Int.toNat_of_nonneg (by decide)).symm (by decide)) rfl rfl ?_
                  | refine xvalP (pv_indexAddrE UndC.h ShpC.h rfl rfl (Int.toNat_of_nonneg (by decide)).symm (by decide)) rfl rfl ?_
                  | refine xvalP (pv_eqB UndC.h rfl rfl) rfl rfl ?_
                  | refine xvalP (pv_neB UndC.h rfl rfl) rfl rfl ?_
                  | refine xvalP (pv_convI UndC.h UndC.h rfl) rfl rfl ?_
                  | refine xvalP (pv_buildC StrC.h rfl rfl) rfl rfl ?_
                  | refine xalloc InfC.h rfl rfl fun _ => ?_
                  | refine xbuildSliceC UndC.h InfC.h rfl rfl rfl rfl rfl rfl fun _ => ?_
                  | refine xvalP (pv_makeFuncC rfl) rfl rfl ?_
                  | refine xbox rfl rfl rfl rfl fun _ => ?_
                  | refine xstore 0 ShpC.h rfl rfl rfl rfl rfl rfl rfl ?_
                  | refine xstore 1 ShpC.h rfl rfl rfl rfl rfl rfl rfl ?_
                  | refine xstore 2 ShpC.h rfl rfl rfl rfl rfl rfl rfl ?_
                  | refine xstore 3 ShpC.h rfl rfl rfl rfl rfl rfl rfl ?_
                  | refine xstore 4 ShpC.h rfl rfl rfl rfl rfl rfl rfl ?_
                  | refine xskip rfl rfl ?_
                  | refine xskip0 rfl ?_
                  | refine xcondT rfl ?_
                  | refine xcondF rfl ?_
                  | refine xskipc ?_
                  | refine xexit ?_
                  | refine xretc ?_
                  | refine xin_normal ?_
                  | refine xin_ret ?_
                  | refine xthen_exit ?_
                  | refine xthen_ret ?_
                  | refine xin_same rfl ?_
                  | refine xin_other rfl ?_
              refine xguardD rfl rfl (fun h6 => ?_) (fun h6 => ?_)
              · repeat
                  first
                  | refine xseq ?_
                  | first
                    | refine xregion ?_
                    | refine xvalP (pv_move rfl) rfl rfl ?_
                    | refine xvalP (pv_assign rfl) rfl rfl ?_
                    | refine xvalP (pv_add1 rfl rfl (by omega)) rfl rfl ?_
                    | refine xvalP (pv_sub1 rfl rfl (by omega)) rfl rfl ?_
                    | refine xvalP (pv_bin2 rfl rfl rfl) rfl rfl ?_
                    | refine xnil ?_
                    | refine xthen ?_
                    | refine xblock ?_
                    | refine xval (qv_load ShpC.h rfl rfl rfl) rfl rfl ?_
                    | refine xvalP (qv_fieldAddrB FldC.h rfl) rfl rfl ?_
                    | refine xvalP (qv_fieldAddrE FldC.h rfl) rfl rfl ?_
                    | refine xval (qv_loadB 0 ShpC.h rfl rfl rfl rfl) rfl rfl ?_
                    | refine xval (qv_loadB 1 ShpC.h rfl rfl rfl rfl) rfl rfl ?_
                    | refine xval (qv_loadB 2 ShpC.h rfl rfl rfl rfl) rfl rfl ?_
                    | refine xval (qv_loadB 3 ShpC.h rfl rfl rfl rfl) rfl rfl ?_
                    | refine xval (qv_loadB 4 ShpC.h rfl rfl rfl rfl) rfl rfl ?_
                    | refine xvalP (pv_pick rfl rfl) rfl rfl ?_
                    | refine xvalP (pv_len UndC.h rfl rfl) rfl rfl ?_
                    | refine xvalP (pv_lenS UndC.h rfl) rfl rfl ?_
                    | refine xvalP (pv_lenRb UndC.h rfl) rfl rfl ?_
                    | refine xvalP (pv_lenV UndC.h rfl) rfl rfl ?_
                    | refine xvalP (pv_not rfl) rfl rfl ?_
                    | refine xvalP (pv_nilCheck rfl) rfl rfl ?_
                    | refine xvalP (pv_nilCheckE rfl) rfl rfl ?_
                    | refine xvalP (pv_nilCheckF rfl) rfl rfl ?_
                    | refine xvalP (pv_extract rfl rfl) rfl rfl ?_
                    | refine xvalP (qv_field FldC.h rfl rfl) rfl rfl ?_
                    | refine xvalP (pv_indexAddr UndC.h ShpC.h rfl rfl rfl (map_at (by assumption))) rfl rfl ?_
                    | refine xvalP (pv_indexAddrB UndC.h ShpC.h rfl rfl (Int.toNat_of_nonneg (by decide)).symm (by decide)) rfl rfl ?_
                    | refine xvalP (pv_indexAddrE UndC.h ShpC.h rfl rfl (Int.toNat_of_nonneg (by decide)).symm (by decide)) rfl rfl ?_
                    | refine xvalP (pv_eqB UndC.h rfl rfl) rfl rfl ?_
                    | refine xvalP (pv_neB UndC.h rfl rfl) rfl rfl ?_
                    | refine xvalP (pv_convI UndC.h UndC.h rfl) rfl rfl ?_
                    | refine xvalP (pv_buildC StrC.h rfl rfl) rfl rfl ?_
                    | refine xalloc InfC.h rfl rfl fun _ => ?_
                    | refine xbuildSliceC UndC.h InfC.h rfl rfl rfl rfl rfl rfl fun _ => ?_
                    | refine xvalP (pv_makeFuncC rfl) rfl rfl ?_
                    | refine xbox rfl rfl rfl rfl fun _ => ?_
                    | refine xstore 0 ShpC.h rfl rfl rfl rfl rfl rfl rfl ?_
                    | refine xstore 1 ShpC.h rfl rfl rfl rfl rfl rfl rfl ?_
                    | refine xstore 2 ShpC.h rfl rfl rfl rfl rfl rfl rfl ?_
                    | refine xstore 3 ShpC.h rfl rfl rfl rfl rfl rfl rfl ?_
                    | refine xstore 4 ShpC.h rfl rfl rfl rfl rfl rfl rfl ?_
                    | refine xskip rfl rfl ?_
                    | refine xskip0 rfl ?_
                    | refine xcondT rfl ?_
                    | refine xcondF rfl ?_
                    | refine xskipc ?_
                    | refine xexit ?_
                    | refine xretc ?_
                    | refine xin_normal ?_
                    | refine xin_ret ?_
                    | refine xthen_exit ?_
                    | refine xthen_ret ?_
                    | refine xin_same rfl ?_
                    | refine xin_other rfl ?_
                refine xcondD rfl (fun h7 => ?_) (fun h7 => ?_)
                · have hr := hdig (by omega)
                  have hw0 : IntKind.i64.wrap (d.toNat : Int) = (d.toNat : Int) := IntWalk.i64_in _ (by omega)
                  have hw : IntKind.i64.wrap (IntKind.i64.wrap (d.toNat : Int) - 48) = (d.toNat : Int) - 48 := by rw [hw0, IntWalk.i64_in _ (by omega)]
                  repeat
                    first
                    | refine xseq ?_
                    | first
                      | refine xregion ?_
                      | refine xvalP (pv_move rfl) rfl rfl ?_
                      | refine xvalP (pv_assign rfl) rfl rfl ?_
                      | refine xvalP (pv_add1 rfl rfl (by omega)) rfl rfl ?_
                      | refine xvalP (pv_sub1 rfl rfl (by omega)) rfl rfl ?_
                      | refine xvalP (pv_bin2 rfl rfl rfl) rfl rfl ?_
                      | refine xnil ?_
                      | refine xthen ?_
                      | refine xblock ?_
                      | refine xval (qv_load ShpC.h rfl rfl rfl) rfl rfl ?_
                      | refine xvalP (qv_fieldAddrB FldC.h rfl) rfl rfl ?_
                      | refine xvalP (qv_fieldAddrE FldC.h rfl) rfl rfl ?_
                      | refine xval (qv_loadB 0 ShpC.h rfl rfl rfl rfl) rfl rfl ?_
                      | refine xval (qv_loadB 1 ShpC.h rfl rfl rfl rfl) rfl rfl ?_
                      | refine xval (qv_loadB 2 ShpC.h rfl rfl rfl rfl) rfl rfl ?_
                      | refine xval (qv_loadB 3 ShpC.h rfl rfl rfl rfl) rfl rfl ?_
                      | refine xval (qv_loadB 4 ShpC.h rfl rfl rfl rfl) rfl rfl ?_
                      | refine xvalP (pv_pick rfl rfl) rfl rfl ?_
                      | refine xvalP (pv_len UndC.h rfl rfl) rfl rfl ?_
                      | refine xvalP (pv_lenS UndC.h rfl) rfl rfl ?_
                      | refine xvalP (pv_lenRb UndC.h rfl) rfl rfl ?_
                      | refine xvalP (pv_lenV UndC.h rfl) rfl rfl ?_
                      | refine xvalP (pv_not rfl) rfl rfl ?_
                      | refine xvalP (pv_nilCheck rfl) rfl rfl ?_
                      | refine xvalP (pv_nilCheckE rfl) rfl rfl ?_
                      | refine xvalP (pv_nilCheckF rfl) rfl rfl ?_
                      | refine xvalP (pv_extract rfl rfl) rfl rfl ?_
                      | refine xvalP (qv_field FldC.h rfl rfl) rfl rfl ?_
                      | refine xvalP (pv_indexAddr UndC.h ShpC.h rfl rfl rfl (map_at (by assumption))) rfl rfl ?_
                      | refine xvalP (pv_indexAddrB UndC.h ShpC.h rfl rfl (Int.toNat_of_nonneg (by decide)).symm (by decide)) rfl rfl ?_
                      | refine xvalP (pv_indexAddrE UndC.h ShpC.h rfl rfl (Int.toNat_of_nonneg (by decide)).symm (by decide)) rfl rfl ?_
                      | refine xvalP (pv_eqB UndC.h rfl rfl) rfl rfl ?_
                      | refine xvalP (pv_neB UndC.h rfl rfl) rfl rfl ?_
                      | refine xvalP (pv_convI UndC.h UndC.h rfl) rfl rfl ?_
                      | refine xvalP (pv_buildC StrC.h rfl rfl) rfl rfl ?_
                      | refine xalloc InfC.h rfl rfl fun _ => ?_
                      | refine xbuildSliceC UndC.h InfC.h rfl rfl rfl rfl rfl rfl fun _ => ?_
                      | refine xvalP (pv_makeFuncC rfl) rfl rfl ?_
                      | refine xbox rfl rfl rfl rfl fun _ => ?_
                      | refine xstore 0 ShpC.h rfl rfl rfl rfl rfl rfl rfl ?_
                      | refine xstore 1 ShpC.h rfl rfl rfl rfl rfl rfl rfl ?_
                      | refine xstore 2 ShpC.h rfl rfl rfl rfl rfl rfl rfl ?_
                      | refine xstore 3 ShpC.h rfl rfl rfl rfl rfl rfl rfl ?_
                      | refine xstore 4 ShpC.h rfl rfl rfl rfl rfl rfl rfl ?_
                      | refine xskip rfl rfl ?_
                      | refine xskip0 rfl ?_
                      | refine xcondT rfl ?_
                      | refine xcondF rfl ?_
                      | refine xskipc ?_
                      | refine xexit ?_
                      | refine xretc ?_
                      | refine xin_normal ?_
                      | refine xin_ret ?_
                      | refine xthen_exit ?_
                      | refine xthen_ret ?_
                      | refine xin_same rfl ?_
                      | refine xin_other rfl ?_
                  refine xcondD rfl (fun h8 => ?_) (fun h8 => ?_)
                  · rw [hw] at h8
                    rw [if_pos h8] at hr
                    repeat
                      first
                      | refine xseq ?_
                      | first
                        | refine xregion ?_
                        | refine xvalP (pv_move rfl) rfl rfl ?_
                        | refine xvalP (pv_assign rfl) rfl rfl ?_
                        | refine xvalP (pv_add1 rfl rfl (by omega)) rfl rfl ?_
                        | refine xvalP (pv_sub1 rfl rfl (by omega)) rfl rfl ?_
                        | refine xvalP (pv_bin2 rfl rfl rfl) rfl rfl ?_
                        | refine xnil ?_
                        | refine xthen ?_
                        | refine xblock ?_
                        | refine xval (qv_load ShpC.h rfl rfl rfl) rfl rfl ?_
                        | refine xvalP (qv_fieldAddrB FldC.h rfl) rfl rfl ?_
                        | refine xvalP (qv_fieldAddrE FldC.h rfl) rfl rfl ?_
                        | refine xval (qv_loadB 0 ShpC.h rfl rfl rfl rfl) rfl rfl ?_
                        | refine xval (qv_loadB 1 ShpC.h rfl rfl rfl rfl) rfl rfl ?_
                        | refine xval (qv_loadB 2 ShpC.h rfl rfl rfl rfl) rfl rfl ?_
                        | refine xval (qv_loadB 3 ShpC.h rfl rfl rfl rfl) rfl rfl ?_
                        | refine xval (qv_loadB 4 ShpC.h rfl rfl rfl rfl) rfl rfl ?_
                        | refine xvalP (pv_pick rfl rfl) rfl rfl ?_
                        | refine xvalP (pv_len UndC.h rfl rfl) rfl rfl ?_
                        | refine xvalP (pv_lenS UndC.h rfl) rfl rfl ?_
                        | refine xvalP (pv_lenRb UndC.h rfl) rfl rfl ?_
                        | refine xvalP (pv_lenV UndC.h rfl) rfl rfl ?_
                        | refine xvalP (pv_not rfl) rfl rfl ?_
                        | refine xvalP (pv_nilCheck rfl) rfl rfl ?_
                        | refine xvalP (pv_nilCheckE rfl) rfl rfl ?_
                        | refine xvalP (pv_nilCheckF rfl) rfl rfl ?_
                        | refine xvalP (pv_extract rfl rfl) rfl rfl ?_
                        | refine xvalP (qv_field FldC.h rfl rfl) rfl rfl ?_
                        | refine xvalP (pv_indexAddr UndC.h ShpC.h rfl rfl rfl (map_at (by assumption))) rfl rfl ?_
                        | refine xvalP (pv_indexAddrB UndC.h ShpC.h rfl rfl (Int.toNat_of_nonneg (by decide)).symm (by decide)) rfl rfl ?_
                        | refine xvalP (pv_indexAddrE UndC.h ShpC.h rfl rfl (Int.toNat_of_nonneg (by decide)).symm (by decide)) rfl rfl ?_
                        | refine xvalP (pv_eqB UndC.h rfl rfl) rfl rfl ?_
                        | refine xvalP (pv_neB UndC.h rfl rfl) rfl rfl ?_
                        | refine xvalP (pv_convI UndC.h UndC.h rfl) rfl rfl ?_
                        | refine xvalP (pv_buildC StrC.h rfl rfl) rfl rfl ?_
                        | refine xalloc InfC.h rfl rfl fun _ => ?_
                        | refine xbuildSliceC UndC.h InfC.h rfl rfl rfl rfl rfl rfl fun _ => ?_
                        | refine xvalP (pv_makeFuncC rfl) rfl rfl ?_
                        | refine xbox rfl rfl rfl rfl fun _ => ?_
                        | refine xstore 0 ShpC.h rfl rfl rfl rfl rfl rfl rfl ?_
                        | refine xstore 1 ShpC.h rfl rfl rfl rfl rfl rfl rfl ?_
                        | refine xstore 2 ShpC.h rfl rfl rfl rfl rfl rfl rfl ?_
                        | refine xstore 3 ShpC.h rfl rfl rfl rfl rfl rfl rfl ?_
                        | refine xstore 4 ShpC.h rfl rfl rfl rfl rfl rfl rfl ?_
                        | refine xskip rfl rfl ?_
                        | refine xskip0 rfl ?_
                        | refine xcondT rfl ?_
                        | refine xcondF rfl ?_
                        | refine xskipc ?_
                        | refine xexit ?_
                        | refine xretc ?_
                        | refine xin_normal ?_
                        | refine xin_ret ?_
                        | refine xthen_exit ?_
                        | refine xthen_ret ?_
                        | refine xin_same rfl ?_
                        | refine xin_other rfl ?_
                    exact xret3 hg rfl rfl (.nil_pl 3) rfl (.eq rfl) rfl (.eq rfl) (SubM.none _ _) ⟨by rw [← hr]; rfl, rfl, rfl⟩
                  · rw [hw] at h8
                    rw [if_neg h8] at hr
                    repeat
                      first
                      | refine xseq ?_
                      | first
                        | refine xregion ?_
                        | refine xvalP (pv_move rfl) rfl rfl ?_
                        | refine xvalP (pv_assign rfl) rfl rfl ?_
                        | refine xvalP (pv_add1 rfl rfl (by omega)) rfl rfl ?_
                        | refine xvalP (pv_sub1 rfl rfl (by omega)) rfl rfl ?_
                        | refine xvalP (pv_bin2 rfl rfl rfl) rfl rfl ?_
                        | refine xnil ?_
                        | refine xthen ?_
                        | refine xblock ?_
                        | refine xval (qv_load ShpC.h rfl rfl rfl) rfl rfl ?_
                        | refine xvalP (qv_fieldAddrB FldC.h rfl) rfl rfl ?_
                        | refine xvalP (qv_fieldAddrE FldC.h rfl) rfl rfl ?_
                        | refine xval (qv_loadB 0 ShpC.h rfl rfl rfl rfl) rfl rfl ?_
                        | refine xval (qv_loadB 1 ShpC.h rfl rfl rfl rfl) rfl rfl ?_
                        | refine xval (qv_loadB 2 ShpC.h rfl rfl rfl rfl) rfl rfl ?_
                        | refine xval (qv_loadB 3 ShpC.h rfl rfl rfl rfl) rfl rfl ?_
                        | refine xval (qv_loadB 4 ShpC.h rfl rfl rfl rfl) rfl rfl ?_
                        | refine xvalP (pv_pick rfl rfl) rfl rfl ?_
                        | refine xvalP (pv_len UndC.h rfl rfl) rfl rfl ?_
                        | refine xvalP (pv_lenS UndC.h rfl) rfl rfl ?_
                        | refine xvalP (pv_lenRb UndC.h rfl) rfl rfl ?_
                        | refine xvalP (pv_lenV UndC.h rfl) rfl rfl ?_
                        | refine xvalP (pv_not rfl) rfl rfl ?_
                        | refine xvalP (pv_nilCheck rfl) rfl rfl ?_
                        | refine xvalP (pv_nilCheckE rfl) rfl rfl ?_
                        | refine xvalP (pv_nilCheckF rfl) rfl rfl ?_
                        | refine xvalP (pv_extract rfl rfl) rfl rfl ?_
                        | refine xvalP (qv_field FldC.h rfl rfl) rfl rfl ?_
                        | refine xvalP (pv_indexAddr UndC.h ShpC.h rfl rfl rfl (map_at (by assumption))) rfl rfl ?_
                        | refine xvalP (pv_indexAddrB UndC.h ShpC.h rfl rfl (Int.toNat_of_nonneg (by decide)).symm (by decide)) rfl rfl ?_
                        | refine xvalP (pv_indexAddrE UndC.h ShpC.h rfl rfl (Int.toNat_of_nonneg (by decide)).symm (by decide)) rfl rfl ?_
                        | refine xvalP (pv_eqB UndC.h rfl rfl) rfl rfl ?_
                        | refine xvalP (pv_neB UndC.h rfl rfl) rfl rfl ?_
                        | refine xvalP (pv_convI UndC.h UndC.h rfl) rfl rfl ?_
                        | refine xvalP (pv_buildC StrC.h rfl rfl) rfl rfl ?_
                        | refine xalloc InfC.h rfl rfl fun _ => ?_
                        | refine xbuildSliceC UndC.h InfC.h rfl rfl rfl rfl rfl rfl fun _ => ?_
                        | refine xvalP (pv_makeFuncC rfl) rfl rfl ?_
                        | refine xbox rfl rfl rfl rfl fun _ => ?_
                        | refine xstore 0 ShpC.h rfl rfl rfl rfl rfl rfl rfl ?_
                        | refine xstore 1 ShpC.h rfl rfl rfl rfl rfl rfl rfl ?_
                        | refine xstore 2 ShpC.h rfl rfl rfl rfl rfl rfl rfl ?_
                        | refine xstore 3 ShpC.h rfl rfl rfl rfl rfl rfl rfl ?_
                        | refine xstore 4 ShpC.h rfl rfl rfl rfl rfl rfl rfl ?_
                        | refine xskip rfl rfl ?_
                        | refine xskip0 rfl ?_
                        | refine xcondT rfl ?_
                        | refine xcondF rfl ?_
                        | refine xskipc ?_
                        | refine xexit ?_
                        | refine xretc ?_
                        | refine xin_normal ?_
                        | refine xin_ret ?_
                        | refine xthen_exit ?_
                        | refine xthen_ret ?_
                        | refine xin_same rfl ?_
                        | refine xin_other rfl ?_
                    exact xmeet ⟨k + 1, (1, (d.toNat : Int) - 48, []), by omega, hk2, by simp, hr, rfl⟩ ⟨by (repeat (first | exact ImpT.nil _ | refine ImpT.cons rfl (by first | with_reducible exact Wk.refl _ | exact Wk.nil_own _ | exact Wk.nil_pl _ | with_reducible exact Wk.tok _ _ _ | exact Wk.tok _ _ _ | exact Wk.eq (by first | rfl | (simp []; done) | (simp []; omega))) ?_)), (SubM.of (by repeat (first | with_reducible exact SubB.refl _ | exact SubB.nil _ | refine SubB.keep rfl rfl (by first | with_reducible exact WkL.refl _ | ((repeat (first | exact WkL.nil | refine WkL.cons (by first | with_reducible exact Wk.refl _ | exact Wk.nil_own _ | exact Wk.nil_pl _ | with_reducible exact Wk.tok _ _ _ | exact Wk.tok _ _ _ | exact Wk.eq (by first | rfl | (simp [hw]; done) | (simp [hw]; omega))) ?_)); done) | exact WkL.refl _) ?_ | refine SubB.drop ?_)) (by repeat (first | exact SubT.nil _ | refine SubT.add ?_ | (refine SubT.keep ?_ ?_; focus (first | with_reducible rfl | (simp [hw]; done))) | refine SubT.drop ?_)))⟩
                · have hr := hoth (by omega)
                  rw [if_neg (by omega)] at hr
                  repeat
                    first
                    | refine xseq ?_
                    | first
                      | refine xregion ?_
                      | refine xvalP (pv_move rfl) rfl rfl ?_
                      | refine xvalP (pv_assign rfl) rfl rfl ?_
                      | refine xvalP (pv_add1 rfl rfl (by omega)) rfl rfl ?_
                      | refine xvalP (pv_sub1 rfl rfl (by omega)) rfl rfl ?_
                      | refine xvalP (pv_bin2 rfl rfl rfl) rfl rfl ?_
                      | refine xnil ?_
                      | refine xthen ?_
                      | refine xblock ?_
                      | refine xval (qv_load ShpC.h rfl rfl rfl) rfl rfl ?_
                      | refine xvalP (qv_fieldAddrB FldC.h rfl) rfl rfl ?_
                      | refine xvalP (qv_fieldAddrE FldC.h rfl) rfl rfl ?_
                      | refine xval (qv_loadB 0 ShpC.h rfl rfl rfl rfl) rfl rfl ?_
                      | refine xval (qv_loadB 1 ShpC.h rfl rfl rfl rfl) rfl rfl ?_
                      | refine xval (qv_loadB 2 ShpC.h rfl rfl rfl rfl) rfl rfl ?_
                      | refine xval (qv_loadB 3 ShpC.h rfl rfl rfl rfl) rfl rfl ?_
                      | refine xval (qv_loadB 4 ShpC.h rfl rfl rfl rfl) rfl rfl ?_
                      | refine xvalP (pv_pick rfl rfl) rfl rfl ?_
                      | refine xvalP (pv_len UndC.h rfl rfl) rfl rfl ?_
                      | refine xvalP (pv_lenS UndC.h rfl) rfl rfl ?_
                      | refine xvalP (pv_lenRb UndC.h rfl) rfl rfl ?_
                      | refine xvalP (pv_lenV UndC.h rfl) rfl rfl ?_
                      | refine xvalP (pv_not rfl) rfl rfl ?_
                      | refine xvalP (pv_nilCheck rfl) rfl rfl ?_
                      | refine xvalP (pv_nilCheckE rfl) rfl rfl ?_
                      | refine xvalP (pv_nilCheckF rfl) rfl rfl ?_
                      | refine xvalP (pv_extract rfl rfl) rfl rfl ?_
                      | refine xvalP (qv_field FldC.h rfl rfl) rfl rfl ?_
                      | refine xvalP (pv_indexAddr UndC.h ShpC.h rfl rfl rfl (map_at (by assumption))) rfl rfl ?_
                      | refine xvalP (pv_indexAddrB UndC.h ShpC.h rfl rfl (Int.toNat_of_nonneg (by decide)).symm (by decide)) rfl rfl ?_
                      | refine xvalP (pv_indexAddrE UndC.h ShpC.h rfl rfl (Int.toNat_of_nonneg (by decide)).symm (by decide)) rfl rfl ?_
                      | refine xvalP (pv_eqB UndC.h rfl rfl) rfl rfl ?_
                      | refine xvalP (pv_neB UndC.h rfl rfl) rfl rfl ?_
                      | refine xvalP (pv_convI UndC.h UndC.h rfl) rfl rfl ?_
                      | refine xvalP (pv_buildC StrC.h rfl rfl) rfl rfl ?_
                      | refine xalloc InfC.h rfl rfl fun _ => ?_
                      | refine xbuildSliceC UndC.h InfC.h rfl rfl rfl rfl rfl rfl fun _ => ?_
                      | refine xvalP (pv_makeFuncC rfl) rfl rfl ?_
                      | refine xbox rfl rfl rfl rfl fun _ => ?_
                      | refine xstore 0 ShpC.h rfl rfl rfl rfl rfl rfl rfl ?_
                      | refine xstore 1 ShpC.h rfl rfl rfl rfl rfl rfl rfl ?_
                      | refine xstore 2 ShpC.h rfl rfl rfl rfl rfl rfl rfl ?_
                      | refine xstore 3 ShpC.h rfl rfl rfl rfl rfl rfl rfl ?_
                      | refine xstore 4 ShpC.h rfl rfl rfl rfl rfl rfl rfl ?_
                      | refine xskip rfl rfl ?_
                      | refine xskip0 rfl ?_
                      | refine xcondT rfl ?_
                      | refine xcondF rfl ?_
                      | refine xskipc ?_
                      | refine xexit ?_
                      | refine xretc ?_
                      | refine xin_normal ?_
                      | refine xin_ret ?_
                      | refine xthen_exit ?_
                      | refine xthen_ret ?_
                      | refine xin_same rfl ?_
                      | refine xin_other rfl ?_
                  exact xmeet ⟨k + 1, (0, 0, [d]), by omega, hk2, by simp, hr, rfl⟩ ⟨by (repeat (first | exact ImpT.nil _ | refine ImpT.cons rfl (by first | with_reducible exact Wk.refl _ | exact Wk.nil_own _ | exact Wk.nil_pl _ | with_reducible exact Wk.tok _ _ _ | exact Wk.tok _ _ _ | exact Wk.eq (by first | rfl | (simp []; done) | (simp []; omega))) ?_)), (SubM.of (by repeat (first | with_reducible exact SubB.refl _ | exact SubB.nil _ | refine SubB.keep rfl rfl (by first | with_reducible exact WkL.refl _ | ((repeat (first | exact WkL.nil | refine WkL.cons (by first | with_reducible exact Wk.refl _ | exact Wk.nil_own _ | exact Wk.nil_pl _ | with_reducible exact Wk.tok _ _ _ | exact Wk.tok _ _ _ | exact Wk.eq (by first | rfl | (simp []; done) | (simp []; omega))) ?_)); done) | exact WkL.refl _) ?_ | refine SubB.drop ?_)) (by repeat (first | exact SubT.nil _ | refine SubT.add ?_ | (refine SubT.keep ?_ ?_; focus (first | with_reducible rfl | (simp []; done))) | refine SubT.drop ?_)))⟩
              · have hr := hoth (by omega)
                rw [if_neg (by omega)] at hr
                repeat
                  first
                  | refine xseq ?_
                  | first
                    | refine xregion ?_
                    | refine xvalP (pv_move rfl) rfl rfl ?_
                    | refine xvalP (pv_assign rfl) rfl rfl ?_
                    | refine xvalP (pv_add1 rfl rfl (by omega)) rfl rfl ?_
                    | refine xvalP (pv_sub1 rfl rfl (by omega)) rfl rfl ?_
                    | refine xvalP (pv_bin2 rfl rfl rfl) rfl rfl ?_
                    | refine xnil ?_
                    | refine xthen ?_
                    | refine xblock ?_
                    | refine xval (qv_load ShpC.h rfl rfl rfl) rfl rfl ?_
                    | refine xvalP (qv_fieldAddrB FldC.h rfl) rfl rfl ?_
                    | refine xvalP (qv_fieldAddrE FldC.h rfl) rfl rfl ?_
                    | refine xval (qv_loadB 0 ShpC.h rfl rfl rfl rfl) rfl rfl ?_
                    | refine xval (qv_loadB 1 ShpC.h rfl rfl rfl rfl) rfl rfl ?_
                    | refine xval (qv_loadB 2 ShpC.h rfl rfl rfl rfl) rfl rfl ?_
                    | refine xval (qv_loadB 3 ShpC.h rfl rfl rfl rfl) rfl rfl ?_
                    | refine xval (qv_loadB 4 ShpC.h rfl rfl rfl rfl) rfl rfl ?_
                    | refine xvalP (pv_pick rfl rfl) rfl rfl ?_
                    | refine xvalP (pv_len UndC.h rfl rfl) rfl rfl ?_
                    | refine xvalP (pv_lenS UndC.h rfl) rfl rfl ?_
                    | refine xvalP (pv_lenRb UndC.h rfl) rfl rfl ?_
                    | refine xvalP (pv_lenV UndC.h rfl) rfl rfl ?_
                    | refine xvalP (pv_not rfl) rfl rfl ?_
                    | refine xvalP (pv_nilCheck rfl) rfl rfl ?_
                    | refine xvalP (pv_nilCheckE rfl) rfl rfl ?_
                    | refine xvalP (pv_nilCheckF rfl) rfl rfl ?_
                    | refine xvalP (pv_extract rfl rfl) rfl rfl ?_
                    | refine xvalP (qv_field FldC.h rfl rfl) rfl rfl ?_
                    | refine xvalP (pv_indexAddr UndC.h ShpC.h rfl rfl rfl (map_at (by assumption))) rfl rfl ?_
                    | refine xvalP (pv_indexAddrB UndC.h ShpC.h rfl rfl (Int.toNat_of_nonneg (by decide)).symm (by decide)) rfl rfl ?_
                    | refine xvalP (pv_indexAddrE UndC.h ShpC.h rfl rfl (Int.toNat_of_nonneg (by decide)).symm (by decide)) rfl rfl ?_
                    | refine xvalP (pv_eqB UndC.h rfl rfl) rfl rfl ?_
                    | refine xvalP (pv_neB UndC.h rfl rfl) rfl rfl ?_
                    | refine xvalP (pv_convI UndC.h UndC.h rfl) rfl rfl ?_
                    | refine xvalP (pv_buildC StrC.h rfl rfl) rfl rfl ?_
                    | refine xalloc InfC.h rfl rfl fun _ => ?_
                    | refine xbuildSliceC UndC.h InfC.h rfl rfl rfl rfl rfl rfl fun _ => ?_
                    | refine xvalP (pv_makeFuncC rfl) rfl rfl ?_
                    | refine xbox rfl rfl rfl rfl fun _ => ?_
                    | refine xstore 0 ShpC.h rfl rfl rfl rfl rfl rfl rfl ?_
                    | refine xstore 1 ShpC.h rfl rfl rfl rfl rfl rfl rfl ?_
                    | refine xstore 2 ShpC.h rfl rfl rfl rfl rfl rfl rfl ?_
                    | refine xstore 3 ShpC.h rfl rfl rfl rfl rfl rfl rfl ?_
                    | refine xstore 4 ShpC.h rfl rfl rfl rfl rfl rfl rfl ?_
                    | refine xskip rfl rfl ?_
                    | refine xskip0 rfl ?_
                    | refine xcondT rfl ?_
                    | refine xcondF rfl ?_
                    | refine xskipc ?_
                    | refine xexit ?_
                    | refine xretc ?_
                    | refine xin_normal ?_
                    | refine xin_ret ?_
                    | refine xthen_exit ?_
                    | refine xthen_ret ?_
                    | refine xin_same rfl ?_
                    | refine xin_other rfl ?_
                exact xmeet ⟨k + 1, (0, 0, [d]), by omega, hk2, by simp, hr, rfl⟩ ⟨by (repeat (first | exact ImpT.nil _ | refine ImpT.cons rfl (by first | with_reducible exact Wk.refl _ | exact Wk.nil_own _ | exact Wk.nil_pl _ | with_reducible exact Wk.tok _ _ _ | exact Wk.tok _ _ _ | exact Wk.eq (by first | rfl | (simp []; done) | (simp []; omega))) ?_)), (SubM.of (by repeat (first | with_reducible exact SubB.refl _ | exact SubB.nil _ | refine SubB.keep rfl rfl (by first | with_reducible exact WkL.refl _ | ((repeat (first | exact WkL.nil | refine WkL.cons (by first | with_reducible exact Wk.refl _ | exact Wk.nil_own _ | exact Wk.nil_pl _ | with_reducible exact Wk.tok _ _ _ | exact Wk.tok _ _ _ | exact Wk.eq (by first | rfl | (simp []; done) | (simp []; omega))) ?_)); done) | exact WkL.refl _) ?_ | refine SubB.drop ?_)) (by repeat (first | exact SubT.nil _ | refine SubT.add ?_ | (refine SubT.keep ?_ ?_; focus (first | with_reducible rfl | (simp []; done))) | refine SubT.drop ?_)))⟩
        · repeat
            first
            | refine xseq ?_
            | first
              | refine xregion ?_
              | refine xvalP (pv_move rfl) rfl rfl ?_
              | refine xvalP (pv_assign rfl) rfl rfl ?_
              | refine xvalP (pv_add1 rfl rfl (by omega)) rfl rfl ?_
              | refine xvalP (pv_sub1 rfl rfl (by omega)) rfl rfl ?_
              | refine xvalP (pv_bin2 rfl rfl rfl) rfl rfl ?_
              | refine xnil ?_
              | refine xthen ?_
              | refine xblock ?_
              | refine xval (qv_load ShpC.h rfl rfl rfl) rfl rfl ?_
              | refine xvalP (qv_fieldAddrB FldC.h rfl) rfl rfl ?_
              | refine xvalP (qv_fieldAddrE FldC.h rfl) rfl rfl ?_
              | refine xval (qv_loadB 0 ShpC.h rfl rfl rfl rfl) rfl rfl ?_
              | refine xval (qv_loadB 1 ShpC.h rfl rfl rfl rfl) rfl rfl ?_
              | refine xval (qv_loadB 2 ShpC.h rfl rfl rfl rfl) rfl rfl ?_
              | refine xval (qv_loadB 3 ShpC.h rfl rfl rfl rfl) rfl rfl ?_
              | refine xval (qv_loadB 4 ShpC.h rfl rfl rfl rfl) rfl rfl ?_
              | refine xvalP (pv_pick rfl rfl) rfl rfl ?_
              | refine xvalP (pv_len UndC.h rfl rfl) rfl rfl ?_
              | refine xvalP (pv_lenS UndC.h rfl) rfl rfl ?_
              | refine xvalP (pv_lenRb UndC.h rfl) rfl rfl ?_
              | refine xvalP (pv_lenV UndC.h rfl) rfl rfl ?_
              | refine xvalP (pv_not rfl) rfl rfl ?_
              | refine xvalP (pv_nilCheck rfl) rfl rfl ?_
              | refine xvalP (pv_nilCheckE rfl) rfl rfl ?_
              | refine xvalP (pv_nilCheckF rfl) rfl rfl ?_
              | refine xvalP (pv_extract rfl rfl) rfl rfl ?_
              | refine xvalP (qv_field FldC.h rfl rfl) rfl rfl ?_
              | refine xvalP (pv_indexAddr UndC.h ShpC.h rfl rfl rfl (map_at (by assumption))) rfl rfl ?_
              | refine xvalP (pv_indexAddrB UndC.h ShpC.h rfl rfl (Int.toNat_of_nonneg (by decide)).symm (by decide)) rfl rfl ?_
              | refine xvalP (pv_indexAddrE UndC.h ShpC.h rfl rfl (Int.toNat_of_nonneg (by decide)).symm (by decide)) rfl rfl ?_
              | refine xvalP (pv_eqB UndC.h rfl rfl) rfl rfl ?_
              | refine xvalP (pv_neB UndC.h rfl rfl) rfl rfl ?_
              | refine xvalP (pv_convI UndC.h UndC.h rfl) rfl rfl ?_
              | refine xvalP (pv_buildC StrC.h rfl rfl) rfl rfl ?_
              | refine xalloc InfC.h rfl rfl fun _ => ?_
              | refine xbuildSliceC UndC.h InfC.h rfl rfl rfl rfl rfl rfl fun _ => ?_
              | refine xvalP (pv_makeFuncC rfl) rfl rfl ?_
              | refine xbox rfl rfl rfl rfl fun _ => ?_
              | refine xstore 0 ShpC.h rfl rfl rfl rfl rfl rfl rfl ?_
              | refine xstore 1 ShpC.h rfl rfl rfl rfl rfl rfl rfl ?_
              | refine xstore 2 ShpC.h rfl rfl rfl rfl rfl rfl rfl ?_
              | refine xstore 3 ShpC.h rfl rfl rfl rfl rfl rfl rfl ?_
              | refine xstore 4 ShpC.h rfl rfl rfl rfl rfl rfl rfl ?_
              | refine xskip rfl rfl ?_
              | refine xskip0 rfl ?_
              | refine xcondT rfl ?_
              | refine xcondF rfl ?_
              | refine xskipc ?_
              | refine xexit ?_
              | refine xretc ?_
              | refine xin_normal ?_
              | refine xin_ret ?_
              | refine xthen_exit ?_
              | refine xthen_ret ?_
              | refine xin_same rfl ?_
              | refine xin_other rfl ?_
          refine xmeet ⟨k, p0, Nat.le_refl _, hk1, by rw [← hp0]; split <;> simp, ?_, rfl⟩ ⟨by (repeat (first | exact ImpT.nil _ | refine ImpT.cons rfl (by first | with_reducible exact Wk.refl _ | exact Wk.nil_own _ | exact Wk.nil_pl _ | with_reducible exact Wk.tok _ _ _ | exact Wk.tok _ _ _ | exact Wk.eq (by first | rfl | (simp []; done) | (simp []; omega))) ?_)), (SubM.of (by repeat (first | with_reducible exact SubB.refl _ | exact SubB.nil _ | refine SubB.keep rfl rfl (by first | with_reducible exact WkL.refl _ | ((repeat (first | exact WkL.nil | refine WkL.cons (by first | with_reducible exact Wk.refl _ | exact Wk.nil_own _ | exact Wk.nil_pl _ | with_reducible exact Wk.tok _ _ _ | exact Wk.tok _ _ _ | exact Wk.eq (by first | rfl | (simp []; done) | (simp []; omega))) ?_)); done) | exact WkL.refl _) ?_ | refine SubB.drop ?_)) (by repeat (first | exact SubT.nil _ | refine SubT.add ?_ | (refine SubT.keep ?_ ?_; focus (first | with_reducible rfl | (simp []; done))) | refine SubT.drop ?_)))⟩
          rw [← hres, ← hp0]
          by_cases hc38 : c.toNat = 38
          · rw [rGo_amp hc38, if_pos hc38]
          · rw [rGo_text hc38 (by omega), if_neg hc38]
      · rintro _ ⟨k', p, hkk, hk', hp, hres', rfl⟩
        have hle := addP_le out p (k := k') (by omega) (fun q hq => Nat.le_trans (hob q hq) hkk) hp
        rcases List.eq_nil_or_concat out with rfl | ⟨xs, x, rfl⟩
        · have he : addP [] p = [] ++ [p] := rfl
          repeat
            first
            | refine xseq ?_
            | first
              | refine xregion ?_
              | refine xvalP (pv_move rfl) rfl rfl ?_
              | refine xvalP (pv_assign rfl) rfl rfl ?_
              | refine xvalP (pv_add1 rfl rfl (by omega)) rfl rfl ?_
              | refine xvalP (pv_sub1 rfl rfl (by omega)) rfl rfl ?_
              | refine xvalP (pv_bin2 rfl rfl rfl) rfl rfl ?_
              | refine xnil ?_
              | refine xthen ?_
              | refine xblock ?_
              | refine xval (qv_load ShpC.h rfl rfl rfl) rfl rfl ?_
              | refine xvalP (qv_fieldAddrB FldC.h rfl) rfl rfl ?_
              | refine xvalP (qv_fieldAddrE FldC.h rfl) rfl rfl ?_
              | refine xval (qv_loadB 0 ShpC.h rfl rfl rfl rfl) rfl rfl ?_
              | refine xval (qv_loadB 1 ShpC.h rfl rfl rfl rfl) rfl rfl ?_
              | refine xval (qv_loadB 2 ShpC.h rfl rfl rfl rfl) rfl rfl ?_
              | refine xval (qv_loadB 3 ShpC.h rfl rfl rfl rfl) rfl rfl ?_
              | refine xval (qv_loadB 4 ShpC.h rfl rfl rfl rfl) rfl rfl ?_
              | refine xvalP (pv_pick rfl rfl) rfl rfl ?_
              | refine xvalP (pv_len UndC.h rfl rfl) rfl rfl ?_
              | refine xvalP (pv_lenS UndC.h rfl) rfl rfl ?_
              | refine xvalP (pv_lenRb UndC.h rfl) rfl rfl ?_
              | refine xvalP (pv_lenV UndC.h rfl) rfl rfl ?_
              | refine xvalP (pv_not rfl) rfl rfl ?_
              | refine xvalP (pv_nilCheck rfl) rfl rfl ?_
              | refine xvalP (pv_nilCheckE rfl) rfl rfl ?_
              | refine xvalP (pv_nilCheckF rfl) rfl rfl ?_
              | refine xvalP (pv_extract rfl rfl) rfl rfl ?_
              | refine xvalP (qv_field FldC.h rfl rfl) rfl rfl ?_
              | refine xvalP (pv_indexAddr UndC.h ShpC.h rfl rfl rfl (map_at (by assumption))) rfl rfl ?_
              | refine xvalP (pv_indexAddrB UndC.h ShpC.h rfl rfl (Int.toNat_of_nonneg (by decide)).symm (by decide)) rfl rfl ?_
              | refine xvalP (pv_indexAddrE UndC.h ShpC.h rfl rfl (Int.toNat_of_nonneg (by decide)).symm (by decide)) rfl rfl ?_
              | refine xvalP (pv_eqB UndC.h rfl rfl) rfl rfl ?_
              | refine xvalP (pv_neB UndC.h rfl rfl) rfl rfl ?_
              | refine xvalP (pv_convI UndC.h UndC.h rfl) rfl rfl ?_
              | refine xvalP (pv_buildC StrC.h rfl rfl) rfl rfl ?_
              | refine xalloc InfC.h rfl rfl fun _ => ?_
              | refine xbuildSliceC UndC.h InfC.h rfl rfl rfl rfl rfl rfl fun _ => ?_
              | refine xvalP (pv_makeFuncC rfl) rfl rfl ?_
              | refine xbox rfl rfl rfl rfl fun _ => ?_
              | refine xstore 0 ShpC.h rfl rfl rfl rfl rfl rfl rfl ?_
              | refine xstore 1 ShpC.h rfl rfl rfl rfl rfl rfl rfl ?_
              | refine xstore 2 ShpC.h rfl rfl rfl rfl rfl rfl rfl ?_
              | refine xstore 3 ShpC.h rfl rfl rfl rfl rfl rfl rfl ?_
              | refine xstore 4 ShpC.h rfl rfl rfl rfl rfl rfl rfl ?_
              | refine xskip rfl rfl ?_
              | refine xskip0 rfl ?_
              | refine xcondT rfl ?_
              | refine xcondF rfl ?_
              | refine xskipc ?_
              | refine xexit ?_
              | refine xretc ?_
              | refine xin_normal ?_
              | refine xin_ret ?_
              | refine xthen_exit ?_
              | refine xthen_ret ?_
              | refine xin_same rfl ?_
              | refine xin_other rfl ?_
          refine xguardD rfl rfl (fun h9 => ?_) (fun h9 => ?_)
          · repeat
              first
              | refine xseq ?_
              | first
                | refine xregion ?_
                | refine xvalP (pv_move rfl) rfl rfl ?_
                | refine xvalP (pv_assign rfl) rfl rfl ?_
                | refine xvalP (pv_add1 rfl rfl (by omega)) rfl rfl ?_
                | refine xvalP (pv_sub1 rfl rfl (by omega)) rfl rfl ?_
                | refine xvalP (pv_bin2 rfl rfl rfl) rfl rfl ?_
                | refine xnil ?_
                | refine xthen ?_
                | refine xblock ?_
                | refine xval (qv_load ShpC.h rfl rfl rfl) rfl rfl ?_
                | refine xvalP (qv_fieldAddrB FldC.h rfl) rfl rfl ?_
                | refine xvalP (qv_fieldAddrE FldC.h rfl) rfl rfl ?_
                | refine xval (qv_loadB 0 ShpC.h rfl rfl rfl rfl) rfl rfl ?_
                | refine xval (qv_loadB 1 ShpC.h rfl rfl rfl rfl) rfl rfl ?_
                | refine xval (qv_loadB 2 ShpC.h rfl rfl rfl rfl) rfl rfl ?_
                | refine xval (qv_loadB 3 ShpC.h rfl rfl rfl rfl) rfl rfl ?_
                | refine xval (qv_loadB 4 ShpC.h rfl rfl rfl rfl) rfl rfl ?_
                | refine xvalP (pv_pick rfl rfl) rfl rfl ?_
                | refine xvalP (pv_len UndC.h rfl rfl) rfl rfl ?_
                | refine xvalP (pv_lenS UndC.h rfl) rfl rfl ?_
                | refine xvalP (pv_lenRb UndC.h rfl) rfl rfl ?_
                | refine xvalP (pv_lenV UndC.h rfl) rfl rfl ?_
                | refine xvalP (pv_not rfl) rfl rfl ?_
                | refine xvalP (pv_nilCheck rfl) rfl rfl ?_
                | refine xvalP (pv_nilCheckE rfl) rfl rfl ?_
                | refine xvalP (pv_nilCheckF rfl) rfl rfl ?_
                | refine xvalP (pv_extract rfl rfl) rfl rfl ?_
                | refine xvalP (qv_field FldC.h rfl rfl) rfl rfl ?_
                | refine xvalP (pv_indexAddr UndC.h ShpC.h rfl rfl rfl (map_at (by assumption))) rfl rfl ?_
                | refine xvalP (pv_indexAddrB UndC.h ShpC.h rfl rfl (Int.toNat_of_nonneg (by decide)).symm (by decide)) rfl rfl ?_
                | refine xvalP (pv_indexAddrE UndC.h ShpC.h rfl rfl (Int.toNat_of_nonneg (by decide)).symm (by decide)) rfl rfl ?_
                | refine xvalP (pv_eqB UndC.h rfl rfl) rfl rfl ?_
                | refine xvalP (pv_neB UndC.h rfl rfl) rfl rfl ?_
                | refine xvalP (pv_convI UndC.h UndC.h rfl) rfl rfl ?_
                | refine xvalP (pv_buildC StrC.h rfl rfl) rfl rfl ?_
                | refine xalloc InfC.h rfl rfl fun _ => ?_
                | refine xbuildSliceC UndC.h InfC.h rfl rfl rfl rfl rfl rfl fun _ => ?_
                | refine xvalP (pv_makeFuncC rfl) rfl rfl ?_
                | refine xbox rfl rfl rfl rfl fun _ => ?_
                | refine xstore 0 ShpC.h rfl rfl rfl rfl rfl rfl rfl ?_
                | refine xstore 1 ShpC.h rfl rfl rfl rfl rfl rfl rfl ?_
                | refine xstore 2 ShpC.h rfl rfl rfl rfl rfl rfl rfl ?_
                | refine xstore 3 ShpC.h rfl rfl rfl rfl rfl rfl rfl ?_
                | refine xstore 4 ShpC.h rfl rfl rfl rfl rfl rfl rfl ?_
                | refine xskip rfl rfl ?_
                | refine xskip0 rfl ?_
                | refine xcondT rfl ?_
                | refine xcondF rfl ?_
                | refine xskipc ?_
                | refine xexit ?_
                | refine xretc ?_
                | refine xin_normal ?_
                | refine xin_ret ?_
                | refine xthen_exit ?_
                | refine xthen_ret ?_
                | refine xin_same rfl ?_
                | refine xin_other rfl ?_
            refine xappendB (rows2 := [encP p]) UndC.h InfC.h 1 rfl (List.length_map _).symm rfl (.refl _) rfl (by rw [List.length_map]; exact hid) (encP_len _) rfl rfl ⟨by simp [maxLen] <;> omega, by simp <;> omega⟩ fun id2 hid2 => ?_
            repeat
              first
              | refine xseq ?_
              | first
                | refine xregion ?_
                | refine xvalP (pv_move rfl) rfl rfl ?_
                | refine xvalP (pv_assign rfl) rfl rfl ?_
                | refine xvalP (pv_add1 rfl rfl (by omega)) rfl rfl ?_
                | refine xvalP (pv_sub1 rfl rfl (by omega)) rfl rfl ?_
                | refine xvalP (pv_bin2 rfl rfl rfl) rfl rfl ?_
                | refine xnil ?_
                | refine xthen ?_
                | refine xblock ?_
                | refine xval (qv_load ShpC.h rfl rfl rfl) rfl rfl ?_
                | refine xvalP (qv_fieldAddrB FldC.h rfl) rfl rfl ?_
                | refine xvalP (qv_fieldAddrE FldC.h rfl) rfl rfl ?_
                | refine xval (qv_loadB 0 ShpC.h rfl rfl rfl rfl) rfl rfl ?_
                | refine xval (qv_loadB 1 ShpC.h rfl rfl rfl rfl) rfl rfl ?_
                | refine xval (qv_loadB 2 ShpC.h rfl rfl rfl rfl) rfl rfl ?_
                | refine xval (qv_loadB 3 ShpC.h rfl rfl rfl rfl) rfl rfl ?_
                | refine xval (qv_loadB 4 ShpC.h rfl rfl rfl rfl) rfl rfl ?_
                | refine xvalP (pv_pick rfl rfl) rfl rfl ?_
                | refine xvalP (pv_len UndC.h rfl rfl) rfl rfl ?_
                | refine xvalP (pv_lenS UndC.h rfl) rfl rfl ?_
                | refine xvalP (pv_lenRb UndC.h rfl) rfl rfl ?_
                | refine xvalP (pv_lenV UndC.h rfl) rfl rfl ?_
                | refine xvalP (pv_not rfl) rfl rfl ?_
                | refine xvalP (pv_nilCheck rfl) rfl rfl ?_
                | refine xvalP (pv_nilCheckE rfl) rfl rfl ?_
                | refine xvalP (pv_nilCheckF rfl) rfl rfl ?_
                | refine xvalP (pv_extract rfl rfl) rfl rfl ?_
                | refine xvalP (qv_field FldC.h rfl rfl) rfl rfl ?_
                | refine xvalP (pv_indexAddr UndC.h ShpC.h rfl rfl rfl (map_at (by assumption))) rfl rfl ?_
                | refine xvalP (pv_indexAddrB UndC.h ShpC.h rfl rfl (Int.toNat_of_nonneg (by decide)).symm (by decide)) rfl rfl ?_
                | refine xvalP (pv_indexAddrE UndC.h ShpC.h rfl rfl (Int.toNat_of_nonneg (by decide)).symm (by decide)) rfl rfl ?_
                | refine xvalP (pv_eqB UndC.h rfl rfl) rfl rfl ?_
                | refine xvalP (pv_neB UndC.h rfl rfl) rfl rfl ?_
                | refine xvalP (pv_convI UndC.h UndC.h rfl) rfl rfl ?_
                | refine xvalP (pv_buildC StrC.h rfl rfl) rfl rfl ?_
                | refine xalloc InfC.h rfl rfl fun _ => ?_
                | refine xbuildSliceC UndC.h InfC.h rfl rfl rfl rfl rfl rfl fun _ => ?_
                | refine xvalP (pv_makeFuncC rfl) rfl rfl ?_
                | refine xbox rfl rfl rfl rfl fun _ => ?_
                | refine xstore 0 ShpC.h rfl rfl rfl rfl rfl rfl rfl ?_
                | refine xstore 1 ShpC.h rfl rfl rfl rfl rfl rfl rfl ?_
                | refine xstore 2 ShpC.h rfl rfl rfl rfl rfl rfl rfl ?_
                | refine xstore 3 ShpC.h rfl rfl rfl rfl rfl rfl rfl ?_
                | refine xstore 4 ShpC.h rfl rfl rfl rfl rfl rfl rfl ?_
                | refine xskip rfl rfl ?_
                | refine xskip0 rfl ?_
                | refine xcondT rfl ?_
                | refine xcondF rfl ?_
                | refine xskipc ?_
                | refine xexit ?_
                | refine xretc ?_
                | refine xin_normal ?_
                | refine xin_ret ?_
                | refine xthen_exit ?_
                | refine xthen_ret ?_
                | refine xin_same rfl ?_
                | refine xin_other rfl ?_
            refine xagain ⟨k' + 1, addP [] p, id2, hk', rfl, hle.1, hle.2, by rw [he]; simpa using hid2, hres', rfl⟩ (by omega) ⟨by (repeat (first | exact ImpT.nil _ | refine ImpT.cons rfl (by first | with_reducible exact Wk.refl _ | exact Wk.nil_own _ | exact Wk.nil_pl _ | with_reducible exact Wk.tok _ _ _ | exact Wk.tok _ _ _ | exact Wk.eq (by first | rfl | (simp [he]; done) | (simp [he]; omega))) ?_)), ?_⟩
            rw [he, List.map_append]
            exact SubM.of (.drop (.refl _)) (.nil _)
          · repeat
              first
              | refine xseq ?_
              | first
                | refine xregion ?_
                | refine xvalP (pv_move rfl) rfl rfl ?_
                | refine xvalP (pv_assign rfl) rfl rfl ?_
                | refine xvalP (pv_add1 rfl rfl (by omega)) rfl rfl ?_
                | refine xvalP (pv_sub1 rfl rfl (by omega)) rfl rfl ?_
                | refine xvalP (pv_bin2 rfl rfl rfl) rfl rfl ?_
                | refine xnil ?_
                | refine xthen ?_
                | refine xblock ?_
                | refine xval (qv_load ShpC.h rfl rfl rfl) rfl rfl ?_
                | refine xvalP (qv_fieldAddrB FldC.h rfl) rfl rfl ?_
                | refine xvalP (qv_fieldAddrE FldC.h rfl) rfl rfl ?_
                | refine xval (qv_loadB 0 ShpC.h rfl rfl rfl rfl) rfl rfl ?_
                | refine xval (qv_loadB 1 ShpC.h rfl rfl rfl rfl) rfl rfl ?_
                | refine xval (qv_loadB 2 ShpC.h rfl rfl rfl rfl) rfl rfl ?_
                | refine xval (qv_loadB 3 ShpC.h rfl rfl rfl rfl) rfl rfl ?_
                | refine xval (qv_loadB 4 ShpC.h rfl rfl rfl rfl) rfl rfl ?_
                | refine xvalP (pv_pick rfl rfl) rfl rfl ?_
                | refine xvalP (pv_len UndC.h rfl rfl) rfl rfl ?_
                | refine xvalP (pv_lenS UndC.h rfl) rfl rfl ?_
                | refine xvalP (pv_lenRb UndC.h rfl) rfl rfl ?_
                | refine xvalP (pv_lenV UndC.h rfl) rfl rfl ?_
                | refine xvalP (pv_not rfl) rfl rfl ?_
                | refine xvalP (pv_nilCheck rfl) rfl rfl ?_
                | refine xvalP (pv_nilCheckE rfl) rfl rfl ?_
                | refine xvalP (pv_nilCheckF rfl) rfl rfl ?_
                | refine xvalP (pv_extract rfl rfl) rfl rfl ?_
                | refine xvalP (qv_field FldC.h rfl rfl) rfl rfl ?_
                | refine xvalP (pv_indexAddr UndC.h ShpC.h rfl rfl rfl (map_at (by assumption))) rfl rfl ?_
                | refine xvalP (pv_indexAddrB UndC.h ShpC.h rfl rfl (Int.toNat_of_nonneg (by decide)).symm (by decide)) rfl rfl ?_
                | refine xvalP (pv_indexAddrE UndC.h ShpC.h rfl rfl (Int.toNat_of_nonneg (by decide)).symm (by decide)) rfl rfl ?_
                | refine xvalP (pv_eqB UndC.h rfl rfl) rfl rfl ?_
                | refine xvalP (pv_neB UndC.h rfl rfl) rfl rfl ?_
                | refine xvalP (pv_convI UndC.h UndC.h rfl) rfl rfl ?_
                | refine xvalP (pv_buildC StrC.h rfl rfl) rfl rfl ?_
                | refine xalloc InfC.h rfl rfl fun _ => ?_
                | refine xbuildSliceC UndC.h InfC.h rfl rfl rfl rfl rfl rfl fun _ => ?_
                | refine xvalP (pv_makeFuncC rfl) rfl rfl ?_
                | refine xbox rfl rfl rfl rfl fun _ => ?_
                | refine xstore 0 ShpC.h rfl rfl rfl rfl rfl rfl rfl ?_
                | refine xstore 1 ShpC.h rfl rfl rfl rfl rfl rfl rfl ?_
                | refine xstore 2 ShpC.h rfl rfl rfl rfl rfl rfl rfl ?_
                | refine xstore 3 ShpC.h rfl rfl rfl rfl rfl rfl rfl ?_
                | refine xstore 4 ShpC.h rfl rfl rfl rfl rfl rfl rfl ?_
                | refine xskip rfl rfl ?_
                | refine xskip0 rfl ?_
                | refine xcondT rfl ?_
                | refine xcondF rfl ?_
                | refine xskipc ?_
                | refine xexit ?_
                | refine xretc ?_
                | refine xin_normal ?_
                | refine xin_ret ?_
                | refine xthen_exit ?_
                | refine xthen_ret ?_
                | refine xin_same rfl ?_
                | refine xin_other rfl ?_
            refine xappendB (rows2 := [encP p]) UndC.h InfC.h 1 rfl (List.length_map _).symm rfl (.refl _) rfl (by rw [List.length_map]; exact hid) (encP_len _) rfl rfl ⟨by simp [maxLen] <;> omega, by simp <;> omega⟩ fun id2 hid2 => ?_
            repeat
              first
              | refine xseq ?_
              | first
                | refine xregion ?_
                | refine xvalP (pv_move rfl) rfl rfl ?_
                | refine xvalP (pv_assign rfl) rfl rfl ?_
                | refine xvalP (pv_add1 rfl rfl (by omega)) rfl rfl ?_
                | refine xvalP (pv_sub1 rfl rfl (by omega)) rfl rfl ?_
                | refine xvalP (pv_bin2 rfl rfl rfl) rfl rfl ?_
                | refine xnil ?_
                | refine xthen ?_
                | refine xblock ?_
                | refine xval (qv_load ShpC.h rfl rfl rfl) rfl rfl ?_
                | refine xvalP (qv_fieldAddrB FldC.h rfl) rfl rfl ?_
                | refine xvalP (qv_fieldAddrE FldC.h rfl) rfl rfl ?_
                | refine xval (qv_loadB 0 ShpC.h rfl rfl rfl rfl) rfl rfl ?_
                | refine xval (qv_loadB 1 ShpC.h rfl rfl rfl rfl) rfl rfl ?_
                | refine xval (qv_loadB 2 ShpC.h rfl rfl rfl rfl) rfl rfl ?_
                | refine xval (qv_loadB 3 ShpC.h rfl rfl rfl rfl) rfl rfl ?_
                | refine xval (qv_loadB 4 ShpC.h rfl rfl rfl rfl) rfl rfl ?_
                | refine xvalP (pv_pick rfl rfl) rfl rfl ?_
                | refine xvalP (pv_len UndC.h rfl rfl) rfl rfl ?_
                | refine xvalP (pv_lenS UndC.h rfl) rfl rfl ?_
                | refine xvalP (pv_lenRb UndC.h rfl) rfl rfl ?_
                | refine xvalP (pv_lenV UndC.h rfl) rfl rfl ?_
                | refine xvalP (pv_not rfl) rfl rfl ?_
                | refine xvalP (pv_nilCheck rfl) rfl rfl ?_
                | refine xvalP (pv_nilCheckE rfl) rfl rfl ?_
                | refine xvalP (pv_nilCheckF rfl) rfl rfl ?_
                | refine xvalP (pv_extract rfl rfl) rfl rfl ?_
                | refine xvalP (qv_field FldC.h rfl rfl) rfl rfl ?_
                | refine xvalP (pv_indexAddr UndC.h ShpC.h rfl rfl rfl (map_at (by assumption))) rfl rfl ?_
                | refine xvalP (pv_indexAddrB UndC.h ShpC.h rfl rfl (Int.toNat_of_nonneg (by decide)).symm (by decide)) rfl rfl ?_
                | refine xvalP (pv_indexAddrE UndC.h ShpC.h rfl rfl (Int.toNat_of_nonneg (by decide)).symm (by decide)) rfl rfl ?_
                | refine xvalP (pv_eqB UndC.h rfl rfl) rfl rfl ?_
                | refine xvalP (pv_neB UndC.h rfl rfl) rfl rfl ?_
                | refine xvalP (pv_convI UndC.h UndC.h rfl) rfl rfl ?_
                | refine xvalP (pv_buildC StrC.h rfl rfl) rfl rfl ?_
                | refine xalloc InfC.h rfl rfl fun _ => ?_
                | refine xbuildSliceC UndC.h InfC.h rfl rfl rfl rfl rfl rfl fun _ => ?_
                | refine xvalP (pv_makeFuncC rfl) rfl rfl ?_
                | refine xbox rfl rfl rfl rfl fun _ => ?_
                | refine xstore 0 ShpC.h rfl rfl rfl rfl rfl rfl rfl ?_
                | refine xstore 1 ShpC.h rfl rfl rfl rfl rfl rfl rfl ?_
                | refine xstore 2 ShpC.h rfl rfl rfl rfl rfl rfl rfl ?_
                | refine xstore 3 ShpC.h rfl rfl rfl rfl rfl rfl rfl ?_
                | refine xstore 4 ShpC.h rfl rfl rfl rfl rfl rfl rfl ?_
                | refine xskip rfl rfl ?_
                | refine xskip0 rfl ?_
                | refine xcondT rfl ?_
                | refine xcondF rfl ?_
                | refine xskipc ?_
                | refine xexit ?_
                | refine xretc ?_
                | refine xin_normal ?_
                | refine xin_ret ?_
                | refine xthen_exit ?_
                | refine xthen_ret ?_
                | refine xin_same rfl ?_
                | refine xin_other rfl ?_
            refine xagain ⟨k' + 1, addP [] p, id2, hk', rfl, hle.1, hle.2, by rw [he]; simpa using hid2, hres', rfl⟩ (by omega) ⟨by (repeat (first | exact ImpT.nil _ | refine ImpT.cons rfl (by first | with_reducible exact Wk.refl _ | exact Wk.nil_own _ | exact Wk.nil_pl _ | with_reducible exact Wk.tok _ _ _ | exact Wk.tok _ _ _ | exact Wk.eq (by first | rfl | (simp [he]; done) | (simp [he]; omega))) ?_)), ?_⟩
            rw [he, List.map_append]
            exact SubM.of (.drop (.refl _)) (.nil _)
        · simp only [List.concat_eq_append] at *
          have hol1 : (xs ++ [x]).length = xs.length + 1 := by simp
          obtain ⟨bb, cap, rfl, hc1, hc2⟩ := hid.some_ (by omega)
          have hi : ((xs ++ [x]).map encP)[(xs ++ [x]).length - 1]? = some (encP x) := by rw [hol1]; simp
          have hxk : x.2.2.length ≤ k := hob x (by simp)
          repeat
            first
            | refine xseq ?_
            | first
              | refine xregion ?_
              | refine xvalP (pv_move rfl) rfl rfl ?_
              | refine xvalP (pv_assign rfl) rfl rfl ?_
              | refine xvalP (pv_add1 rfl rfl (by omega)) rfl rfl ?_
              | refine xvalP (pv_sub1 rfl rfl (by omega)) rfl rfl ?_
              | refine xvalP (pv_bin2 rfl rfl rfl) rfl rfl ?_
              | refine xnil ?_
              | refine xthen ?_
              | refine xblock ?_
              | refine xval (qv_load ShpC.h rfl rfl rfl) rfl rfl ?_
              | refine xvalP (qv_fieldAddrB FldC.h rfl) rfl rfl ?_
              | refine xvalP (qv_fieldAddrE FldC.h rfl) rfl rfl ?_
              | refine xval (qv_loadB 0 ShpC.h rfl rfl rfl rfl) rfl rfl ?_
              | refine xval (qv_loadB 1 ShpC.h rfl rfl rfl rfl) rfl rfl ?_
              | refine xval (qv_loadB 2 ShpC.h rfl rfl rfl rfl) rfl rfl ?_
              | refine xval (qv_loadB 3 ShpC.h rfl rfl rfl rfl) rfl rfl ?_
              | refine xval (qv_loadB 4 ShpC.h rfl rfl rfl rfl) rfl rfl ?_
              | refine xvalP (pv_pick rfl rfl) rfl rfl ?_
              | refine xvalP (pv_len UndC.h rfl rfl) rfl rfl ?_
              | refine xvalP (pv_lenS UndC.h rfl) rfl rfl ?_
              | refine xvalP (pv_lenRb UndC.h rfl) rfl rfl ?_
              | refine xvalP (pv_lenV UndC.h rfl) rfl rfl ?_
              | refine xvalP (pv_not rfl) rfl rfl ?_
              | refine xvalP (pv_nilCheck rfl) rfl rfl ?_
              | refine xvalP (pv_nilCheckE rfl) rfl rfl ?_
              | refine xvalP (pv_nilCheckF rfl) rfl rfl ?_
              | refine xvalP (pv_extract rfl rfl) rfl rfl ?_
              | refine xvalP (qv_field FldC.h rfl rfl) rfl rfl ?_
              | refine xvalP (pv_indexAddr UndC.h ShpC.h rfl rfl rfl (map_at (by assumption))) rfl rfl ?_
              | refine xvalP (pv_indexAddrB UndC.h ShpC.h rfl rfl (Int.toNat_of_nonneg (by decide)).symm (by decide)) rfl rfl ?_
              | refine xvalP (pv_indexAddrE UndC.h ShpC.h rfl rfl (Int.toNat_of_nonneg (by decide)).symm (by decide)) rfl rfl ?_
              | refine xvalP (pv_eqB UndC.h rfl rfl) rfl rfl ?_
              | refine xvalP (pv_neB UndC.h rfl rfl) rfl rfl ?_
              | refine xvalP (pv_convI UndC.h UndC.h rfl) rfl rfl ?_
              | refine xvalP (pv_buildC StrC.h rfl rfl) rfl rfl ?_
              | refine xalloc InfC.h rfl rfl fun _ => ?_
              | refine xbuildSliceC UndC.h InfC.h rfl rfl rfl rfl rfl rfl fun _ => ?_
              | refine xvalP (pv_makeFuncC rfl) rfl rfl ?_
              | refine xbox rfl rfl rfl rfl fun _ => ?_
              | refine xstore 0 ShpC.h rfl rfl rfl rfl rfl rfl rfl ?_
              | refine xstore 1 ShpC.h rfl rfl rfl rfl rfl rfl rfl ?_
              | refine xstore 2 ShpC.h rfl rfl rfl rfl rfl rfl rfl ?_
              | refine xstore 3 ShpC.h rfl rfl rfl rfl rfl rfl rfl ?_
              | refine xstore 4 ShpC.h rfl rfl rfl rfl rfl rfl rfl ?_
              | refine xskip rfl rfl ?_
              | refine xskip0 rfl ?_
              | refine xcondT rfl ?_
              | refine xcondF rfl ?_
              | refine xskipc ?_
              | refine xexit ?_
              | refine xretc ?_
              | refine xin_normal ?_
              | refine xin_ret ?_
              | refine xthen_exit ?_
              | refine xthen_ret ?_
              | refine xin_same rfl ?_
              | refine xin_other rfl ?_
          refine xguardD rfl rfl (fun h9 => ?_) (fun h9 => ?_)
          · repeat
              first
              | refine xseq ?_
              | first
                | refine xregion ?_
                | refine xvalP (pv_move rfl) rfl rfl ?_
                | refine xvalP (pv_assign rfl) rfl rfl ?_
                | refine xvalP (pv_add1 rfl rfl (by omega)) rfl rfl ?_
                | refine xvalP (pv_sub1 rfl rfl (by omega)) rfl rfl ?_
                | refine xvalP (pv_bin2 rfl rfl rfl) rfl rfl ?_
                | refine xnil ?_
                | refine xthen ?_
                | refine xblock ?_
                | refine xval (qv_load ShpC.h rfl rfl rfl) rfl rfl ?_
                | refine xvalP (qv_fieldAddrB FldC.h rfl) rfl rfl ?_
                | refine xvalP (qv_fieldAddrE FldC.h rfl) rfl rfl ?_
                | refine xval (qv_loadB 0 ShpC.h rfl rfl rfl rfl) rfl rfl ?_
                | refine xval (qv_loadB 1 ShpC.h rfl rfl rfl rfl) rfl rfl ?_
                | refine xval (qv_loadB 2 ShpC.h rfl rfl rfl rfl) rfl rfl ?_
                | refine xval (qv_loadB 3 ShpC.h rfl rfl rfl rfl) rfl rfl ?_
                | refine xval (qv_loadB 4 ShpC.h rfl rfl rfl rfl) rfl rfl ?_
                | refine xvalP (pv_pick rfl rfl) rfl rfl ?_
                | refine xvalP (pv_len UndC.h rfl rfl) rfl rfl ?_
                | refine xvalP (pv_lenS UndC.h rfl) rfl rfl ?_
                | refine xvalP (pv_lenRb UndC.h rfl) rfl rfl ?_
                | refine xvalP (pv_lenV UndC.h rfl) rfl rfl ?_
                | refine xvalP (pv_not rfl) rfl rfl ?_
                | refine xvalP (pv_nilCheck rfl) rfl rfl ?_
                | refine xvalP (pv_nilCheckE rfl) rfl rfl ?_
                | refine xvalP (pv_nilCheckF rfl) rfl rfl ?_
                | refine xvalP (pv_extract rfl rfl) rfl rfl ?_
                | refine xvalP (qv_field FldC.h rfl rfl) rfl rfl ?_
                | refine xvalP (pv_indexAddr UndC.h ShpC.h rfl rfl rfl (map_at (by assumption))) rfl rfl ?_
                | refine xvalP (pv_indexAddrB UndC.h ShpC.h rfl rfl (Int.toNat_of_nonneg (by decide)).symm (by decide)) rfl rfl ?_
                | refine xvalP (pv_indexAddrE UndC.h ShpC.h rfl rfl (Int.toNat_of_nonneg (by decide)).symm (by decide)) rfl rfl ?_
                | refine xvalP (pv_eqB UndC.h rfl rfl) rfl rfl ?_
                | refine xvalP (pv_neB UndC.h rfl rfl) rfl rfl ?_
                | refine xvalP (pv_convI UndC.h UndC.h rfl) rfl rfl ?_
                | refine xvalP (pv_buildC StrC.h rfl rfl) rfl rfl ?_
                | refine xalloc InfC.h rfl rfl fun _ => ?_
                | refine xbuildSliceC UndC.h InfC.h rfl rfl rfl rfl rfl rfl fun _ => ?_
                | refine xvalP (pv_makeFuncC rfl) rfl rfl ?_
                | refine xbox rfl rfl rfl rfl fun _ => ?_
                | refine xstore 0 ShpC.h rfl rfl rfl rfl rfl rfl rfl ?_
                | refine xstore 1 ShpC.h rfl rfl rfl rfl rfl rfl rfl ?_
                | refine xstore 2 ShpC.h rfl rfl rfl rfl rfl rfl rfl ?_
                | refine xstore 3 ShpC.h rfl rfl rfl rfl rfl rfl rfl ?_
                | refine xstore 4 ShpC.h rfl rfl rfl rfl rfl rfl rfl ?_
                | refine xskip rfl rfl ?_
                | refine xskip0 rfl ?_
                | refine xcondT rfl ?_
                | refine xcondF rfl ?_
                | refine xskipc ?_
                | refine xexit ?_
                | refine xretc ?_
                | refine xin_normal ?_
                | refine xin_ret ?_
                | refine xthen_exit ?_
                | refine xthen_ret ?_
                | refine xin_same rfl ?_
                | refine xin_other rfl ?_
            refine xguardD rfl rfl (fun h10 => ?_) (fun h10 => absurd (Int.natCast_nonneg _) h10)
            repeat
              first
              | refine xseq ?_
              | first
                | refine xregion ?_
                | refine xvalP (pv_move rfl) rfl rfl ?_
                | refine xvalP (pv_assign rfl) rfl rfl ?_
                | refine xvalP (pv_add1 rfl rfl (by omega)) rfl rfl ?_
                | refine xvalP (pv_sub1 rfl rfl (by omega)) rfl rfl ?_
                | refine xvalP (pv_bin2 rfl rfl rfl) rfl rfl ?_
                | refine xnil ?_
                | refine xthen ?_
                | refine xblock ?_
                | refine xval (qv_load ShpC.h rfl rfl rfl) rfl rfl ?_
                | refine xvalP (qv_fieldAddrB FldC.h rfl) rfl rfl ?_
                | refine xvalP (qv_fieldAddrE FldC.h rfl) rfl rfl ?_
                | refine xval (qv_loadB 0 ShpC.h rfl rfl rfl rfl) rfl rfl ?_
                | refine xval (qv_loadB 1 ShpC.h rfl rfl rfl rfl) rfl rfl ?_
                | refine xval (qv_loadB 2 ShpC.h rfl rfl rfl rfl) rfl rfl ?_
                | refine xval (qv_loadB 3 ShpC.h rfl rfl rfl rfl) rfl rfl ?_
                | refine xval (qv_loadB 4 ShpC.h rfl rfl rfl rfl) rfl rfl ?_
                | refine xvalP (pv_pick rfl rfl) rfl rfl ?_
                | refine xvalP (pv_len UndC.h rfl rfl) rfl rfl ?_
                | refine xvalP (pv_lenS UndC.h rfl) rfl rfl ?_
                | refine xvalP (pv_lenRb UndC.h rfl) rfl rfl ?_
                | refine xvalP (pv_lenV UndC.h rfl) rfl rfl ?_
                | refine xvalP (pv_not rfl) rfl rfl ?_
                | refine xvalP (pv_nilCheck rfl) rfl rfl ?_
                | refine xvalP (pv_nilCheckE rfl) rfl rfl ?_
                | refine xvalP (pv_nilCheckF rfl) rfl rfl ?_
                | refine xvalP (pv_extract rfl rfl) rfl rfl ?_
                | refine xvalP (qv_field FldC.h rfl rfl) rfl rfl ?_
                | refine xvalP (pv_indexAddr UndC.h ShpC.h rfl rfl rfl (map_at (by assumption))) rfl rfl ?_
                | refine xvalP (pv_indexAddrB UndC.h ShpC.h rfl rfl (Int.toNat_of_nonneg (by decide)).symm (by decide)) rfl rfl ?_
                | refine xvalP (pv_indexAddrE UndC.h ShpC.h rfl rfl (Int.toNat_of_nonneg (by decide)).symm (by decide)) rfl rfl ?_
                | refine xvalP (pv_eqB UndC.h rfl rfl) rfl rfl ?_
                | refine xvalP (pv_neB UndC.h rfl rfl) rfl rfl ?_
                | refine xvalP (pv_convI UndC.h UndC.h rfl) rfl rfl ?_
                | refine xvalP (pv_buildC StrC.h rfl rfl) rfl rfl ?_
                | refine xalloc InfC.h rfl rfl fun _ => ?_
                | refine xbuildSliceC UndC.h InfC.h rfl rfl rfl rfl rfl rfl fun _ => ?_
                | refine xvalP (pv_makeFuncC rfl) rfl rfl ?_
                | refine xbox rfl rfl rfl rfl fun _ => ?_
                | refine xstore 0 ShpC.h rfl rfl rfl rfl rfl rfl rfl ?_
                | refine xstore 1 ShpC.h rfl rfl rfl rfl rfl rfl rfl ?_
                | refine xstore 2 ShpC.h rfl rfl rfl rfl rfl rfl rfl ?_
                | refine xstore 3 ShpC.h rfl rfl rfl rfl rfl rfl rfl ?_
                | refine xstore 4 ShpC.h rfl rfl rfl rfl rfl rfl rfl ?_
                | refine xskip rfl rfl ?_
                | refine xskip0 rfl ?_
                | refine xcondT rfl ?_
                | refine xcondF rfl ?_
                | refine xskipc ?_
                | refine xexit ?_
                | refine xretc ?_
                | refine xin_normal ?_
                | refine xin_ret ?_
                | refine xthen_exit ?_
                | refine xthen_ret ?_
                | refine xin_same rfl ?_
                | refine xin_other rfl ?_
            refine xvalP (pv_indexAddrV UndC.h ShpC.h rfl rfl rfl (by omega)) rfl rfl ?_
            repeat
              first
              | refine xseq ?_
              | first
                | refine xregion ?_
                | refine xvalP (pv_move rfl) rfl rfl ?_
                | refine xvalP (pv_assign rfl) rfl rfl ?_
                | refine xvalP (pv_add1 rfl rfl (by omega)) rfl rfl ?_
                | refine xvalP (pv_sub1 rfl rfl (by omega)) rfl rfl ?_
                | refine xvalP (pv_bin2 rfl rfl rfl) rfl rfl ?_
                | refine xnil ?_
                | refine xthen ?_
                | refine xblock ?_
                | refine xval (qv_load ShpC.h rfl rfl rfl) rfl rfl ?_
                | refine xvalP (qv_fieldAddrB FldC.h rfl) rfl rfl ?_
                | refine xvalP (qv_fieldAddrE FldC.h rfl) rfl rfl ?_
                | refine xval (qv_loadB 0 ShpC.h rfl rfl rfl rfl) rfl rfl ?_
                | refine xval (qv_loadB 1 ShpC.h rfl rfl rfl rfl) rfl rfl ?_
                | refine xval (qv_loadB 2 ShpC.h rfl rfl rfl rfl) rfl rfl ?_
                | refine xval (qv_loadB 3 ShpC.h rfl rfl rfl rfl) rfl rfl ?_
                | refine xval (qv_loadB 4 ShpC.h rfl rfl rfl rfl) rfl rfl ?_
                | refine xvalP (pv_pick rfl rfl) rfl rfl ?_
                | refine xvalP (pv_len UndC.h rfl rfl) rfl rfl ?_
                | refine xvalP (pv_lenS UndC.h rfl) rfl rfl ?_
                | refine xvalP (pv_lenRb UndC.h rfl) rfl rfl ?_
                | refine xvalP (pv_lenV UndC.h rfl) rfl rfl ?_
                | refine xvalP (pv_not rfl) rfl rfl ?_
                | refine xvalP (pv_nilCheck rfl) rfl rfl ?_
                | refine xvalP (pv_nilCheckE rfl) rfl rfl ?_
                | refine xvalP (pv_nilCheckF rfl) rfl rfl ?_
                | refine xvalP (pv_extract rfl rfl) rfl rfl ?_
                | refine xvalP (qv_field FldC.h rfl rfl) rfl rfl ?_
                | refine xvalP (pv_indexAddr UndC.h ShpC.h rfl rfl rfl (map_at (by assumption))) rfl rfl ?_
                | refine xvalP (pv_indexAddrB UndC.h ShpC.h rfl rfl (Int.toNat_of_nonneg (by decide)).symm (by decide)) rfl rfl ?_
                | refine xvalP (pv_indexAddrE UndC.h ShpC.h rfl rfl (Int.toNat_of_nonneg (by decide)).symm (by decide)) rfl rfl ?_
                | refine xvalP (pv_eqB UndC.h rfl rfl) rfl rfl ?_
                | refine xvalP (pv_neB UndC.h rfl rfl) rfl rfl ?_
                | refine xvalP (pv_convI UndC.h UndC.h rfl) rfl rfl ?_
                | refine xvalP (pv_buildC StrC.h rfl rfl) rfl rfl ?_
                | refine xalloc InfC.h rfl rfl fun _ => ?_
                | refine xbuildSliceC UndC.h InfC.h rfl rfl rfl rfl rfl rfl fun _ => ?_
                | refine xvalP (pv_makeFuncC rfl) rfl rfl ?_
                | refine xbox rfl rfl rfl rfl fun _ => ?_
                | refine xstore 0 ShpC.h rfl rfl rfl rfl rfl rfl rfl ?_
                | refine xstore 1 ShpC.h rfl rfl rfl rfl rfl rfl rfl ?_
                | refine xstore 2 ShpC.h rfl rfl rfl rfl rfl rfl rfl ?_
                | refine xstore 3 ShpC.h rfl rfl rfl rfl rfl rfl rfl ?_
                | refine xstore 4 ShpC.h rfl rfl rfl rfl rfl rfl rfl ?_
                | refine xskip rfl rfl ?_
                | refine xskip0 rfl ?_
                | refine xcondT rfl ?_
                | refine xcondF rfl ?_
                | refine xskipc ?_
                | refine xexit ?_
                | refine xretc ?_
                | refine xin_normal ?_
                | refine xin_ret ?_
                | refine xthen_exit ?_
                | refine xthen_ret ?_
                | refine xin_same rfl ?_
                | refine xin_other rfl ?_
            refine xval (qv_loadR 1 (pre := []) ShpC.h rfl rfl (encP_len _) hi rfl rfl (by decide)) rfl rfl ?_
            repeat
              first
              | refine xseq ?_
              | first
                | refine xregion ?_
                | refine xvalP (pv_move rfl) rfl rfl ?_
                | refine xvalP (pv_assign rfl) rfl rfl ?_
                | refine xvalP (pv_add1 rfl rfl (by omega)) rfl rfl ?_
                | refine xvalP (pv_sub1 rfl rfl (by omega)) rfl rfl ?_
                | refine xvalP (pv_bin2 rfl rfl rfl) rfl rfl ?_
                | refine xnil ?_
                | refine xthen ?_
                | refine xblock ?_
                | refine xval (qv_load ShpC.h rfl rfl rfl) rfl rfl ?_
                | refine xvalP (qv_fieldAddrB FldC.h rfl) rfl rfl ?_
                | refine xvalP (qv_fieldAddrE FldC.h rfl) rfl rfl ?_
                | refine xval (qv_loadB 0 ShpC.h rfl rfl rfl rfl) rfl rfl ?_
                | refine xval (qv_loadB 1 ShpC.h rfl rfl rfl rfl) rfl rfl ?_
                | refine xval (qv_loadB 2 ShpC.h rfl rfl rfl rfl) rfl rfl ?_
                | refine xval (qv_loadB 3 ShpC.h rfl rfl rfl rfl) rfl rfl ?_
                | refine xval (qv_loadB 4 ShpC.h rfl rfl rfl rfl) rfl rfl ?_
                | refine xvalP (pv_pick rfl rfl) rfl rfl ?_
                | refine xvalP (pv_len UndC.h rfl rfl) rfl rfl ?_
                | refine xvalP (pv_lenS UndC.h rfl) rfl rfl ?_
                | refine xvalP (pv_lenRb UndC.h rfl) rfl rfl ?_
                | refine xvalP (pv_lenV UndC.h rfl) rfl rfl ?_
                | refine xvalP (pv_not rfl) rfl rfl ?_
                | refine xvalP (pv_nilCheck rfl) rfl rfl ?_
                | refine xvalP (pv_nilCheckE rfl) rfl rfl ?_
                | refine xvalP (pv_nilCheckF rfl) rfl rfl ?_
                | refine xvalP (pv_extract rfl rfl) rfl rfl ?_
                | refine xvalP (qv_field FldC.h rfl rfl) rfl rfl ?_
                | refine xvalP (pv_indexAddr UndC.h ShpC.h rfl rfl rfl (map_at (by assumption))) rfl rfl ?_
                | refine xvalP (pv_indexAddrB UndC.h ShpC.h rfl rfl (Int.toNat_of_nonneg (by decide)).symm (by decide)) rfl rfl ?_
                | refine xvalP (pv_indexAddrE UndC.h ShpC.h rfl rfl (Int.toNat_of_nonneg (by decide)).symm (by decide)) rfl rfl ?_
                | refine xvalP (pv_eqB UndC.h rfl rfl) rfl rfl ?_
                | refine xvalP (pv_neB UndC.h rfl rfl) rfl rfl ?_
                | refine xvalP (pv_convI UndC.h UndC.h rfl) rfl rfl ?_
                | refine xvalP (pv_buildC StrC.h rfl rfl) rfl rfl ?_
                | refine xalloc InfC.h rfl rfl fun _ => ?_
                | refine xbuildSliceC UndC.h InfC.h rfl rfl rfl rfl rfl rfl fun _ => ?_
                | refine xvalP (pv_makeFuncC rfl) rfl rfl ?_
                | refine xbox rfl rfl rfl rfl fun _ => ?_
                | refine xstore 0 ShpC.h rfl rfl rfl rfl rfl rfl rfl ?_
                | refine xstore 1 ShpC.h rfl rfl rfl rfl rfl rfl rfl ?_
                | refine xstore 2 ShpC.h rfl rfl rfl rfl rfl rfl rfl ?_
                | refine xstore 3 ShpC.h rfl rfl rfl rfl rfl rfl rfl ?_
                | refine xstore 4 ShpC.h rfl rfl rfl rfl rfl rfl rfl ?_
                | refine xskip rfl rfl ?_
                | refine xskip0 rfl ?_
                | refine xcondT rfl ?_
                | refine xcondF rfl ?_
                | refine xskipc ?_
                | refine xexit ?_
                | refine xretc ?_
                | refine xin_normal ?_
                | refine xin_ret ?_
                | refine xthen_exit ?_
                | refine xthen_ret ?_
                | refine xin_same rfl ?_
                | refine xin_other rfl ?_
            refine xcondD rfl (fun h11 => ?_) (fun h11 => ?_)
            · have he : addP (xs ++ [x]) p = xs ++ [(0, 0, x.2.2 ++ p.2.2)] := by rw [addP_snoc, if_pos ⟨by omega, by omega⟩]
              have hst : (xs ++ [(0, 0, x.2.2 ++ p.2.2)]).map encP = ((xs ++ [x]).map encP).set ((xs ++ [x]).length - 1) [.v (.int .i64 0), .v (.int .i64 0), .sl 1 none (x.2.2.map eb ++ p.2.2.map eb)] := by rw [hol1]; simp [encP]
              have hpl : p.2.2.length ≤ 1 := hp
              have hl1 : (x.2.2.map eb).length = x.2.2.length := List.length_map _
              have hl2 : (p.2.2.map eb).length = p.2.2.length := List.length_map _
              repeat
                first
                | refine xseq ?_
                | first
                  | refine xregion ?_
                  | refine xvalP (pv_move rfl) rfl rfl ?_
                  | refine xvalP (pv_assign rfl) rfl rfl ?_
                  | refine xvalP (pv_add1 rfl rfl (by omega)) rfl rfl ?_
                  | refine xvalP (pv_sub1 rfl rfl (by omega)) rfl rfl ?_
                  | refine xvalP (pv_bin2 rfl rfl rfl) rfl rfl ?_
                  | refine xnil ?_
                  | refine xthen ?_
                  | refine xblock ?_
                  | refine xval (qv_load ShpC.h rfl rfl rfl) rfl rfl ?_
                  | refine xvalP (qv_fieldAddrB FldC.h rfl) rfl rfl ?_
                  | refine xvalP (qv_fieldAddrE FldC.h rfl) rfl rfl ?_
                  | refine xval (qv_loadB 0 ShpC.h rfl rfl rfl rfl) rfl rfl ?_
                  | refine xval (qv_loadB 1 ShpC.h rfl rfl rfl rfl) rfl rfl ?_
                  | refine xval (qv_loadB 2 ShpC.h rfl rfl rfl rfl) rfl rfl ?_
                  | refine xval (qv_loadB 3 ShpC.h rfl rfl rfl rfl) rfl rfl ?_
                  | refine xval (qv_loadB 4 ShpC.h rfl rfl rfl rfl) rfl rfl ?_
                  | refine xvalP (pv_pick rfl rfl) rfl rfl ?_
                  | refine xvalP (pv_len UndC.h rfl rfl) rfl rfl ?_
                  | refine xvalP (pv_lenS UndC.h rfl) rfl rfl ?_
                  | refine xvalP (pv_lenRb UndC.h rfl) rfl rfl ?_
                  | refine xvalP (pv_lenV UndC.h rfl) rfl rfl ?_
                  | refine xvalP (pv_not rfl) rfl rfl ?_
                  | refine xvalP (pv_nilCheck rfl) rfl rfl ?_
                  | refine xvalP (pv_nilCheckE rfl) rfl rfl ?_
                  | refine xvalP (pv_nilCheckF rfl) rfl rfl ?_
                  | refine xvalP (pv_extract rfl rfl) rfl rfl ?_
                  | refine xvalP (qv_field FldC.h rfl rfl) rfl rfl ?_
                  | refine xvalP (pv_indexAddr UndC.h ShpC.h rfl rfl rfl (map_at (by assumption))) rfl rfl ?_
                  | refine xvalP (pv_indexAddrB UndC.h ShpC.h rfl rfl (Int.toNat_of_nonneg (by decide)).symm (by decide)) rfl rfl ?_
                  | refine xvalP (pv_indexAddrE UndC.h ShpC.h rfl rfl (Int.toNat_of_nonneg (by decide)).symm (by decide)) rfl rfl ?_
                  | refine xvalP (pv_eqB UndC.h rfl rfl) rfl rfl ?_
                  | refine xvalP (pv_neB UndC.h rfl rfl) rfl rfl ?_
                  | refine xvalP (pv_convI UndC.h UndC.h rfl) rfl rfl ?_
                  | refine xvalP (pv_buildC StrC.h rfl rfl) rfl rfl ?_
                  | refine xalloc InfC.h rfl rfl fun _ => ?_
                  | refine xbuildSliceC UndC.h InfC.h rfl rfl rfl rfl rfl rfl fun _ => ?_
                  | refine xvalP (pv_makeFuncC rfl) rfl rfl ?_
                  | refine xbox rfl rfl rfl rfl fun _ => ?_
                  | refine xstore 0 ShpC.h rfl rfl rfl rfl rfl rfl rfl ?_
                  | refine xstore 1 ShpC.h rfl rfl rfl rfl rfl rfl rfl ?_
                  | refine xstore 2 ShpC.h rfl rfl rfl rfl rfl rfl rfl ?_
                  | refine xstore 3 ShpC.h rfl rfl rfl rfl rfl rfl rfl ?_
                  | refine xstore 4 ShpC.h rfl rfl rfl rfl rfl rfl rfl ?_
                  | refine xskip rfl rfl ?_
                  | refine xskip0 rfl ?_
                  | refine xcondT rfl ?_
                  | refine xcondF rfl ?_
                  | refine xskipc ?_
                  | refine xexit ?_
                  | refine xretc ?_
                  | refine xin_normal ?_
                  | refine xin_ret ?_
                  | refine xthen_exit ?_
                  | refine xthen_ret ?_
                  | refine xin_same rfl ?_
                  | refine xin_other rfl ?_
              refine xregionD (m := 14) (by kernel_rfl) rfl ?_
              refine xpval 0 rfl (pv_move rfl) rfl rfl (by kernel_rfl) (by kernel_rfl) (by kernel_rfl) (fun _ _ _ _ h => h) ?_
              refine xpval 1 rfl (pv_move rfl) rfl rfl (by kernel_rfl) (by kernel_rfl) (by kernel_rfl) (fun _ _ _ _ h => h) ?_
              refine xpval 2 rfl (pv_move rfl) rfl rfl (by kernel_rfl) (by kernel_rfl) (by kernel_rfl) (fun _ _ _ _ h => h) ?_
              refine xpval 3 rfl (pv_move rfl) rfl rfl (by kernel_rfl) (by kernel_rfl) (by kernel_rfl) (fun _ _ _ _ h => h) ?_
              refine xpval 4 rfl (pv_indexAddrV UndC.h ShpC.h rfl rfl rfl (by omega)) rfl rfl (by kernel_rfl) (by kernel_rfl) (by kernel_rfl) (fun _ _ _ _ h => h) ?_
              first | refine xpval 5 rfl (qv_fieldAddrB FldC.h rfl) rfl rfl (by kernel_rfl) (by kernel_rfl) (by kernel_rfl) (fun _ _ _ _ h => h) ?_ | refine xpval 5 rfl (qv_fieldAddrE FldC.h rfl) rfl rfl (by kernel_rfl) (by kernel_rfl) (by kernel_rfl) (fun _ _ _ _ h => h) ?_
              first | refine xpval 8 rfl (qv_fieldAddrB FldC.h rfl) rfl rfl (by kernel_rfl) (by kernel_rfl) (by kernel_rfl) (fun _ _ _ _ h => h) ?_ | refine xpval 8 rfl (qv_fieldAddrE FldC.h rfl) rfl rfl (by kernel_rfl) (by kernel_rfl) (by kernel_rfl) (fun _ _ _ _ h => h) ?_
              refine xpvalE 6 [9] rfl (qv_loadR 1 (pre := []) ShpC.h rfl rfl (encP_len _) hi rfl rfl (by decide)) rfl rfl (by kernel_rfl) (by kernel_rfl) (by kernel_rfl) (fun _ _ _ _ h => h) ?_
              refine xpstepN (is := [7, 9]) (by kernel_rfl) (by simp) ?_
              intro i hi; simp only [List.mem_cons, List.not_mem_nil, or_false] at hi; rcases hi with rfl | rfl
              · refine ⟨_, rfl, ?_⟩
                refine wcallO (copy_any x.2.2 (by omega)) Try.func24 (by kernel_rfl) rfl (by repeat (first | exact EvL.nil | refine EvL.cons rfl (by first | with_reducible exact Wk.refl _ | exact Wk.nil_pl _ | with_reducible exact Wk.tok _ _ _ | exact Wk.eq rfl) ?_)) rfl rfl fun id2 => ?_
                first | refine xpvalE 9 [] rfl (qv_load ShpC.h rfl rfl rfl) rfl rfl (by kernel_rfl) (by kernel_rfl) (by kernel_rfl) (fun _ _ _ _ h => h) ?_ | refine xpvalE 9 [] rfl (qv_loadB 0 ShpC.h rfl rfl rfl rfl) rfl rfl (by kernel_rfl) (by kernel_rfl) (by kernel_rfl) (fun _ _ _ _ h => h) ?_ | refine xpvalE 9 [] rfl (qv_loadB 1 ShpC.h rfl rfl rfl rfl) rfl rfl (by kernel_rfl) (by kernel_rfl) (by kernel_rfl) (fun _ _ _ _ h => h) ?_ | refine xpvalE 9 [] rfl (qv_loadB 2 ShpC.h rfl rfl rfl rfl) rfl rfl (by kernel_rfl) (by kernel_rfl) (by kernel_rfl) (fun _ _ _ _ h => h) ?_ | refine xpvalE 9 [] rfl (qv_loadB 3 ShpC.h rfl rfl rfl rfl) rfl rfl (by kernel_rfl) (by kernel_rfl) (by kernel_rfl) (fun _ _ _ _ h => h) ?_ | refine xpvalE 9 [] rfl (qv_loadB 4 ShpC.h rfl rfl rfl rfl) rfl rfl (by kernel_rfl) (by kernel_rfl) (by kernel_rfl) (fun _ _ _ _ h => h) ?_ | refine xpvalE 9 [] rfl (qv_loadB 5 ShpC.h rfl rfl rfl rfl) rfl rfl (by kernel_rfl) (by kernel_rfl) (by kernel_rfl) (fun _ _ _ _ h => h) ?_
                refine xpstep (i := 10) (by kernel_rfl) rfl ?_
                refine wappend UndC.h InfC.h rfl 0 rfl rfl (.refl _) rfl (by simp) rfl rfl ⟨by simp [maxLen]; omega, by simp; omega⟩ fun id3 => ?_
                refine xpval 11 rfl (pv_buildC StrC.h rfl rfl) rfl rfl (by kernel_rfl) (by kernel_rfl) (by kernel_rfl) (fun _ _ _ _ h => h) ?_
                refine xpval 12 rfl (pv_indexAddrV UndC.h ShpC.h rfl rfl rfl (by omega)) rfl rfl (by kernel_rfl) (by kernel_rfl) (by kernel_rfl) (fun _ _ _ _ h => h) ?_
                refine xpstep (i := 13) (by kernel_rfl) rfl ?_
                refine wstoreR 1 (pre := []) (off := 0) ShpC.h rfl rfl rfl rfl rfl (encP_len _) hi rfl (by decide) rfl ?_
                refine xpdone (by kernel_rfl) ?_
                repeat
                                  first
                                  | refine xseq ?_
                                  | first
                                    | refine xregion ?_
                                    | refine xvalP (pv_move rfl) rfl rfl ?_
                                    | refine xvalP (pv_assign rfl) rfl rfl ?_
                                    | refine xvalP (pv_add1 rfl rfl (by omega)) rfl rfl ?_
                                    | refine xvalP (pv_sub1 rfl rfl (by omega)) rfl rfl ?_
                                    | refine xvalP (pv_bin2 rfl rfl rfl) rfl rfl ?_
                                    | refine xnil ?_
                                    | refine xthen ?_
                                    | refine xblock ?_
                                    | refine xval (qv_load ShpC.h rfl rfl rfl) rfl rfl ?_
                                    | refine xvalP (qv_fieldAddrB FldC.h rfl) rfl rfl ?_
                                    | refine xvalP (qv_fieldAddrE FldC.h rfl) rfl rfl ?_
                                    | refine xval (qv_loadB 0 ShpC.h rfl rfl rfl rfl) rfl rfl ?_
                                    | refine xval (qv_loadB 1 ShpC.h rfl rfl rfl rfl) rfl rfl ?_
                                    | refine xval (qv_loadB 2 ShpC.h rfl rfl rfl rfl) rfl rfl ?_
                                    | refine xval (qv_loadB 3 ShpC.h rfl rfl rfl rfl) rfl rfl ?_
                                    | refine xval (qv_loadB 4 ShpC.h rfl rfl rfl rfl) rfl rfl ?_
                                    | refine xvalP (pv_pick rfl rfl) rfl rfl ?_
                                    | refine xvalP (pv_len UndC.h rfl rfl) rfl rfl ?_
                                    | refine xvalP (pv_lenS UndC.h rfl) rfl rfl ?_
                                    | refine xvalP (pv_lenRb UndC.h rfl) rfl rfl ?_
                                    | refine xvalP (pv_lenV UndC.h rfl) rfl rfl ?_
                                    | refine xvalP (pv_not rfl) rfl rfl ?_
                                    | refine xvalP (pv_nilCheck rfl) rfl rfl ?_
                                    | refine xvalP (pv_nilCheckE rfl) rfl rfl ?_
                                    | refine xvalP (pv_nilCheckF rfl) rfl rfl ?_
                                    | refine xvalP (pv_extract rfl rfl) rfl rfl ?_
                                    | refine xvalP (qv_field FldC.h rfl rfl) rfl rfl ?_
                                    | refine xvalP (pv_indexAddr UndC.h ShpC.h rfl rfl rfl (map_at (by assumption))) rfl rfl ?_
                                    | refine xvalP (pv_indexAddrB UndC.h ShpC.h rfl rfl (Int.toNat_of_nonneg (by decide)).symm (by decide)) rfl rfl ?_
                                    | refine xvalP (pv_indexAddrE UndC.h ShpC.h rfl rfl (Int.toNat_of_nonneg (by decide)).symm (by decide)) rfl rfl ?_
                                    | refine xvalP (pv_eqB UndC.h rfl rfl) rfl rfl ?_
                                    | refine xvalP (pv_neB UndC.h rfl rfl) rfl rfl ?_
                                    | refine xvalP (pv_convI UndC.h UndC.h rfl) rfl rfl ?_
                                    | refine xvalP (pv_buildC StrC.h rfl rfl) rfl rfl ?_
                                    | refine xalloc InfC.h rfl rfl fun _ => ?_
                                    | refine xbuildSliceC UndC.h InfC.h rfl rfl rfl rfl rfl rfl fun _ => ?_
                                    | refine xvalP (pv_makeFuncC rfl) rfl rfl ?_
                                    | refine xbox rfl rfl rfl rfl fun _ => ?_
                                    | refine xstore 0 ShpC.h rfl rfl rfl rfl rfl rfl rfl ?_
                                    | refine xstore 1 ShpC.h rfl rfl rfl rfl rfl rfl rfl ?_
                                    | refine xstore 2 ShpC.h rfl rfl rfl rfl rfl rfl rfl ?_
                                    | refine xstore 3 ShpC.h rfl rfl rfl rfl rfl rfl rfl ?_
                                    | refine xstore 4 ShpC.h rfl rfl rfl rfl rfl rfl rfl ?_
                                    | refine xskip rfl rfl ?_
                                    | refine xskip0 rfl ?_
                                    | refine xcondT rfl ?_
                                    | refine xcondF rfl ?_
                                    | refine xskipc ?_
                                    | refine xexit ?_
                                    | refine xretc ?_
                                    | refine xin_normal ?_
                                    | refine xin_ret ?_
                                    | refine xthen_exit ?_
                                    | refine xthen_ret ?_
                                    | refine xin_same rfl ?_
                                    | refine xin_other rfl ?_
                refine xagain ⟨k' + 1, addP (xs ++ [x]) p, some (bb, cap), hk', rfl, hle.1, hle.2, by rw [he]; exact ⟨by simpa using hc1, hc2⟩, hres', rfl⟩ (by omega) ⟨by (repeat (first | exact ImpT.nil _ | refine ImpT.cons rfl (by first | with_reducible exact Wk.refl _ | exact Wk.nil_own _ | exact Wk.nil_pl _ | with_reducible exact Wk.tok _ _ _ | exact Wk.tok _ _ _ | exact Wk.eq (by first | rfl | (simp [he]; done) | (simp [he]; omega))) ?_)), SubM.of (.drop (.keep rfl rfl ?_ (.nil _))) (.nil _)⟩
                rw [he, hst]
                dsimp only [RB]
                rw [List.length_set]
                exact WkL.rows (by (repeat (first | exact WkL.nil | refine WkL.cons (by first | with_reducible exact Wk.refl _ | exact Wk.nil_own _ | exact Wk.nil_pl _ | with_reducible exact Wk.tok _ _ _ | exact Wk.tok _ _ _ | exact Wk.eq (by first | rfl | (simp []; done) | (simp []; omega))) ?_))) _ _
              · refine ⟨_, rfl, ?_⟩
                first | refine wval (qv_load ShpC.h rfl rfl rfl) rfl rfl ?_ | refine wval (qv_loadB 0 ShpC.h rfl rfl rfl rfl) rfl rfl ?_ | refine wval (qv_loadB 1 ShpC.h rfl rfl rfl rfl) rfl rfl ?_ | refine wval (qv_loadB 2 ShpC.h rfl rfl rfl rfl) rfl rfl ?_ | refine wval (qv_loadB 3 ShpC.h rfl rfl rfl rfl) rfl rfl ?_ | refine wval (qv_loadB 4 ShpC.h rfl rfl rfl rfl) rfl rfl ?_ | refine wval (qv_loadB 5 ShpC.h rfl rfl rfl rfl) rfl rfl ?_
                refine xpstep (i := 7) (by kernel_rfl) rfl ?_
                refine wcallO (copy_any x.2.2 (by omega)) Try.func24 (by kernel_rfl) rfl (by repeat (first | exact EvL.nil | refine EvL.cons rfl (by first | with_reducible exact Wk.refl _ | exact Wk.nil_pl _ | with_reducible exact Wk.tok _ _ _ | exact Wk.eq rfl) ?_)) rfl rfl fun id2 => ?_
                refine xpstep (i := 10) (by kernel_rfl) rfl ?_
                refine wappend UndC.h InfC.h rfl 0 rfl rfl (.refl _) rfl (by simp) rfl rfl ⟨by simp [maxLen]; omega, by simp; omega⟩ fun id3 => ?_
                refine xpval 11 rfl (pv_buildC StrC.h rfl rfl) rfl rfl (by kernel_rfl) (by kernel_rfl) (by kernel_rfl) (fun _ _ _ _ h => h) ?_
                refine xpval 12 rfl (pv_indexAddrV UndC.h ShpC.h rfl rfl rfl (by omega)) rfl rfl (by kernel_rfl) (by kernel_rfl) (by kernel_rfl) (fun _ _ _ _ h => h) ?_
                refine xpstep (i := 13) (by kernel_rfl) rfl ?_
                refine wstoreR 1 (pre := []) (off := 0) ShpC.h rfl rfl rfl rfl rfl (encP_len _) hi rfl (by decide) rfl ?_
                refine xpdone (by kernel_rfl) ?_
                repeat
                                  first
                                  | refine xseq ?_
                                  | first
                                    | refine xregion ?_
                                    | refine xvalP (pv_move rfl) rfl rfl ?_
                                    | refine xvalP (pv_assign rfl) rfl rfl ?_
                                    | refine xvalP (pv_add1 rfl rfl (by omega)) rfl rfl ?_
                                    | refine xvalP (pv_sub1 rfl rfl (by omega)) rfl rfl ?_
                                    | refine xvalP (pv_bin2 rfl rfl rfl) rfl rfl ?_
                                    | refine xnil ?_
                                    | refine xthen ?_
                                    | refine xblock ?_
                                    | refine xval (qv_load ShpC.h rfl rfl rfl) rfl rfl ?_
                                    | refine xvalP (qv_fieldAddrB FldC.h rfl) rfl rfl ?_
                                    | refine xvalP (qv_fieldAddrE FldC.h rfl) rfl rfl ?_
                                    | refine xval (qv_loadB 0 ShpC.h rfl rfl rfl rfl) rfl rfl ?_
                                    | refine xval (qv_loadB 1 ShpC.h rfl rfl rfl rfl) rfl rfl ?_
                                    | refine xval (qv_loadB 2 ShpC.h rfl rfl rfl rfl) rfl rfl ?_
                                    | refine xval (qv_loadB 3 ShpC.h rfl rfl rfl rfl) rfl rfl ?_
                                    | refine xval (qv_loadB 4 ShpC.h rfl rfl rfl rfl) rfl rfl ?_
                                    | refine xvalP (pv_pick rfl rfl) rfl rfl ?_
                                    | refine xvalP (pv_len UndC.h rfl rfl) rfl rfl ?_
                                    | refine xvalP (pv_lenS UndC.h rfl) rfl rfl ?_
                                    | refine xvalP (pv_lenRb UndC.h rfl) rfl rfl ?_
                                    | refine xvalP (pv_lenV UndC.h rfl) rfl rfl ?_
                                    | refine xvalP (pv_not rfl) rfl rfl ?_
                                    | refine xvalP (pv_nilCheck rfl) rfl rfl ?_
                                    | refine xvalP (pv_nilCheckE rfl) rfl rfl ?_
                                    | refine xvalP (pv_nilCheckF rfl) rfl rfl ?_
                                    | refine xvalP (pv_extract rfl rfl) rfl rfl ?_
                                    | refine xvalP (qv_field FldC.h rfl rfl) rfl rfl ?_
                                    | refine xvalP (pv_indexAddr UndC.h ShpC.h rfl rfl rfl (map_at (by assumption))) rfl rfl ?_
                                    | refine xvalP (pv_indexAddrB UndC.h ShpC.h rfl rfl (Int.toNat_of_nonneg (by decide)).symm (by decide)) rfl rfl ?_
                                    | refine xvalP (pv_indexAddrE UndC.h ShpC.h rfl rfl (Int.toNat_of_nonneg (by decide)).symm (by decide)) rfl rfl ?_
                                    | refine xvalP (pv_eqB UndC.h rfl rfl) rfl rfl ?_
                                    | refine xvalP (pv_neB UndC.h rfl rfl) rfl rfl ?_
                                    | refine xvalP (pv_convI UndC.h UndC.h rfl) rfl rfl ?_
                                    | refine xvalP (pv_buildC StrC.h rfl rfl) rfl rfl ?_
                                    | refine xalloc InfC.h rfl rfl fun _ => ?_
                                    | refine xbuildSliceC UndC.h InfC.h rfl rfl rfl rfl rfl rfl fun _ => ?_
                                    | refine xvalP (pv_makeFuncC rfl) rfl rfl ?_
                                    | refine xbox rfl rfl rfl rfl fun _ => ?_
                                    | refine xstore 0 ShpC.h rfl rfl rfl rfl rfl rfl rfl ?_
                                    | refine xstore 1 ShpC.h rfl rfl rfl rfl rfl rfl rfl ?_
                                    | refine xstore 2 ShpC.h rfl rfl rfl rfl rfl rfl rfl ?_
                                    | refine xstore 3 ShpC.h rfl rfl rfl rfl rfl rfl rfl ?_
                                    | refine xstore 4 ShpC.h rfl rfl rfl rfl rfl rfl rfl ?_
                                    | refine xskip rfl rfl ?_
                                    | refine xskip0 rfl ?_
                                    | refine xcondT rfl ?_
                                    | refine xcondF rfl ?_
                                    | refine xskipc ?_
                                    | refine xexit ?_
                                    | refine xretc ?_
                                    | refine xin_normal ?_
                                    | refine xin_ret ?_
                                    | refine xthen_exit ?_
                                    | refine xthen_ret ?_
                                    | refine xin_same rfl ?_
                                    | refine xin_other rfl ?_
                refine xagain ⟨k' + 1, addP (xs ++ [x]) p, some (bb, cap), hk', rfl, hle.1, hle.2, by rw [he]; exact ⟨by simpa using hc1, hc2⟩, hres', rfl⟩ (by omega) ⟨by (repeat (first | exact ImpT.nil _ | refine ImpT.cons rfl (by first | with_reducible exact Wk.refl _ | exact Wk.nil_own _ | exact Wk.nil_pl _ | with_reducible exact Wk.tok _ _ _ | exact Wk.tok _ _ _ | exact Wk.eq (by first | rfl | (simp [he]; done) | (simp [he]; omega))) ?_)), SubM.of (.drop (.keep rfl rfl ?_ (.nil _))) (.nil _)⟩
                rw [he, hst]
                dsimp only [RB]
                rw [List.length_set]
                exact WkL.rows (by (repeat (first | exact WkL.nil | refine WkL.cons (by first | with_reducible exact Wk.refl _ | exact Wk.nil_own _ | exact Wk.nil_pl _ | with_reducible exact Wk.tok _ _ _ | exact Wk.tok _ _ _ | exact Wk.eq (by first | rfl | (simp []; done) | (simp []; omega))) ?_))) _ _
            · have he : addP (xs ++ [x]) p = xs ++ [x] ++ [p] := by rw [addP_snoc, if_neg fun h => h11 (by omega)]
              repeat
                first
                | refine xseq ?_
                | first
                  | refine xregion ?_
                  | refine xvalP (pv_move rfl) rfl rfl ?_
                  | refine xvalP (pv_assign rfl) rfl rfl ?_
                  | refine xvalP (pv_add1 rfl rfl (by omega)) rfl rfl ?_
                  | refine xvalP (pv_sub1 rfl rfl (by omega)) rfl rfl ?_
                  | refine xvalP (pv_bin2 rfl rfl rfl) rfl rfl ?_
                  | refine xnil ?_
                  | refine xthen ?_
                  | refine xblock ?_
                  | refine xval (qv_load ShpC.h rfl rfl rfl) rfl rfl ?_
                  | refine xvalP (qv_fieldAddrB FldC.h rfl) rfl rfl ?_
                  | refine xvalP (qv_fieldAddrE FldC.h rfl) rfl rfl ?_
                  | refine xval (qv_loadB 0 ShpC.h rfl rfl rfl rfl) rfl rfl ?_
                  | refine xval (qv_loadB 1 ShpC.h rfl rfl rfl rfl) rfl rfl ?_
                  | refine xval (qv_loadB 2 ShpC.h rfl rfl rfl rfl) rfl rfl ?_
                  | refine xval (qv_loadB 3 ShpC.h rfl rfl rfl rfl) rfl rfl ?_
                  | refine xval (qv_loadB 4 ShpC.h rfl rfl rfl rfl) rfl rfl ?_
                  | refine xvalP (pv_pick rfl rfl) rfl rfl ?_
                  | refine xvalP (pv_len UndC.h rfl rfl) rfl rfl ?_
                  | refine xvalP (pv_lenS UndC.h rfl) rfl rfl ?_
                  | refine xvalP (pv_lenRb UndC.h rfl) rfl rfl ?_
                  | refine xvalP (pv_lenV UndC.h rfl) rfl rfl ?_
                  | refine xvalP (pv_not rfl) rfl rfl ?_
                  | refine xvalP (pv_nilCheck rfl) rfl rfl ?_
                  | refine xvalP (pv_nilCheckE rfl) rfl rfl ?_
                  | refine xvalP (pv_nilCheckF rfl) rfl rfl ?_
                  | refine xvalP (pv_extract rfl rfl) rfl rfl ?_
                  | refine xvalP (qv_field FldC.h rfl rfl) rfl rfl ?_
                  | refine xvalP (pv_indexAddr UndC.h ShpC.h rfl rfl rfl (map_at (by assumption))) rfl rfl ?_
                  | refine xvalP (pv_indexAddrB UndC.h ShpC.h rfl rfl (Int.toNat_of_nonneg (by decide)).symm (by decide)) rfl rfl ?_
                  | refine xvalP (pv_indexAddrE UndC.h ShpC.h rfl rfl (Int.toNat_of_nonneg (by decide)).symm (by decide)) rfl rfl ?_
                  | refine xvalP (pv_eqB UndC.h rfl rfl) rfl rfl ?_
                  | refine xvalP (pv_neB UndC.h rfl rfl) rfl rfl ?_
                  | refine xvalP (pv_convI UndC.h UndC.h rfl) rfl rfl ?_
                  | refine xvalP (pv_buildC StrC.h rfl rfl) rfl rfl ?_
                  | refine xalloc InfC.h rfl rfl fun _ => ?_
                  | refine xbuildSliceC UndC.h InfC.h rfl rfl rfl rfl rfl rfl fun _ => ?_
                  | refine xvalP (pv_makeFuncC rfl) rfl rfl ?_
                  | refine xbox rfl rfl rfl rfl fun _ => ?_
                  | refine xstore 0 ShpC.h rfl rfl rfl rfl rfl rfl rfl ?_
                  | refine xstore 1 ShpC.h rfl rfl rfl rfl rfl rfl rfl ?_
                  | refine xstore 2 ShpC.h rfl rfl rfl rfl rfl rfl rfl ?_
                  | refine xstore 3 ShpC.h rfl rfl rfl rfl rfl rfl rfl ?_
                  | refine xstore 4 ShpC.h rfl rfl rfl rfl rfl rfl rfl ?_
                  | refine xskip rfl rfl ?_
                  | refine xskip0 rfl ?_
                  | refine xcondT rfl ?_
                  | refine xcondF rfl ?_
                  | refine xskipc ?_
                  | refine xexit ?_
                  | refine xretc ?_
                  | refine xin_normal ?_
                  | refine xin_ret ?_
                  | refine xthen_exit ?_
                  | refine xthen_ret ?_
                  | refine xin_same rfl ?_
                  | refine xin_other rfl ?_
              refine xappendB (id := some (bb, cap)) (rows2 := [encP p]) UndC.h InfC.h 1 rfl (List.length_map _).symm rfl (.refl _) rfl (by rw [List.length_map]; exact hid) (encP_len _) rfl rfl ⟨by simp [maxLen] <;> omega, by simp <;> omega⟩ fun id2 hid2 => ?_
              repeat
                first
                | refine xseq ?_
                | first
                  | refine xregion ?_
                  | refine xvalP (pv_move rfl) rfl rfl ?_
                  | refine xvalP (pv_assign rfl) rfl rfl ?_
                  | refine xvalP (pv_add1 rfl rfl (by omega)) rfl rfl ?_
                  | refine xvalP (pv_sub1 rfl rfl (by omega)) rfl rfl ?_
                  | refine xvalP (pv_bin2 rfl rfl rfl) rfl rfl ?_
                  | refine xnil ?_
                  | refine xthen ?_
                  | refine xblock ?_
                  | refine xval (qv_load ShpC.h rfl rfl rfl) rfl rfl ?_
                  | refine xvalP (qv_fieldAddrB FldC.h rfl) rfl rfl ?_
                  | refine xvalP (qv_fieldAddrE FldC.h rfl) rfl rfl ?_
                  | refine xval (qv_loadB 0 ShpC.h rfl rfl rfl rfl) rfl rfl ?_
                  | refine xval (qv_loadB 1 ShpC.h rfl rfl rfl rfl) rfl rfl ?_
                  | refine xval (qv_loadB 2 ShpC.h rfl rfl rfl rfl) rfl rfl ?_
                  | refine xval (qv_loadB 3 ShpC.h rfl rfl rfl rfl) rfl rfl ?_
                  | refine xval (qv_loadB 4 ShpC.h rfl rfl rfl rfl) rfl rfl ?_
                  | refine xvalP (pv_pick rfl rfl) rfl rfl ?_
                  | refine xvalP (pv_len UndC.h rfl rfl) rfl rfl ?_
                  | refine xvalP (pv_lenS UndC.h rfl) rfl rfl ?_
                  | refine xvalP (pv_lenRb UndC.h rfl) rfl rfl ?_
                  | refine xvalP (pv_lenV UndC.h rfl) rfl rfl ?_
                  | refine xvalP (pv_not rfl) rfl rfl ?_
                  | refine xvalP (pv_nilCheck rfl) rfl rfl ?_
                  | refine xvalP (pv_nilCheckE rfl) rfl rfl ?_
                  | refine xvalP (pv_nilCheckF rfl) rfl rfl ?_
                  | refine xvalP (pv_extract rfl rfl) rfl rfl ?_
                  | refine xvalP (qv_field FldC.h rfl rfl) rfl rfl ?_
                  | refine xvalP (pv_indexAddr UndC.h ShpC.h rfl rfl rfl (map_at (by assumption))) rfl rfl ?_
                  | refine xvalP (pv_indexAddrB UndC.h ShpC.h rfl rfl (Int.toNat_of_nonneg (by decide)).symm (by decide)) rfl rfl ?_
                  | refine xvalP (pv_indexAddrE UndC.h ShpC.h rfl rfl (Int.toNat_of_nonneg (by decide)).symm (by decide)) rfl rfl ?_
                  | refine xvalP (pv_eqB UndC.h rfl rfl) rfl rfl ?_
                  | refine xvalP (pv_neB UndC.h rfl rfl) rfl rfl ?_
                  | refine xvalP (pv_convI UndC.h UndC.h rfl) rfl rfl ?_
                  | refine xvalP (pv_buildC StrC.h rfl rfl) rfl rfl ?_
                  | refine xalloc InfC.h rfl rfl fun _ => ?_
                  | refine xbuildSliceC UndC.h InfC.h rfl rfl rfl rfl rfl rfl fun _ => ?_
                  | refine xvalP (pv_makeFuncC rfl) rfl rfl ?_
                  | refine xbox rfl rfl rfl rfl fun _ => ?_
                  | refine xstore 0 ShpC.h rfl rfl rfl rfl rfl rfl rfl ?_
                  | refine xstore 1 ShpC.h rfl rfl rfl rfl rfl rfl rfl ?_
                  | refine xstore 2 ShpC.h rfl rfl rfl rfl rfl rfl rfl ?_
                  | refine xstore 3 ShpC.h rfl rfl rfl rfl rfl rfl rfl ?_
                  | refine xstore 4 ShpC.h rfl rfl rfl rfl rfl rfl rfl ?_
                  | refine xskip rfl rfl ?_
                  | refine xskip0 rfl ?_
                  | refine xcondT rfl ?_
                  | refine xcondF rfl ?_
                  | refine xskipc ?_
                  | refine xexit ?_
                  | refine xretc ?_
                  | refine xin_normal ?_
                  | refine xin_ret ?_
                  | refine xthen_exit ?_
                  | refine xthen_ret ?_
                  | refine xin_same rfl ?_
                  | refine xin_other rfl ?_
              refine xagain ⟨k' + 1, addP (xs ++ [x]) p, id2, hk', rfl, hle.1, hle.2, by rw [he]; simpa using hid2, hres', rfl⟩ (by omega) ⟨by (repeat (first | exact ImpT.nil _ | refine ImpT.cons rfl (by first | with_reducible exact Wk.refl _ | exact Wk.nil_own _ | exact Wk.nil_pl _ | with_reducible exact Wk.tok _ _ _ | exact Wk.tok _ _ _ | exact Wk.eq (by first | rfl | (simp [he]; done) | (simp [he]; omega))) ?_)), ?_⟩
              rw [he, show (xs ++ [x] ++ [p]).map encP = (xs ++ [x]).map encP ++ [encP p] by simp]
              exact SubM.of (.drop (.refl _)) (.nil _)
          · have he : addP (xs ++ [x]) p = xs ++ [x] ++ [p] := by rw [addP_snoc, if_neg fun h => h9 (by omega)]
            repeat
              first
              | refine xseq ?_
              | first
                | refine xregion ?_
                | refine xvalP (pv_move rfl) rfl rfl ?_
                | refine xvalP (pv_assign rfl) rfl rfl ?_
                | refine xvalP (pv_add1 rfl rfl (by omega)) rfl rfl ?_
                | refine xvalP (pv_sub1 rfl rfl (by omega)) rfl rfl ?_
                | refine xvalP (pv_bin2 rfl rfl rfl) rfl rfl ?_
                | refine xnil ?_
                | refine xthen ?_
                | refine xblock ?_
                | refine xval (qv_load ShpC.h rfl rfl rfl) rfl rfl ?_
                | refine xvalP (qv_fieldAddrB FldC.h rfl) rfl rfl ?_
                | refine xvalP (qv_fieldAddrE FldC.h rfl) rfl rfl ?_
                | refine xval (qv_loadB 0 ShpC.h rfl rfl rfl rfl) rfl rfl ?_
                | refine xval (qv_loadB 1 ShpC.h rfl rfl rfl rfl) rfl rfl ?_
                | refine xval (qv_loadB 2 ShpC.h rfl rfl rfl rfl) rfl rfl ?_
                | refine xval (qv_loadB 3 ShpC.h rfl rfl rfl rfl) rfl rfl ?_
                | refine xval (qv_loadB 4 ShpC.h rfl rfl rfl rfl) rfl rfl ?_
                | refine xvalP (pv_pick rfl rfl) rfl rfl ?_
                | refine xvalP (pv_len UndC.h rfl rfl) rfl rfl ?_
                | refine xvalP (pv_lenS UndC.h rfl) rfl rfl ?_
                | refine xvalP (pv_lenRb UndC.h rfl) rfl rfl ?_
                | refine xvalP (pv_lenV UndC.h rfl) rfl rfl ?_
                | refine xvalP (pv_not rfl) rfl rfl ?_
                | refine xvalP (pv_nilCheck rfl) rfl rfl ?_
                | refine xvalP (pv_nilCheckE rfl) rfl rfl ?_
                | refine xvalP (pv_nilCheckF rfl) rfl rfl ?_
                | refine xvalP (pv_extract rfl rfl) rfl rfl ?_
                | refine xvalP (qv_field FldC.h rfl rfl) rfl rfl ?_
                | refine xvalP (pv_indexAddr UndC.h ShpC.h rfl rfl rfl (map_at (by assumption))) rfl rfl ?_
                | refine xvalP (pv_indexAddrB UndC.h ShpC.h rfl rfl (Int.toNat_of_nonneg (by decide)).symm (by decide)) rfl rfl ?_
                | refine xvalP (pv_indexAddrE UndC.h ShpC.h rfl rfl (Int.toNat_of_nonneg (by decide)).symm (by decide)) rfl rfl ?_
                | refine xvalP (pv_eqB UndC.h rfl rfl) rfl rfl ?_
                | refine xvalP (pv_neB UndC.h rfl rfl) rfl rfl ?_
                | refine xvalP (pv_convI UndC.h UndC.h rfl) rfl rfl ?_
                | refine xvalP (pv_buildC StrC.h rfl rfl) rfl rfl ?_
                | refine xalloc InfC.h rfl rfl fun _ => ?_
                | refine xbuildSliceC UndC.h InfC.h rfl rfl rfl rfl rfl rfl fun _ => ?_
                | refine xvalP (pv_makeFuncC rfl) rfl rfl ?_
                | refine xbox rfl rfl rfl rfl fun _ => ?_
                | refine xstore 0 ShpC.h rfl rfl rfl rfl rfl rfl rfl ?_
                | refine xstore 1 ShpC.h rfl rfl rfl rfl rfl rfl rfl ?_
                | refine xstore 2 ShpC.h rfl rfl rfl rfl rfl rfl rfl ?_
                | refine xstore 3 ShpC.h rfl rfl rfl rfl rfl rfl rfl ?_
                | refine xstore 4 ShpC.h rfl rfl rfl rfl rfl rfl rfl ?_
                | refine xskip rfl rfl ?_
                | refine xskip0 rfl ?_
                | refine xcondT rfl ?_
                | refine xcondF rfl ?_
                | refine xskipc ?_
                | refine xexit ?_
                | refine xretc ?_
                | refine xin_normal ?_
                | refine xin_ret ?_
                | refine xthen_exit ?_
                | refine xthen_ret ?_
                | refine xin_same rfl ?_
                | refine xin_other rfl ?_
            refine xappendB (id := some (bb, cap)) (rows2 := [encP p]) UndC.h InfC.h 1 rfl (List.length_map _).symm rfl (.refl _) rfl (by rw [List.length_map]; exact hid) (encP_len _) rfl rfl ⟨by simp [maxLen] <;> omega, by simp <;> omega⟩ fun id2 hid2 => ?_
            repeat
              first
              | refine xseq ?_
              | first
                | refine xregion ?_
                | refine xvalP (pv_move rfl) rfl rfl ?_
                | refine xvalP (pv_assign rfl) rfl rfl ?_
                | refine xvalP (pv_add1 rfl rfl (by omega)) rfl rfl ?_
                | refine xvalP (pv_sub1 rfl rfl (by omega)) rfl rfl ?_
                | refine xvalP (pv_bin2 rfl rfl rfl) rfl rfl ?_
                | refine xnil ?_
                | refine xthen ?_
                | refine xblock ?_
                | refine xval (qv_load ShpC.h rfl rfl rfl) rfl rfl ?_
                | refine xvalP (qv_fieldAddrB FldC.h rfl) rfl rfl ?_
                | refine xvalP (qv_fieldAddrE FldC.h rfl) rfl rfl ?_
                | refine xval (qv_loadB 0 ShpC.h rfl rfl rfl rfl) rfl rfl ?_
                | refine xval (qv_loadB 1 ShpC.h rfl rfl rfl rfl) rfl rfl ?_
                | refine xval (qv_loadB 2 ShpC.h rfl rfl rfl rfl) rfl rfl ?_
                | refine xval (qv_loadB 3 ShpC.h rfl rfl rfl rfl) rfl rfl ?_
                | refine xval (qv_loadB 4 ShpC.h rfl rfl rfl rfl) rfl rfl ?_
                | refine xvalP (pv_pick rfl rfl) rfl rfl ?_
                | refine xvalP (pv_len UndC.h rfl rfl) rfl rfl ?_
                | refine xvalP (pv_lenS UndC.h rfl) rfl rfl ?_
                | refine xvalP (pv_lenRb UndC.h rfl) rfl rfl ?_
                | refine xvalP (pv_lenV UndC.h rfl) rfl rfl ?_
                | refine xvalP (pv_not rfl) rfl rfl ?_
                | refine xvalP (pv_nilCheck rfl) rfl rfl ?_
                | refine xvalP (pv_nilCheckE rfl) rfl rfl ?_
                | refine xvalP (pv_nilCheckF rfl) rfl rfl ?_
                | refine xvalP (pv_extract rfl rfl) rfl rfl ?_
                | refine xvalP (qv_field FldC.h rfl rfl) rfl rfl ?_
                | refine xvalP (pv_indexAddr UndC.h ShpC.h rfl rfl rfl (map_at (by assumption))) rfl rfl ?_
                | refine xvalP (pv_indexAddrB UndC.h ShpC.h rfl rfl (Int.toNat_of_nonneg (by decide)).symm (by decide)) rfl rfl ?_
                | refine xvalP (pv_indexAddrE UndC.h ShpC.h rfl rfl (Int.toNat_of_nonneg (by decide)).symm (by decide)) rfl rfl ?_
                | refine xvalP (pv_eqB UndC.h rfl rfl) rfl rfl ?_
                | refine xvalP (pv_neB UndC.h rfl rfl) rfl rfl ?_
                | refine xvalP (pv_convI UndC.h UndC.h rfl) rfl rfl ?_
                | refine xvalP (pv_buildC StrC.h rfl rfl) rfl rfl ?_
                | refine xalloc InfC.h rfl rfl fun _ => ?_
                | refine xbuildSliceC UndC.h InfC.h rfl rfl rfl rfl rfl rfl fun _ => ?_
                | refine xvalP (pv_makeFuncC rfl) rfl rfl ?_
                | refine xbox rfl rfl rfl rfl fun _ => ?_
                | refine xstore 0 ShpC.h rfl rfl rfl rfl rfl rfl rfl ?_
                | refine xstore 1 ShpC.h rfl rfl rfl rfl rfl rfl rfl ?_
                | refine xstore 2 ShpC.h rfl rfl rfl rfl rfl rfl rfl ?_
                | refine xstore 3 ShpC.h rfl rfl rfl rfl rfl rfl rfl ?_
                | refine xstore 4 ShpC.h rfl rfl rfl rfl rfl rfl rfl ?_
                | refine xskip rfl rfl ?_
                | refine xskip0 rfl ?_
                | refine xcondT rfl ?_
                | refine xcondF rfl ?_
                | refine xskipc ?_
                | refine xexit ?_
                | refine xretc ?_
                | refine xin_normal ?_
                | refine xin_ret ?_
                | refine xthen_exit ?_
                | refine xthen_ret ?_
                | refine xin_same rfl ?_
                | refine xin_other rfl ?_
            refine xagain ⟨k' + 1, addP (xs ++ [x]) p, id2, hk', rfl, hle.1, hle.2, by rw [he]; simpa using hid2, hres', rfl⟩ (by omega) ⟨by (repeat (first | exact ImpT.nil _ | refine ImpT.cons rfl (by first | with_reducible exact Wk.refl _ | exact Wk.nil_own _ | exact Wk.nil_pl _ | with_reducible exact Wk.tok _ _ _ | exact Wk.tok _ _ _ | exact Wk.eq (by first | rfl | (simp [he]; done) | (simp [he]; omega))) ?_)), ?_⟩
            rw [he, show (xs ++ [x] ++ [p]).map encP = (xs ++ [x]).map encP ++ [encP p] by simp]
            exact SubM.of (.drop (.refl _)) (.nil _)
  · have hke : k = b.length := by omega
    rw [hke, List.drop_length] at hres
    have hr2 : rGo gs 0 b [] = (out, 0, 0) := by rw [← hres]; rfl
    repeat
      first
      | refine xseq ?_
      | first
        | refine xregion ?_
        | refine xvalP (pv_move rfl) rfl rfl ?_
        | refine xvalP (pv_assign rfl) rfl rfl ?_
        | refine xvalP (pv_add1 rfl rfl (by omega)) rfl rfl ?_
        | refine xvalP (pv_sub1 rfl rfl (by omega)) rfl rfl ?_
        | refine xvalP (pv_bin2 rfl rfl rfl) rfl rfl ?_
        | refine xnil ?_
        | refine xthen ?_
        | refine xblock ?_
        | refine xval (qv_load ShpC.h rfl rfl rfl) rfl rfl ?_
        | refine xvalP (qv_fieldAddrB FldC.h rfl) rfl rfl ?_
        | refine xvalP (qv_fieldAddrE FldC.h rfl) rfl rfl ?_
        | refine xval (qv_loadB 0 ShpC.h rfl rfl rfl rfl) rfl rfl ?_
        | refine xval (qv_loadB 1 ShpC.h rfl rfl rfl rfl) rfl rfl ?_
        | refine xval (qv_loadB 2 ShpC.h rfl rfl rfl rfl) rfl rfl ?_
        | refine xval (qv_loadB 3 ShpC.h rfl rfl rfl rfl) rfl rfl ?_
        | refine xval (qv_loadB 4 ShpC.h rfl rfl rfl rfl) rfl rfl ?_
        | refine xvalP (pv_pick rfl rfl) rfl rfl ?_
        | refine xvalP (pv_len UndC.h rfl rfl) rfl rfl ?_
        | refine xvalP (pv_lenS UndC.h rfl) rfl rfl ?_
        | refine xvalP (pv_lenRb UndC.h rfl) rfl rfl ?_
        | refine xvalP (pv_lenV UndC.h rfl) rfl rfl ?_
        | refine xvalP (pv_not rfl) rfl rfl ?_
        | refine xvalP (pv_nilCheck rfl) rfl rfl ?_
        | refine xvalP (pv_nilCheckE rfl) rfl rfl ?_
        | refine xvalP (pv_nilCheckF rfl) rfl rfl ?_
        | refine xvalP (pv_extract rfl rfl) rfl rfl ?_
        | refine xvalP (qv_field FldC.h rfl rfl) rfl rfl ?_
        | refine xvalP (pv_indexAddr UndC.h ShpC.h rfl rfl rfl (map_at (by assumption))) rfl rfl ?_
        | refine xvalP (pv_indexAddrB UndC.h ShpC.h rfl rfl (Int.toNat_of_nonneg (by decide)).symm (by decide)) rfl rfl ?_
        | refine xvalP (pv_indexAddrE UndC.h ShpC.h rfl rfl (Int.toNat_of_nonneg (by decide)).symm (by decide)) rfl rfl ?_
        | refine xvalP (pv_eqB UndC.h rfl rfl) rfl rfl ?_
        | refine xvalP (pv_neB UndC.h rfl rfl) rfl rfl ?_
        | refine xvalP (pv_convI UndC.h UndC.h rfl) rfl rfl ?_
        | refine xvalP (pv_buildC StrC.h rfl rfl) rfl rfl ?_
        | refine xalloc InfC.h rfl rfl fun _ => ?_
        | refine xbuildSliceC UndC.h InfC.h rfl rfl rfl rfl rfl rfl fun _ => ?_
        | refine xvalP (pv_makeFuncC rfl) rfl rfl ?_
        | refine xbox rfl rfl rfl rfl fun _ => ?_
        | refine xstore 0 ShpC.h rfl rfl rfl rfl rfl rfl rfl ?_
        | refine xstore 1 ShpC.h rfl rfl rfl rfl rfl rfl rfl ?_
        | refine xstore 2 ShpC.h rfl rfl rfl rfl rfl rfl rfl ?_
        | refine xstore 3 ShpC.h rfl rfl rfl rfl rfl rfl rfl ?_
        | refine xstore 4 ShpC.h rfl rfl rfl rfl rfl rfl rfl ?_
        | refine xskip rfl rfl ?_
        | refine xskip0 rfl ?_
        | refine xcondT rfl ?_
        | refine xcondF rfl ?_
        | refine xskipc ?_
        | refine xexit ?_
        | refine xretc ?_
        | refine xin_normal ?_
        | refine xin_ret ?_
        | refine xthen_exit ?_
        | refine xthen_ret ?_
        | refine xin_same rfl ?_
        | refine xin_other rfl ?_
    refine xfreezeE 0 4 rfl (encP_len out) (by rw [List.length_map]; exact hid) rfl (by rw [List.length_map]) ?_
    exact xret3 hg rfl rfl (.refl _) rfl (.refl _) rfl (.eq rfl) (bx' := []) (tk' := []) (SubM.none _ _) ⟨by rw [hr2]; rfl, rfl, rfl⟩
end Go.Proofs.Ytcekiclbfjfagaa
