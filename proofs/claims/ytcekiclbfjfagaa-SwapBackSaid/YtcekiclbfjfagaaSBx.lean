/- Contracts shown by hand, as the generator wants them. -/
import Derived.Test.YtcekiclbfjfagaaRParse
import Derived.Test.YtcekiclbfjfagaaSameR13
import Derived.Test.YtcekiclbfjfagaaEq
namespace Go.Proofs.Ytcekiclbfjfagaa
def sparse_R (b : List UInt8) (gs : Int) (r : (List PartT) × Int × Int) : Prop := b.length ≤ 5000 ∧ r = pGo gs 0 b [] []
theorem sparse_con (b : List UInt8) (gs : Int) (r : (List PartT) × Int × Int) (h : sparse_R b gs r) : Con Try.prog 16 [.sl 1 none (List.map eb b), .v (.int .i64 gs)] [] [] (fun rr bx tk => ∃ j1, rr = .tup [.sl 3 (some j1) (List.map encP r.1), .v (.int .i64 r.2.1), .v (.int .i64 r.2.2)] ∧ bx = [] ∧ tk = [⟨j1, 37, 3, r.1.length⟩]) := by
  obtain ⟨h1, rfl⟩ := h
  exact parse_any gs b h1
def rparse_R (b : List UInt8) (gs : Int) (r : (List PartT) × Int × Int) : Prop := b.length ≤ 5000 ∧ r = rGo gs 0 b []
theorem rparse_con (b : List UInt8) (gs : Int) (r : (List PartT) × Int × Int) (h : rparse_R b gs r) : Con Try.prog 17 [.sl 1 none (List.map eb b), .v (.int .i64 gs)] [] [] (fun rr bx tk => rr = .tup [.sl 3 none (List.map encP r.1), .v (.int .i64 r.2.1), .v (.int .i64 r.2.2)] ∧ bx = [] ∧ tk = []) := by
  obtain ⟨h1, rfl⟩ := h
  exact rparse_any gs b h1
def awk_R (r : Bool) : Prop := r = true
theorem awk_con (r : Bool) (h : awk_R r) : Con Try.prog 8 [] [] [] (Ret (.v (.bool r))) := by
  obtain rfl : r = true := h
  exact awake_any
def grt_R (l : List PartT) (text : List UInt8) (r : Bool) : Prop := r = greatB l text.length
theorem grt_con (l : List PartT) (text : List UInt8) (r : Bool) (h : grt_R l text r) : Con Try.prog 7 [.sl 3 none (List.map encP l), .sl 1 none (List.map eb text)] [] [] (Ret (.v (.bool r))) := by
  obtain rfl : r = _ := h
  exact great_any l text
def rsm_R (a b : List PartT) (r : Bool) : Prop := (a.length ≤ 1000000000 ∧ ∀ p ∈ a, p.2.2.length ≤ 1000000000) ∧ r = decide (a = b)
theorem rsm_con (a b : List PartT) (r : Bool) (h : rsm_R a b r) : Con Try.prog 18 [.sl 3 none (List.map encP a), .sl 3 none (List.map encP b)] [] [] (Ret (.v (.bool r))) := by
  obtain ⟨⟨h1, h2⟩, rfl⟩ := h
  exact rsameP_any a b h1 h2
end Go.Proofs.Ytcekiclbfjfagaa
