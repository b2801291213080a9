
/- The reference's search, in plain terms. -/
import Derived.Test.YtnjnbegjhklcgaaMtH
namespace Go.Proofs.Ytnjnbegjhklcgaa
section
variable {re : List ND} {tx : List UInt8} {a0 most : Int}
end
theorem start_k {re : List ND} {g : Int} {tx : List UInt8} {a : Int} (h : 1 ≤ re.length) (h0 : 0 ≤ a) (h1 : a ≤ tx.length) : KOk re g tx a (a, sp0, [(0, (re.length : Int) - 1, 0, 0)]) :=
  ⟨(start_s h h0 h1).1 _ (List.mem_singleton.2 rfl), fun t ht _ => by rw [List.mem_singleton.1 ht]⟩
end Go.Proofs.Ytnjnbegjhklcgaa
