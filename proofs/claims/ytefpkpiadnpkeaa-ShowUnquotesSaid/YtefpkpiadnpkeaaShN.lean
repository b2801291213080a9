/- ShowUnquotes. -/
import Derived.Test.YtefpkpiadnpkeaaShU
import Derived.Test.YtefpkpiadnpkeaaGKL4
namespace Go.Proofs.Ytefpkpiadnpkeaa
theorem unquotes_law (s : ByteArray) (a : Int) : palinodelaw04_ShowUnquotes_R s a true := by
  refine split_ (fun _ => ⟨true, shawake, rfl⟩) fun h => ?_
  have hl := unq_len s.data.toList a
  have hsz : s.size = s.data.toList.length := rfl
  refine ⟨_, unquote_ok s a (by omega), _, refunquote_ok s a (by omega), _, shsame2_ok _ _ (by omega), split_ (fun _ => split_ (fun _ => split_ (fun _ => ⟨true, shawake, rfl⟩) fun h => absurd rfl h) fun h => absurd rfl h) fun h => absurd (decide_eq_true rfl) h⟩
end Go.Proofs.Ytefpkpiadnpkeaa
