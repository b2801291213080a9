
/- What functions' texts ask for, and the walks that show it (printed by a program). -/
import Derived.Test.YtnjnbegjhklcgaaGKp6
namespace Go.Proofs.Ytnjnbegjhklcgaa
/-- (*match.search).node -/
def match_search_node_j1 (o3 : List (Int × Int × Int × Int × Int × Int × (Arr 4 (UInt64)))) (o4 : Int) (o5 : List UInt8) (o8 : Int) (f124 : Int) (f125 : Arr 10 (Int × Int)) (f126 : List (Int × Int × Int × Int)) (f127 : Bool) (f128 : Arr 10 (Int × Int)) (l129 : List (Int × (Arr 10 (Int × Int)) × (List (Int × Int × Int × Int)))) (r : (List (Int × (Arr 10 (Int × Int)) × (List (Int × Int × Int × Int)))) × Bool × (Arr 10 (Int × Int))) : Prop :=
 ∃ y243 : (List (Int × (Arr 10 (Int × Int)) × (List (Int × Int × Int × Int)))) × Bool × (Arr 10 (Int × Int)), match_search_follow_R o3 o4 o5 f127 f128 o8 l129 (f124, f125, f126) y243 ∧ r = (y243.1, y243.2.1, y243.2.2)
def match_search_node_R (o3 : List (Int × Int × Int × Int × Int × Int × (Arr 4 (UInt64)))) (o4 : Int) (o5 : List UInt8) (o6 : Bool) (o7 : Arr 10 (Int × Int)) (o8 : Int) (l1 : List (Int × (Arr 10 (Int × Int)) × (List (Int × Int × Int × Int)))) (x9 : Int × (Arr 10 (Int × Int)) × (List (Int × Int × Int × Int))) (x10 : Int) (r : (List (Int × (Arr 10 (Int × Int)) × (List (Int × Int × Int × Int)))) × Bool × (Arr 10 (Int × Int))) : Prop :=
 0 ≤ (x10 : Int) ∧ ∃ y11 : Int × Int × Int × Int × Int × Int × (Arr 4 (UInt64)), o3[(x10 : Int).toNat]? = some y11 ∧ ((y11.1 = 1 → (((o5.length : Int) ≤ x9.1 → r = (l1, o6, o7)) ∧ (¬ ((o5.length : Int) ≤ x9.1) → 0 ≤ (x9.1 : Int) ∧ ∃ y158 : UInt8, o5[(x9.1 : Int).toNat]? = some y158 ∧ ∃ y161 : Bool, class_Has_R y11.2.2.2.2.2.2 y158 y161 ∧ ((¬ (y161 = true) → r = (l1, o6, o7)) ∧ (¬ (¬ (y161 = true)) → InR (x9.1 + 1) ∧ match_search_node_j1 o3 o4 o5 o8 (x9.1 + 1) x9.2.1 x9.2.2 o6 o7 l1 r))))) ∧ (¬ (y11.1 = 1) → ((y11.1 = 2 → ∃ y167 : (Int × (Arr 10 (Int × Int)) × (List (Int × Int × Int × Int))), match_way_ahead_R x9 (0, y11.2.2.1, 0, 0, ([] : List (Int × Int × Int × Int))) y167 ∧ ∃ y169 : (Int × (Arr 10 (Int × Int)) × (List (Int × Int × Int × Int))), match_way_ahead_R y167 (0, y11.2.1, 0, 0, ([] : List (Int × Int × Int × Int))) y169 ∧ match_search_node_j1 o3 o4 o5 o8 y169.1 y169.2.1 y169.2.2 o6 o7 l1 r) ∧ (¬ (y11.1 = 2) → ((y11.1 = 3 → ∃ y176 : (Int × (Arr 10 (Int × Int)) × (List (Int × Int × Int × Int))), match_way_ahead_R x9 (0, y11.2.2.1, 0, 0, ([] : List (Int × Int × Int × Int))) y176 ∧ ∃ y178 : (List (Int × (Arr 10 (Int × Int)) × (List (Int × Int × Int × Int)))) × Bool × (Arr 10 (Int × Int)), match_search_follow_R o3 o4 o5 o6 o7 o8 l1 y176 y178 ∧ ∃ y181 : (Int × (Arr 10 (Int × Int)) × (List (Int × Int × Int × Int))), match_way_ahead_R x9 (0, y11.2.1, 0, 0, ([] : List (Int × Int × Int × Int))) y181 ∧ match_search_node_j1 o3 o4 o5 o8 y181.1 y181.2.1 y181.2.2 y178.2.1 y178.2.2 y178.1 r) ∧ (¬ (y11.1 = 3) → ((y11.1 = 5 → ∃ y185 : (Int × (Arr 10 (Int × Int)) × (List (Int × Int × Int × Int))), match_way_ahead_R x9 (1, y11.2.2.2.2.2.1, 0, x9.1, ([] : List (Int × Int × Int × Int))) y185 ∧ ∃ y187 : (Int × (Arr 10 (Int × Int)) × (List (Int × Int × Int × Int))), match_way_ahead_R y185 (0, y11.2.1, 0, 0, ([] : List (Int × Int × Int × Int))) y187 ∧ match_search_node_j1 o3 o4 o5 o8 y187.1 y187.2.1 y187.2.2 o6 o7 l1 r) ∧ (¬ (y11.1 = 5) → ((y11.1 = 6 → (0 ≤ (y11.2.2.2.2.2.1 : Int) ∧ (y11.2.2.2.2.2.1 : Int) < 10) ∧ ∃ y197 : Int × Int, x9.2.1.l[(y11.2.2.2.2.2.1 : Int).toNat]? = some y197 ∧ ((y197.1 < 0 → r = (l1, o6, o7)) ∧ (¬ (y197.1 < 0) → (0 ≤ (x9.1 : Int) ∧ (x9.1 : Int) ≤ (o5.length : Int)) ∧ (0 ≤ (y197.1 : Int) ∧ (y197.1 : Int) ≤ (y197.2 : Int) ∧ (y197.2 : Int) ≤ (o5.length : Int)) ∧ ∃ y222 : Bool, bytes_HasPrefix_R (o5.drop (x9.1 : Int).toNat) ((o5.take (y197.2 : Int).toNat).drop (y197.1 : Int).toNat) y222 ∧ ((¬ (y222 = true) → r = (l1, o6, o7)) ∧ (¬ (¬ (y222 = true)) → InR (y197.2 - y197.1) ∧ InR (x9.1 + (y197.2 - y197.1)) ∧ match_search_node_j1 o3 o4 o5 o8 (x9.1 + (y197.2 - y197.1)) x9.2.1 x9.2.2 o6 o7 l1 r))))) ∧ (¬ (y11.1 = 6) → ((y11.1 = 7 → ((¬ (x9.1 = 0) → r = (l1, o6, o7)) ∧ (¬ (¬ (x9.1 = 0)) → match_search_node_j1 o3 o4 o5 o8 x9.1 x9.2.1 x9.2.2 o6 o7 l1 r))) ∧ (¬ (y11.1 = 7) → ((y11.1 = 8 → ((¬ (x9.1 = (o5.length : Int)) → r = (l1, o6, o7)) ∧ (¬ (¬ (x9.1 = (o5.length : Int))) → match_search_node_j1 o3 o4 o5 o8 x9.1 x9.2.1 x9.2.2 o6 o7 l1 r))) ∧ (¬ (y11.1 = 8) → ((y11.1 = 4 → ∃ y240 : (List (Int × (Arr 10 (Int × Int)) × (List (Int × Int × Int × Int)))) × Bool × (Arr 10 (Int × Int)), match_search_times_R o3 o4 o5 o6 o7 o8 l1 x9 x10 0 y240 ∧ r = (y240.1, y240.2.1, y240.2.2)) ∧ (¬ (y11.1 = 4) → match_search_node_j1 o3 o4 o5 o8 x9.1 x9.2.1 x9.2.2 o6 o7 l1 r))))))))))))))))
def match_search_node_j1_ev (fuel : Nat) (o3 : List (Int × Int × Int × Int × Int × Int × (Arr 4 (UInt64)))) (o4 : Int) (o5 : List UInt8) (o8 : Int) (f124 : Int) (f125 : Arr 10 (Int × Int)) (f126 : List (Int × Int × Int × Int)) (f127 : Bool) (f128 : Arr 10 (Int × Int)) (l129 : List (Int × (Arr 10 (Int × Int)) × (List (Int × Int × Int × Int)))) : Option ((List (Int × (Arr 10 (Int × Int)) × (List (Int × Int × Int × Int)))) × Bool × (Arr 10 (Int × Int))) :=
 ((match_search_follow_ev fuel o3 o4 o5 f127 f128 o8 l129 (f124, f125, f126)).bind fun y243 => some (y243.1, y243.2.1, y243.2.2))
theorem match_search_node_j1_ok {fuel : Nat} {o3 : List (Int × Int × Int × Int × Int × Int × (Arr 4 (UInt64)))} {o4 : Int} {o5 : List UInt8} {o8 : Int} {f124 : Int} {f125 : Arr 10 (Int × Int)} {f126 : List (Int × Int × Int × Int)} {f127 : Bool} {f128 : Arr 10 (Int × Int)} {l129 : List (Int × (Arr 10 (Int × Int)) × (List (Int × Int × Int × Int)))} {r : (List (Int × (Arr 10 (Int × Int)) × (List (Int × Int × Int × Int)))) × Bool × (Arr 10 (Int × Int))} (h : match_search_node_j1_ev fuel o3 o4 o5 o8 f124 f125 f126 f127 f128 l129 = some r) : match_search_node_j1 o3 o4 o5 o8 f124 f125 f126 f127 f128 l129 r := by
 unfold match_search_node_j1_ev at h
 unfold match_search_node_j1
 obtain ⟨q217, g217, h⟩ := bind_ok h
 refine ⟨q217, match_search_follow_ok g217, ?_⟩
 exact (Option.some.inj h).symm
def match_search_node_ev (fuel : Nat) (o3 : List (Int × Int × Int × Int × Int × Int × (Arr 4 (UInt64)))) (o4 : Int) (o5 : List UInt8) (o6 : Bool) (o7 : Arr 10 (Int × Int)) (o8 : Int) (l1 : List (Int × (Arr 10 (Int × Int)) × (List (Int × Int × Int × Int)))) (x9 : Int × (Arr 10 (Int × Int)) × (List (Int × Int × Int × Int))) (x10 : Int) : Option ((List (Int × (Arr 10 (Int × Int)) × (List (Int × Int × Int × Int)))) × Bool × (Arr 10 (Int × Int))) :=
 (if 0 ≤ (x10 : Int) then ((o3[(x10 : Int).toNat]?).bind fun y11 => (if y11.1 = 1 then (if (o5.length : Int) ≤ x9.1 then some (l1, o6, o7) else (if 0 ≤ (x9.1 : Int) then ((o5[(x9.1 : Int).toNat]?).bind fun y158 => ((class_Has_ev fuel y11.2.2.2.2.2.2 y158).bind fun y161 => (if ¬ (y161 = true) then some (l1, o6, o7) else (if InR (x9.1 + 1) then match_search_node_j1_ev fuel o3 o4 o5 o8 (x9.1 + 1) x9.2.1 x9.2.2 o6 o7 l1 else none)))) else none)) else (if y11.1 = 2 then ((match_way_ahead_ev fuel x9 (0, y11.2.2.1, 0, 0, ([] : List (Int × Int × Int × Int)))).bind fun y167 => ((match_way_ahead_ev fuel y167 (0, y11.2.1, 0, 0, ([] : List (Int × Int × Int × Int)))).bind fun y169 => match_search_node_j1_ev fuel o3 o4 o5 o8 y169.1 y169.2.1 y169.2.2 o6 o7 l1)) else (if y11.1 = 3 then ((match_way_ahead_ev fuel x9 (0, y11.2.2.1, 0, 0, ([] : List (Int × Int × Int × Int)))).bind fun y176 => ((match_search_follow_ev fuel o3 o4 o5 o6 o7 o8 l1 y176).bind fun y178 => ((match_way_ahead_ev fuel x9 (0, y11.2.1, 0, 0, ([] : List (Int × Int × Int × Int)))).bind fun y181 => match_search_node_j1_ev fuel o3 o4 o5 o8 y181.1 y181.2.1 y181.2.2 y178.2.1 y178.2.2 y178.1))) else (if y11.1 = 5 then ((match_way_ahead_ev fuel x9 (1, y11.2.2.2.2.2.1, 0, x9.1, ([] : List (Int × Int × Int × Int)))).bind fun y185 => ((match_way_ahead_ev fuel y185 (0, y11.2.1, 0, 0, ([] : List (Int × Int × Int × Int)))).bind fun y187 => match_search_node_j1_ev fuel o3 o4 o5 o8 y187.1 y187.2.1 y187.2.2 o6 o7 l1)) else (if y11.1 = 6 then (if (0 ≤ (y11.2.2.2.2.2.1 : Int) ∧ (y11.2.2.2.2.2.1 : Int) < 10) then ((x9.2.1.l[(y11.2.2.2.2.2.1 : Int).toNat]?).bind fun y197 => (if y197.1 < 0 then some (l1, o6, o7) else (if (0 ≤ (x9.1 : Int) ∧ (x9.1 : Int) ≤ (o5.length : Int)) then (if (0 ≤ (y197.1 : Int) ∧ (y197.1 : Int) ≤ (y197.2 : Int) ∧ (y197.2 : Int) ≤ (o5.length : Int)) then ((bytes_HasPrefix_ev fuel (o5.drop (x9.1 : Int).toNat) ((o5.take (y197.2 : Int).toNat).drop (y197.1 : Int).toNat)).bind fun y222 => (if ¬ (y222 = true) then some (l1, o6, o7) else (if InR (y197.2 - y197.1) then (if InR (x9.1 + (y197.2 - y197.1)) then match_search_node_j1_ev fuel o3 o4 o5 o8 (x9.1 + (y197.2 - y197.1)) x9.2.1 x9.2.2 o6 o7 l1 else none) else none))) else none) else none))) else none) else (if y11.1 = 7 then (if ¬ (x9.1 = 0) then some (l1, o6, o7) else match_search_node_j1_ev fuel o3 o4 o5 o8 x9.1 x9.2.1 x9.2.2 o6 o7 l1) else (if y11.1 = 8 then (if ¬ (x9.1 = (o5.length : Int)) then some (l1, o6, o7) else match_search_node_j1_ev fuel o3 o4 o5 o8 x9.1 x9.2.1 x9.2.2 o6 o7 l1) else (if y11.1 = 4 then ((match_search_times_ev fuel o3 o4 o5 o6 o7 o8 l1 x9 x10 0).bind fun y240 => some (y240.1, y240.2.1, y240.2.2)) else match_search_node_j1_ev fuel o3 o4 o5 o8 x9.1 x9.2.1 x9.2.2 o6 o7 l1))))))))) else none)
theorem match_search_node_ok {fuel : Nat} {o3 : List (Int × Int × Int × Int × Int × Int × (Arr 4 (UInt64)))} {o4 : Int} {o5 : List UInt8} {o6 : Bool} {o7 : Arr 10 (Int × Int)} {o8 : Int} {l1 : List (Int × (Arr 10 (Int × Int)) × (List (Int × Int × Int × Int)))} {x9 : Int × (Arr 10 (Int × Int)) × (List (Int × Int × Int × Int))} {x10 : Int} {r : (List (Int × (Arr 10 (Int × Int)) × (List (Int × Int × Int × Int)))) × Bool × (Arr 10 (Int × Int))} (h : match_search_node_ev fuel o3 o4 o5 o6 o7 o8 l1 x9 x10 = some r) : match_search_node_R o3 o4 o5 o6 o7 o8 l1 x9 x10 r := by
 unfold match_search_node_ev at h
 unfold match_search_node_R
 obtain ⟨g218, h⟩ := if_ok h
 refine ⟨g218, ?_⟩
 obtain ⟨q219, g219, h⟩ := bind_ok h
 refine ⟨q219, g219, ?_⟩
 refine ⟨fun g220 => ?_, fun g220 => ?_⟩
 ·rw [if_pos g220] at h
  refine ⟨fun g221 => ?_, fun g221 => ?_⟩
  ·rw [if_pos g221] at h
   exact (Option.some.inj h).symm
  ·rw [if_neg g221] at h
   obtain ⟨g222, h⟩ := if_ok h
   refine ⟨g222, ?_⟩
   obtain ⟨q223, g223, h⟩ := bind_ok h
   refine ⟨q223, g223, ?_⟩
   obtain ⟨q224, g224, h⟩ := bind_ok h
   refine ⟨q224, class_Has_ok g224, ?_⟩
   refine ⟨fun g225 => ?_, fun g225 => ?_⟩
   ·rw [if_pos g225] at h
    exact (Option.some.inj h).symm
   ·rw [if_neg g225] at h
    obtain ⟨g226, h⟩ := if_ok h
    refine ⟨g226, ?_⟩
    exact match_search_node_j1_ok h
 ·rw [if_neg g220] at h
  refine ⟨fun g227 => ?_, fun g227 => ?_⟩
  ·rw [if_pos g227] at h
   obtain ⟨q228, g228, h⟩ := bind_ok h
   refine ⟨q228, match_way_ahead_ok g228, ?_⟩
   obtain ⟨q229, g229, h⟩ := bind_ok h
   refine ⟨q229, match_way_ahead_ok g229, ?_⟩
   exact match_search_node_j1_ok h
  ·rw [if_neg g227] at h
   refine ⟨fun g230 => ?_, fun g230 => ?_⟩
   ·rw [if_pos g230] at h
    obtain ⟨q231, g231, h⟩ := bind_ok h
    refine ⟨q231, match_way_ahead_ok g231, ?_⟩
    obtain ⟨q232, g232, h⟩ := bind_ok h
    refine ⟨q232, match_search_follow_ok g232, ?_⟩
    obtain ⟨q233, g233, h⟩ := bind_ok h
    refine ⟨q233, match_way_ahead_ok g233, ?_⟩
    exact match_search_node_j1_ok h
   ·rw [if_neg g230] at h
    refine ⟨fun g234 => ?_, fun g234 => ?_⟩
    ·rw [if_pos g234] at h
     obtain ⟨q235, g235, h⟩ := bind_ok h
     refine ⟨q235, match_way_ahead_ok g235, ?_⟩
     obtain ⟨q236, g236, h⟩ := bind_ok h
     refine ⟨q236, match_way_ahead_ok g236, ?_⟩
     exact match_search_node_j1_ok h
    ·rw [if_neg g234] at h
     refine ⟨fun g237 => ?_, fun g237 => ?_⟩
     ·rw [if_pos g237] at h
      obtain ⟨g238, h⟩ := if_ok h
      refine ⟨g238, ?_⟩
      obtain ⟨q239, g239, h⟩ := bind_ok h
      refine ⟨q239, g239, ?_⟩
      refine ⟨fun g240 => ?_, fun g240 => ?_⟩
      ·rw [if_pos g240] at h
       exact (Option.some.inj h).symm
      ·rw [if_neg g240] at h
       obtain ⟨g241, h⟩ := if_ok h
       refine ⟨g241, ?_⟩
       obtain ⟨g242, h⟩ := if_ok h
       refine ⟨g242, ?_⟩
       obtain ⟨q243, g243, h⟩ := bind_ok h
       refine ⟨q243, bytes_HasPrefix_ok g243, ?_⟩
       refine ⟨fun g244 => ?_, fun g244 => ?_⟩
       ·rw [if_pos g244] at h
        exact (Option.some.inj h).symm
       ·rw [if_neg g244] at h
        obtain ⟨g245, h⟩ := if_ok h
        refine ⟨g245, ?_⟩
        obtain ⟨g246, h⟩ := if_ok h
        refine ⟨g246, ?_⟩
        exact match_search_node_j1_ok h
     ·rw [if_neg g237] at h
      refine ⟨fun g247 => ?_, fun g247 => ?_⟩
      ·rw [if_pos g247] at h
       refine ⟨fun g248 => ?_, fun g248 => ?_⟩
       ·rw [if_pos g248] at h
        exact (Option.some.inj h).symm
       ·rw [if_neg g248] at h
        exact match_search_node_j1_ok h
      ·rw [if_neg g247] at h
       refine ⟨fun g249 => ?_, fun g249 => ?_⟩
       ·rw [if_pos g249] at h
        refine ⟨fun g250 => ?_, fun g250 => ?_⟩
        ·rw [if_pos g250] at h
         exact (Option.some.inj h).symm
        ·rw [if_neg g250] at h
         exact match_search_node_j1_ok h
       ·rw [if_neg g249] at h
        refine ⟨fun g251 => ?_, fun g251 => ?_⟩
        ·rw [if_pos g251] at h
         obtain ⟨q252, g252, h⟩ := bind_ok h
         refine ⟨q252, match_search_times_ok g252, ?_⟩
         exact (Option.some.inj h).symm
        ·rw [if_neg g251] at h
         exact match_search_node_j1_ok h
set_option maxHeartbeats 4000000 in
theorem match_search_node_con (o3 : List (Int × Int × Int × Int × Int × Int × (Arr 4 (UInt64)))) (o4 : Int) (o5 : List UInt8) (o6 : Bool) (o7 : Arr 10 (Int × Int)) (o8 : Int) (l1 : List (Int × (Arr 10 (Int × Int)) × (List (Int × Int × Int × Int)))) (x9 : Int × (Arr 10 (Int × Int)) × (List (Int × Int × Int × Int))) (x10 : Int) (bx0 : Nat) (ia2 : Option (Nat × Nat)) (r : (List (Int × (Arr 10 (Int × Int)) × (List (Int × Int × Int × Int)))) × Bool × (Arr 10 (Int × Int))) (h : match_search_node_R o3 o4 o5 o6 o7 o8 l1 x9 x10 r) : Con Try.prog 34 [.v (.pointer (some ⟨bx0, 0, none⟩)), .agg ([.v (.int .i64 x9.1)] ++ ((List.map E_palinode_api_Span x9.2.1.l).flatten ++ [.pt (List.isEmpty x9.2.2) (PC_palinode_match_cell x9.2.2)])), .v (.int .i64 x10)] [⟨bx0, 74, ([.sl 10 none (List.map E_palinode_api_Node o3), .v (.int .i64 o4), .sl 1 none (List.map eb o5), .rb ia2 l1.length, .v (.bool o6)] ++ ((List.map E_palinode_api_Span o7.l).flatten ++ [.v (.int .i64 o8)]))⟩, rbx ia2 79 22 (List.map E_palinode_match_way l1)] [] (fun rr bx tk => ∃ j1, rr = .tup [] ∧ bx = [rbx j1 79 22 (List.map E_palinode_match_way r.1), ⟨bx0, 74, ([.sl 10 none (List.map E_palinode_api_Node o3), .v (.int .i64 o4), .sl 1 none (List.map eb o5), .rb j1 r.1.length, .v (.bool r.2.1)] ++ ((List.map E_palinode_api_Span r.2.2.l).flatten ++ [.v (.int .i64 o8)]))⟩] ∧ tk = []) := by
 refine xenter Try.func34 rfl rfl fun g hg => ?_
 simp only [Try.ntmps34, slots]
 refine sr_ ?_
 refine xbox rfl rfl rfl rfl fun b4 => ?_
 refine nt_ ?_
 refine sr_ ?_
 refine mv_ ?_
 refine vp_ (pv_nilCheck rfl) ?_
 refine vp_ (qv_fieldAddrB FldC.h rfl) ?_
 refine vp_ (qv_fieldAddrB FldC.h rfl) ?_
 refine v_ (qv_loadB 1 ShpC.h rfl rfl rfl rfl) ?_
 refine mv_ ?_
 obtain ⟨h12a, h⟩ := h
 obtain ⟨y11, h12b, h⟩ := h
 refine vp_ (pv_indexAddrM h12a h12b UndC.h ShpC.h rfl rfl) ?_
 refine v_ (qv_loadEP ([.v (.int .i64 y11.1), .v (.int .i64 y11.2.1), .v (.int .i64 y11.2.2.1), .v (.int .i64 y11.2.2.2.1), .v (.int .i64 y11.2.2.2.2.1), .v (.int .i64 y11.2.2.2.2.2.1)] ++ (List.map ew y11.2.2.2.2.2.2.l).flatten) [] sq_ sl_ (part_all sl_) ShpC.h rfl) ?_
 refine xalloc InfC.h rfl rfl fun b6 => ?_
 refine xreb 0 ([.v (.int .i64 0), .v (.int .i64 0), .v (.int .i64 0), .v (.int .i64 0), .v (.int .i64 0), .v (.int .i64 0)] ++ (List.map ew ((Arr.rep 4 (0 : UInt64))).l).flatten) rfl rfl ?_
 refine xstoreQ 0 [] ([.v (.int .i64 0), .v (.int .i64 0), .v (.int .i64 0), .v (.int .i64 0), .v (.int .i64 0), .v (.int .i64 0)] ++ (List.map ew ((Arr.rep 4 (0 : UInt64))).l).flatten) [] ([.v (.int .i64 y11.1), .v (.int .i64 y11.2.1), .v (.int .i64 y11.2.2.1), .v (.int .i64 y11.2.2.2.1), .v (.int .i64 y11.2.2.2.2.1), .v (.int .i64 y11.2.2.2.2.2.1)] ++ (List.map ew y11.2.2.2.2.2.2.l).flatten) ShpC.h rfl rfl rfl rfl rfl ?_
 refine nt_ ?_
 refine xseqM (fun σ => ∃ (f124 : Int), ∃ (f125 : Arr 10 (Int × Int)), ∃ (f126 : List (Int × Int × Int × Int)), ∃ (f127 : Bool), ∃ (f128 : Arr 10 (Int × Int)), ∃ (l129 : List (Int × (Arr 10 (Int × Int)) × (List (Int × Int × Int × Int)))), ∃ (i130 : Option (Nat × Nat)), match_search_node_j1 o3 o4 o5 o8 f124 f125 f126 f127 f128 l129 r ∧ σ = ⟨[(0, .v (.pointer (some ⟨bx0, 0, none⟩))), (4, .v (.pointer (some ⟨b4, 0, none⟩)))], [⟨b4, 79, ([.v (.int .i64 f124)] ++ ((List.map E_palinode_api_Span f125.l).flatten ++ [.pt (List.isEmpty f126) (PC_palinode_match_cell f126)]))⟩, ⟨bx0, 74, ([.sl 10 none (List.map E_palinode_api_Node o3), .v (.int .i64 o4), .sl 1 none (List.map eb o5), .rb i130 l129.length, .v (.bool f127)] ++ ((List.map E_palinode_api_Span f128.l).flatten ++ [.v (.int .i64 o8)]))⟩, rbx i130 79 22 (List.map E_palinode_match_way l129)], []⟩) ?_ ?_
 ·refine xseq ?_
  refine xregion ?_
  refine vp_ (qv_fieldAddrB FldC.h rfl) ?_
  refine v_ (qv_loadB 0 ShpC.h rfl rfl rfl rfl) ?_
  refine nt_ ?_
  refine xblock ?_
  refine sr_ ?_
  refine vp_ (pv_bin2 rfl rfl rfl) ?_
  refine as_ ?_
  refine nt_ ?_
  by_cases hp132 : y11.1 = 1
  ·replace h := h.1 hp132
   refine xcondT' (decide_eq_true hp132) rfl ?_
   refine xseq ?_
   refine xseq ?_
   refine xregionD (m := 22) (by kernel_rfl) rfl ?_
   refine pl_ 0 rfl (qv_fieldAddrB FldC.h rfl) ?_
   refine pl_ 2 rfl (pv_move rfl) ?_
   refine pl_ 3 rfl (pv_nilCheck rfl) ?_
   refine pl_ 4 rfl (qv_fieldAddrB FldC.h rfl) ?_
   refine xpvalE 1 [5, 6] rfl (qv_loadB 1 ShpC.h rfl rfl rfl rfl) rfl rfl (by kernel_rfl) (by kernel_rfl) (by kernel_rfl) (fun _ _ _ _ h => h) ?_
   refine xpvalE 5 [] rfl (qv_loadB 2 ShpC.h rfl rfl rfl rfl) rfl rfl (by kernel_rfl) (by kernel_rfl) (by kernel_rfl) (fun _ _ _ _ h => h) ?_
   refine pl_ 6 rfl (pv_lenM UndC.h rfl) ?_
   refine pl_ 7 rfl (pv_bin2 rfl rfl rfl) ?_
   refine pl_ 8 rfl (pv_move rfl) ?_
   by_cases hp157 : (o5.length : Int) ≤ x9.1
   ·replace h := h.1 hp157
    refine psetB 28 (decide_eq_true hp157) rfl ?_
    refine xpskip 9 rfl rfl rfl (by kernel_rfl) (by kernel_rfl) (by kernel_rfl) (fun _ _ _ _ h => h) ?_
    refine xpskip 10 rfl rfl rfl (by kernel_rfl) (by kernel_rfl) (by kernel_rfl) (fun _ _ _ _ h => h) ?_
    refine xpskip 11 rfl rfl rfl (by kernel_rfl) (by kernel_rfl) (by kernel_rfl) (fun _ _ _ _ h => h) ?_
    refine xpskip 12 rfl rfl rfl (by kernel_rfl) (by kernel_rfl) (by kernel_rfl) (fun _ _ _ _ h => h) ?_
    refine xpskip 13 rfl rfl rfl (by kernel_rfl) (by kernel_rfl) (by kernel_rfl) (fun _ _ _ _ h => h) ?_
    refine xpskip 14 rfl rfl rfl (by kernel_rfl) (by kernel_rfl) (by kernel_rfl) (fun _ _ _ _ h => h) ?_
    refine xpskip 15 rfl rfl rfl (by kernel_rfl) (by kernel_rfl) (by kernel_rfl) (fun _ _ _ _ h => h) ?_
    refine xpskip 16 rfl rfl rfl (by kernel_rfl) (by kernel_rfl) (by kernel_rfl) (fun _ _ _ _ h => h) ?_
    refine xpskip 17 rfl rfl rfl (by kernel_rfl) (by kernel_rfl) (by kernel_rfl) (fun _ _ _ _ h => h) ?_
    refine xpskip 18 rfl rfl rfl (by kernel_rfl) (by kernel_rfl) (by kernel_rfl) (fun _ _ _ _ h => h) ?_
    refine xpskip 19 rfl rfl rfl (by kernel_rfl) (by kernel_rfl) (by kernel_rfl) (fun _ _ _ _ h => h) ?_
    refine xpskip 20 rfl rfl rfl (by kernel_rfl) (by kernel_rfl) (by kernel_rfl) (fun _ _ _ _ h => h) ?_
    refine pl_ 21 rfl (pv_pick rfl rfl) ?_
    refine xpdone (by kernel_rfl) ?_
    refine xthen ?_
    refine xcondT rfl ?_
    refine xretc ?_
    refine xthen_ret ?_
    refine xin_ret ?_
    refine xthen_ret ?_
    replace h := h.symm
    subst h
    exact xret0 (bx' := [rbx ia2 79 22 (List.map E_palinode_match_way l1), ⟨bx0, 74, ([.sl 10 none (List.map E_palinode_api_Node o3), .v (.int .i64 o4), .sl 1 none (List.map eb o5), .rb ia2 l1.length, .v (.bool o6)] ++ ((List.map E_palinode_api_Span o7.l).flatten ++ [.v (.int .i64 o8)]))⟩]) (tk' := []) hg rfl (by refine SubM.trans (SubM.mvB 2 rfl) ?_; refine SubM.trans (SubM.mvB 3 rfl) ?_; (simp only [List.eraseIdx]); exact sm_) ⟨ia2, rfl, rfl, rfl⟩ (by simp)
   ·replace h := h.2 hp157
    refine psetB 28 (decide_eq_false hp157) rfl ?_
    obtain ⟨h159a, h⟩ := h
    obtain ⟨y158, h159b, h⟩ := h
    obtain ⟨y161, h160, h⟩ := h
    refine pl_ 9 rfl (qv_fieldAddrB FldC.h rfl) ?_
    refine pl_ 11 rfl (pv_move rfl) ?_
    refine pl_ 12 rfl (pv_nilCheck rfl) ?_
    refine pl_ 13 rfl (qv_fieldAddrB FldC.h rfl) ?_
    refine pl_ 15 rfl (qv_fieldAddrB FldC.h rfl) ?_
    refine xpvalE 10 [14, 16, 17, 18] rfl (qv_loadP 0 [.v (.int .i64 y11.1), .v (.int .i64 y11.2.1), .v (.int .i64 y11.2.2.1), .v (.int .i64 y11.2.2.2.1), .v (.int .i64 y11.2.2.2.2.1), .v (.int .i64 y11.2.2.2.2.2.1)] ((List.map ew y11.2.2.2.2.2.2.l).flatten) [] sq_ sl_ sl_ (part_all (seg_lenE (by rfl))) ShpC.h rfl rfl) rfl rfl (by kernel_rfl) (by kernel_rfl) (by kernel_rfl) (fun _ _ _ _ h => h) ?_
    refine xpvalE 14 [16] rfl (qv_loadB 2 ShpC.h rfl rfl rfl rfl) rfl rfl (by kernel_rfl) (by kernel_rfl) (by kernel_rfl) (fun _ _ _ _ h => h) ?_
    refine xpvalE 16 [] rfl (qv_loadB 1 ShpC.h rfl rfl rfl rfl) rfl rfl (by kernel_rfl) (by kernel_rfl) (by kernel_rfl) (fun _ _ _ _ h => h) ?_
    refine pl_ 17 rfl (pv_indexAddrM h159a h159b UndC.h ShpC.h rfl rfl) ?_
    refine xpvalE 18 [] rfl (qv_load ShpC.h rfl rfl rfl) rfl rfl (by kernel_rfl) (by kernel_rfl) (by kernel_rfl) (fun _ _ _ _ h => h) ?_
    refine xpstep (i := 19) (by kernel_rfl) rfl ?_
    refine wcall0 (class_Has_con y11.2.2.2.2.2.2 y158 _ h160) Try.func37 (by kernel_rfl) rfl (.cons rfl (.refl _) (.cons rfl (.refl _) .nil)) rfl rfl ?_
    refine pl_ 20 rfl (pv_not rfl) ?_
    refine pl_ 21 rfl (pv_pick rfl rfl) ?_
    refine xpdone (by kernel_rfl) ?_
    refine xthen ?_
    by_cases hp162 : ¬ (y161 = true)
    ·replace h := h.1 hp162
     refine xcondT' (not_t (b_f hp162)) rfl ?_
     refine xretc ?_
     refine xthen_ret ?_
     refine xin_ret ?_
     refine xthen_ret ?_
     replace h := h.symm
     subst h
     exact xret0 (bx' := [rbx ia2 79 22 (List.map E_palinode_match_way l1), ⟨bx0, 74, ([.sl 10 none (List.map E_palinode_api_Node o3), .v (.int .i64 o4), .sl 1 none (List.map eb o5), .rb ia2 l1.length, .v (.bool o6)] ++ ((List.map E_palinode_api_Span o7.l).flatten ++ [.v (.int .i64 o8)]))⟩]) (tk' := []) hg rfl (by refine SubM.trans (SubM.mvB 2 rfl) ?_; refine SubM.trans (SubM.mvB 3 rfl) ?_; (simp only [List.eraseIdx]); exact sm_) ⟨ia2, rfl, rfl, rfl⟩ (by simp)
    ·replace h := h.2 hp162
     refine xcondF' (not_f (Decidable.of_not_not hp162)) rfl ?_
     refine xskipc ?_
     refine xthen ?_
     refine xregion ?_
     refine vp_ (qv_fieldAddrB FldC.h rfl) ?_
     refine v_ (qv_loadB 1 ShpC.h rfl rfl rfl rfl) ?_
     obtain ⟨h163, h⟩ := h
     refine vp_ (pv_addI h163 rfl rfl) ?_
     refine vp_ (qv_fieldAddrB FldC.h rfl) ?_
     refine xstore 1 ShpC.h rfl rfl rfl rfl rfl rfl rfl ?_
     refine xnil ?_
     refine xin_normal ?_
     exact xmeet ⟨(x9.1 + 1), x9.2.1, x9.2.2, o6, o7, l1, ia2, h, rfl⟩ ⟨lk_, by exact (SubM.of (.drop (.keep rfl rfl (.refl _) (.keep rfl rfl (by first | exact WkL.refl _ | (exact wl_; done)) (.keep rfl rfl (.refl _) (.nil _))))) (.nil _))⟩
  ·replace h := h.2 hp132
   refine xcondF' (decide_eq_false hp132) rfl ?_
   refine sr_ ?_
   refine vp_ (pv_bin2 rfl rfl rfl) ?_
   refine as_ ?_
   refine nt_ ?_
   by_cases hp165 : y11.1 = 2
   ·replace h := h.1 hp165
    refine xcondT' (decide_eq_true hp165) rfl ?_
    refine xregionD (m := 10) (by kernel_rfl) rfl ?_
    obtain ⟨y167, h166, h⟩ := h
    obtain ⟨y169, h168, h⟩ := h
    refine xpcut 2 #[true, true, true, true, true, true, true, true, false, false] (fun σ => σ = ⟨[(0, .v (.pointer (some ⟨bx0, 0, none⟩))), (4, .v (.pointer (some ⟨b4, 0, none⟩))), (52, .agg ([.v (.int .i64 y167.1)] ++ ((List.map E_palinode_api_Span y167.2.1.l).flatten ++ [.pt (List.isEmpty y167.2.2) (PC_palinode_match_cell y167.2.2)]))), (55, .agg [.v (.int .i64 0), .v (.int .i64 y11.2.1), .v (.int .i64 0), .v (.int .i64 0), .v (.pointer none)])], [⟨b4, 79, ([.v (.int .i64 x9.1)] ++ ((List.map E_palinode_api_Span x9.2.1.l).flatten ++ [.pt (List.isEmpty x9.2.2) (PC_palinode_match_cell x9.2.2)]))⟩, ⟨bx0, 74, ([.sl 10 none (List.map E_palinode_api_Node o3), .v (.int .i64 o4), .sl 1 none (List.map eb o5), .rb ia2 l1.length, .v (.bool o6)] ++ ((List.map E_palinode_api_Span o7.l).flatten ++ [.v (.int .i64 o8)]))⟩, rbx ia2 79 22 (List.map E_palinode_match_way l1)], []⟩) ?_ (fun key170 => ?_)
    ·rintro _ rfl
     refine xpstep (i := 8) (by kernel_rfl) rfl ?_
     refine wcall0 (match_way_ahead_con y167 (0, y11.2.1, 0, 0, ([] : List (Int × Int × Int × Int))) _ h168) Try.func36 (by kernel_rfl) rfl (.cons rfl (.refl _) (.cons rfl (.agg (.cons (.refl _) (.cons (.refl _) (.cons (.refl _) (.cons (.refl _) (.cons (Wk.nil_pt _) .nil)))))) .nil)) rfl rfl ?_
     refine xpstep (i := 9) (by kernel_rfl) rfl ?_
     refine wstoreQ 0 [] ([.v (.int .i64 x9.1)] ++ ((List.map E_palinode_api_Span x9.2.1.l).flatten ++ [.pt (List.isEmpty x9.2.2) (PC_palinode_match_cell x9.2.2)])) [] ([.v (.int .i64 y169.1)] ++ ((List.map E_palinode_api_Span y169.2.1.l).flatten ++ [.pt (List.isEmpty y169.2.2) (PC_palinode_match_cell y169.2.2)])) ShpC.h rfl rfl rfl rfl rfl ?_
     refine xpdone (by kernel_rfl) ?_
     refine xin_normal ?_
     exact xmeet ⟨y169.1, y169.2.1, y169.2.2, o6, o7, l1, ia2, h, rfl⟩ ⟨lk_, by exact (SubM.of (.keep rfl rfl (.refl _) (.keep rfl rfl (by first | exact WkL.refl _ | (exact wl_; done)) (.keep rfl rfl (.refl _) (.nil _)))) (.nil _))⟩
    refine xpcut 3 #[true, true, true, true, false, true, true, true, false, false] (fun σ => σ = ⟨[(0, .v (.pointer (some ⟨bx0, 0, none⟩))), (4, .v (.pointer (some ⟨b4, 0, none⟩))), (48, .agg ([.v (.int .i64 x9.1)] ++ ((List.map E_palinode_api_Span x9.2.1.l).flatten ++ [.pt (List.isEmpty x9.2.2) (PC_palinode_match_cell x9.2.2)]))), (51, .agg [.v (.int .i64 0), .v (.int .i64 y11.2.2.1), .v (.int .i64 0), .v (.int .i64 0), .v (.pointer none)]), (55, .agg [.v (.int .i64 0), .v (.int .i64 y11.2.1), .v (.int .i64 0), .v (.int .i64 0), .v (.pointer none)])], [⟨b4, 79, ([.v (.int .i64 x9.1)] ++ ((List.map E_palinode_api_Span x9.2.1.l).flatten ++ [.pt (List.isEmpty x9.2.2) (PC_palinode_match_cell x9.2.2)]))⟩, ⟨bx0, 74, ([.sl 10 none (List.map E_palinode_api_Node o3), .v (.int .i64 o4), .sl 1 none (List.map eb o5), .rb ia2 l1.length, .v (.bool o6)] ++ ((List.map E_palinode_api_Span o7.l).flatten ++ [.v (.int .i64 o8)]))⟩, rbx ia2 79 22 (List.map E_palinode_match_way l1)], []⟩) ?_ (fun key171 => ?_)
    ·rintro _ rfl
     refine xpstep (i := 4) (by kernel_rfl) rfl ?_
     refine wcall0 (match_way_ahead_con x9 (0, y11.2.2.1, 0, 0, ([] : List (Int × Int × Int × Int))) _ h166) Try.func36 (by kernel_rfl) rfl (.cons rfl (.refl _) (.cons rfl (.agg (.cons (.refl _) (.cons (.refl _) (.cons (.refl _) (.cons (.refl _) (.cons (Wk.nil_pt _) .nil)))))) .nil)) rfl rfl ?_
     exact xpuse key170 rfl ⟨lk_, by exact (SubM.of (.keep rfl rfl (.refl _) (.keep rfl rfl (by first | exact WkL.refl _ | (exact wl_; done)) (.keep rfl rfl (.refl _) (.nil _)))) (.nil _))⟩ rfl (by kernel_rfl)
    refine xpcut 5 #[true, true, true, true, false, true, false, false, false, false] (fun σ => σ = ⟨[(0, .v (.pointer (some ⟨bx0, 0, none⟩))), (4, .v (.pointer (some ⟨b4, 0, none⟩))), (48, .agg ([.v (.int .i64 x9.1)] ++ ((List.map E_palinode_api_Span x9.2.1.l).flatten ++ [.pt (List.isEmpty x9.2.2) (PC_palinode_match_cell x9.2.2)]))), (51, .agg [.v (.int .i64 0), .v (.int .i64 y11.2.2.1), .v (.int .i64 0), .v (.int .i64 0), .v (.pointer none)]), (53, .v (.pointer (some ⟨b6, 1, none⟩)))], [⟨b6, 45, ([.v (.int .i64 y11.1), .v (.int .i64 y11.2.1), .v (.int .i64 y11.2.2.1), .v (.int .i64 y11.2.2.2.1), .v (.int .i64 y11.2.2.2.2.1), .v (.int .i64 y11.2.2.2.2.2.1)] ++ (List.map ew y11.2.2.2.2.2.2.l).flatten)⟩, ⟨b4, 79, ([.v (.int .i64 x9.1)] ++ ((List.map E_palinode_api_Span x9.2.1.l).flatten ++ [.pt (List.isEmpty x9.2.2) (PC_palinode_match_cell x9.2.2)]))⟩, ⟨bx0, 74, ([.sl 10 none (List.map E_palinode_api_Node o3), .v (.int .i64 o4), .sl 1 none (List.map eb o5), .rb ia2 l1.length, .v (.bool o6)] ++ ((List.map E_palinode_api_Span o7.l).flatten ++ [.v (.int .i64 o8)]))⟩, rbx ia2 79 22 (List.map E_palinode_match_way l1)], []⟩) ?_ (fun key172 => ?_)
    ·rintro _ rfl
     refine xpstepN (is := [4, 6]) (by kernel_rfl) (by simp) ?_
     intro i hi; simp only [List.mem_cons, List.not_mem_nil, or_false] at hi; rcases hi with rfl | rfl
     ·refine ⟨_, rfl, ?_⟩
      refine wcall0 (match_way_ahead_con x9 (0, y11.2.2.1, 0, 0, ([] : List (Int × Int × Int × Int))) _ h166) Try.func36 (by kernel_rfl) rfl (.cons rfl (.refl _) (.cons rfl (.agg (.cons (.refl _) (.cons (.refl _) (.cons (.refl _) (.cons (.refl _) (.cons (Wk.nil_pt _) .nil)))))) .nil)) rfl rfl ?_
      refine xpvalE 6 [] rfl (qv_loadB 0 ShpC.h rfl rfl rfl rfl) rfl rfl (by kernel_rfl) (by kernel_rfl) (by kernel_rfl) (fun _ _ _ _ h => h) ?_
      refine pl_ 7 rfl (pv_buildC StrC.h rfl rfl) ?_
      exact xpuse key170 rfl ⟨lk_, by exact (SubM.of (.drop (.keep rfl rfl (.refl _) (.keep rfl rfl (by first | exact WkL.refl _ | (exact wl_; done)) (.keep rfl rfl (.refl _) (.nil _))))) (.nil _))⟩ rfl (by kernel_rfl)
     ·refine ⟨_, rfl, ?_⟩
      refine wv_ (qv_loadB 0 ShpC.h rfl rfl rfl rfl) ?_
      refine pl_ 7 rfl (pv_buildC StrC.h rfl rfl) ?_
      exact xpuse key171 rfl ⟨lk_, by exact (SubM.of (.drop (.keep rfl rfl (.refl _) (.keep rfl rfl (by first | exact WkL.refl _ | (exact wl_; done)) (.keep rfl rfl (.refl _) (.nil _))))) (.nil _))⟩ rfl (by kernel_rfl)
    refine pl_ 1 rfl (qv_fieldAddrB FldC.h rfl) ?_
    refine pl_ 5 rfl (qv_fieldAddrB FldC.h rfl) ?_
    refine xpstepN (is := [0, 2, 6]) (by kernel_rfl) (by simp) ?_
    intro i hi; simp only [List.mem_cons, List.not_mem_nil, or_false] at hi; rcases hi with rfl | rfl | rfl
    ·refine ⟨_, rfl, ?_⟩
     refine wv_ (qv_loadP 1 [] ([.v (.int .i64 x9.1)] ++ ((List.map E_palinode_api_Span x9.2.1.l).flatten ++ [.pt (List.isEmpty x9.2.2) (PC_palinode_match_cell x9.2.2)])) [] sq_ sl_ sl_ (part_all sl_) ShpC.h rfl rfl) ?_
     refine xpstepN (is := [2, 6]) (by kernel_rfl) (by simp) ?_
     intro i hi; simp only [List.mem_cons, List.not_mem_nil, or_false] at hi; rcases hi with rfl | rfl
     ·refine ⟨_, rfl, ?_⟩
      refine wv_ (qv_loadB 0 ShpC.h rfl rfl rfl rfl) ?_
      refine pl_ 3 rfl (pv_buildC StrC.h rfl rfl) ?_
      exact xpuse key172 rfl ⟨lk_, by exact (SubM.of (.keep rfl rfl (.refl _) (.keep rfl rfl (.refl _) (.keep rfl rfl (by first | exact WkL.refl _ | (exact wl_; done)) (.keep rfl rfl (.refl _) (.nil _))))) (.nil _))⟩ rfl (by kernel_rfl)
     ·refine ⟨_, rfl, ?_⟩
      refine wv_ (qv_loadB 0 ShpC.h rfl rfl rfl rfl) ?_
      refine pl_ 7 rfl (pv_buildC StrC.h rfl rfl) ?_
      refine xpvalE 2 [] rfl (qv_loadB 0 ShpC.h rfl rfl rfl rfl) rfl rfl (by kernel_rfl) (by kernel_rfl) (by kernel_rfl) (fun _ _ _ _ h => h) ?_
      refine pl_ 3 rfl (pv_buildC StrC.h rfl rfl) ?_
      exact xpuse key171 rfl ⟨lk_, by exact (SubM.of (.drop (.keep rfl rfl (.refl _) (.keep rfl rfl (by first | exact WkL.refl _ | (exact wl_; done)) (.keep rfl rfl (.refl _) (.nil _))))) (.nil _))⟩ rfl (by kernel_rfl)
    ·refine ⟨_, rfl, ?_⟩
     refine wv_ (qv_loadB 0 ShpC.h rfl rfl rfl rfl) ?_
     refine pl_ 3 rfl (pv_buildC StrC.h rfl rfl) ?_
     refine xpstepN (is := [0, 6]) (by kernel_rfl) (by simp) ?_
     intro i hi; simp only [List.mem_cons, List.not_mem_nil, or_false] at hi; rcases hi with rfl | rfl
     ·refine ⟨_, rfl, ?_⟩
      refine wv_ (qv_loadP 1 [] ([.v (.int .i64 x9.1)] ++ ((List.map E_palinode_api_Span x9.2.1.l).flatten ++ [.pt (List.isEmpty x9.2.2) (PC_palinode_match_cell x9.2.2)])) [] sq_ sl_ sl_ (part_all sl_) ShpC.h rfl rfl) ?_
      exact xpuse key172 rfl ⟨lk_, by exact (SubM.of (.keep rfl rfl (.refl _) (.keep rfl rfl (.refl _) (.keep rfl rfl (by first | exact WkL.refl _ | (exact wl_; done)) (.keep rfl rfl (.refl _) (.nil _))))) (.nil _))⟩ rfl (by kernel_rfl)
     ·refine ⟨_, rfl, ?_⟩
      refine wv_ (qv_loadB 0 ShpC.h rfl rfl rfl rfl) ?_
      refine pl_ 7 rfl (pv_buildC StrC.h rfl rfl) ?_
      refine xpvalE 0 [] rfl (qv_loadP 1 [] ([.v (.int .i64 x9.1)] ++ ((List.map E_palinode_api_Span x9.2.1.l).flatten ++ [.pt (List.isEmpty x9.2.2) (PC_palinode_match_cell x9.2.2)])) [] sq_ sl_ sl_ (part_all sl_) ShpC.h rfl rfl) rfl rfl (by kernel_rfl) (by kernel_rfl) (by kernel_rfl) (fun _ _ _ _ h => h) ?_
      exact xpuse key171 rfl ⟨lk_, by exact (SubM.of (.drop (.keep rfl rfl (.refl _) (.keep rfl rfl (by first | exact WkL.refl _ | (exact wl_; done)) (.keep rfl rfl (.refl _) (.nil _))))) (.nil _))⟩ rfl (by kernel_rfl)
    ·refine ⟨_, rfl, ?_⟩
     refine wv_ (qv_loadB 0 ShpC.h rfl rfl rfl rfl) ?_
     refine pl_ 7 rfl (pv_buildC StrC.h rfl rfl) ?_
     refine xpvalE 2 [0] rfl (qv_loadB 0 ShpC.h rfl rfl rfl rfl) rfl rfl (by kernel_rfl) (by kernel_rfl) (by kernel_rfl) (fun _ _ _ _ h => h) ?_
     refine pl_ 3 rfl (pv_buildC StrC.h rfl rfl) ?_
     refine xpvalE 0 [] rfl (qv_loadP 1 [] ([.v (.int .i64 x9.1)] ++ ((List.map E_palinode_api_Span x9.2.1.l).flatten ++ [.pt (List.isEmpty x9.2.2) (PC_palinode_match_cell x9.2.2)])) [] sq_ sl_ sl_ (part_all sl_) ShpC.h rfl rfl) rfl rfl (by kernel_rfl) (by kernel_rfl) (by kernel_rfl) (fun _ _ _ _ h => h) ?_
     exact xpuse key171 rfl ⟨lk_, by exact (SubM.of (.drop (.keep rfl rfl (.refl _) (.keep rfl rfl (by first | exact WkL.refl _ | (exact wl_; done)) (.keep rfl rfl (.refl _) (.nil _))))) (.nil _))⟩ rfl (by kernel_rfl)
   ·replace h := h.2 hp165
    refine xcondF' (decide_eq_false hp165) rfl ?_
    refine sr_ ?_
    refine vp_ (pv_bin2 rfl rfl rfl) ?_
    refine as_ ?_
    refine nt_ ?_
    by_cases hp174 : y11.1 = 3
    ·replace h := h.1 hp174
     refine xcondT' (decide_eq_true hp174) rfl ?_
     refine sr_ ?_
     refine mv_ ?_
     refine v_ (qv_loadP 1 [] ([.v (.int .i64 x9.1)] ++ ((List.map E_palinode_api_Span x9.2.1.l).flatten ++ [.pt (List.isEmpty x9.2.2) (PC_palinode_match_cell x9.2.2)])) [] sq_ sl_ sl_ (part_all sl_) ShpC.h rfl rfl) ?_
     refine vp_ (qv_fieldAddrB FldC.h rfl) ?_
     refine v_ (qv_loadB 0 ShpC.h rfl rfl rfl rfl) ?_
     refine vp_ (pv_buildC StrC.h rfl rfl) ?_
     obtain ⟨y176, h175, h⟩ := h
     refine xcall0 (match_way_ahead_con x9 (0, y11.2.2.1, 0, 0, ([] : List (Int × Int × Int × Int))) _ h175) Try.func36 (by kernel_rfl) rfl (.cons rfl (.refl _) (.cons rfl (.agg (.cons (.refl _) (.cons (.refl _) (.cons (.refl _) (.cons (.refl _) (.cons (Wk.nil_pt _) .nil)))))) .nil)) rfl rfl ?_
     obtain ⟨y178, h177, h⟩ := h
     refine xcallF (Fb := [⟨b6, 45, ([.v (.int .i64 y11.1), .v (.int .i64 y11.2.1), .v (.int .i64 y11.2.2.1), .v (.int .i64 y11.2.2.2.1), .v (.int .i64 y11.2.2.2.2.1), .v (.int .i64 y11.2.2.2.2.2.1)] ++ (List.map ew y11.2.2.2.2.2.2.l).flatten)⟩, ⟨b4, 79, ([.v (.int .i64 x9.1)] ++ ((List.map E_palinode_api_Span x9.2.1.l).flatten ++ [.pt (List.isEmpty x9.2.2) (PC_palinode_match_cell x9.2.2)]))⟩]) (Ft := []) (match_search_follow_con o3 o4 o5 o6 o7 o8 l1 y176 bx0 ia2 _ h177) Try.func26 (by kernel_rfl) rfl (.cons rfl (.refl _) (.cons rfl (.refl _) .nil)) (by refine SubM.trans (SubM.mvB 3 rfl) ?_; refine SubM.trans (SubM.mvB 3 rfl) ?_; (simp only [List.eraseIdx]); exact sm_) rfl rfl ?_
     rintro _ _ _ ⟨i179, rfl, rfl, rfl⟩
     simp only [List.nil_append, List.cons_append]
     refine nt_ ?_
     refine xregion ?_
     refine v_ (qv_loadP 3 [] ([.v (.int .i64 x9.1)] ++ ((List.map E_palinode_api_Span x9.2.1.l).flatten ++ [.pt (List.isEmpty x9.2.2) (PC_palinode_match_cell x9.2.2)])) [] sq_ sl_ sl_ (part_all sl_) ShpC.h rfl rfl) ?_
     refine vp_ (qv_fieldAddrB FldC.h rfl) ?_
     refine v_ (qv_loadB 2 ShpC.h rfl rfl rfl rfl) ?_
     refine vp_ (pv_buildC StrC.h rfl rfl) ?_
     obtain ⟨y181, h180, h⟩ := h
     refine xcall0 (match_way_ahead_con x9 (0, y11.2.1, 0, 0, ([] : List (Int × Int × Int × Int))) _ h180) Try.func36 (by kernel_rfl) rfl (.cons rfl (.refl _) (.cons rfl (.agg (.cons (.refl _) (.cons (.refl _) (.cons (.refl _) (.cons (.refl _) (.cons (Wk.nil_pt _) .nil)))))) .nil)) rfl rfl ?_
     refine xstoreQ 3 [] ([.v (.int .i64 x9.1)] ++ ((List.map E_palinode_api_Span x9.2.1.l).flatten ++ [.pt (List.isEmpty x9.2.2) (PC_palinode_match_cell x9.2.2)])) [] ([.v (.int .i64 y181.1)] ++ ((List.map E_palinode_api_Span y181.2.1.l).flatten ++ [.pt (List.isEmpty y181.2.2) (PC_palinode_match_cell y181.2.2)])) ShpC.h rfl rfl rfl rfl rfl ?_
     refine xnil ?_
     refine xin_normal ?_
     exact xmeet ⟨y181.1, y181.2.1, y181.2.2, y178.2.1, y178.2.2, y178.1, i179, h, rfl⟩ ⟨lk_, by refine SubM.trans (SubM.mvB 0 rfl) ?_; refine SubM.trans (SubM.mvB 1 rfl) ?_; refine SubM.trans (SubM.mvB 3 rfl) ?_; (simp only [List.eraseIdx]); exact sm_⟩
    ·replace h := h.2 hp174
     refine xcondF' (decide_eq_false hp174) rfl ?_
     refine sr_ ?_
     refine vp_ (pv_bin2 rfl rfl rfl) ?_
     refine as_ ?_
     refine nt_ ?_
     by_cases hp183 : y11.1 = 5
     ·replace h := h.1 hp183
      refine xcondT' (decide_eq_true hp183) rfl ?_
      refine xregionD (m := 12) (by kernel_rfl) rfl ?_
      obtain ⟨y185, h184, h⟩ := h
      obtain ⟨y187, h186, h⟩ := h
      refine xpcut 2 #[true, true, true, true, true, true, true, true, true, true, false, false] (fun σ => σ = ⟨[(0, .v (.pointer (some ⟨bx0, 0, none⟩))), (4, .v (.pointer (some ⟨b4, 0, none⟩))), (79, .agg ([.v (.int .i64 y185.1)] ++ ((List.map E_palinode_api_Span y185.2.1.l).flatten ++ [.pt (List.isEmpty y185.2.2) (PC_palinode_match_cell y185.2.2)]))), (82, .agg [.v (.int .i64 0), .v (.int .i64 y11.2.1), .v (.int .i64 0), .v (.int .i64 0), .v (.pointer none)])], [⟨b4, 79, ([.v (.int .i64 x9.1)] ++ ((List.map E_palinode_api_Span x9.2.1.l).flatten ++ [.pt (List.isEmpty x9.2.2) (PC_palinode_match_cell x9.2.2)]))⟩, ⟨bx0, 74, ([.sl 10 none (List.map E_palinode_api_Node o3), .v (.int .i64 o4), .sl 1 none (List.map eb o5), .rb ia2 l1.length, .v (.bool o6)] ++ ((List.map E_palinode_api_Span o7.l).flatten ++ [.v (.int .i64 o8)]))⟩, rbx ia2 79 22 (List.map E_palinode_match_way l1)], []⟩) ?_ (fun key188 => ?_)
      ·rintro _ rfl
       refine xpstep (i := 10) (by kernel_rfl) rfl ?_
       refine wcall0 (match_way_ahead_con y185 (0, y11.2.1, 0, 0, ([] : List (Int × Int × Int × Int))) _ h186) Try.func36 (by kernel_rfl) rfl (.cons rfl (.refl _) (.cons rfl (.agg (.cons (.refl _) (.cons (.refl _) (.cons (.refl _) (.cons (.refl _) (.cons (Wk.nil_pt _) .nil)))))) .nil)) rfl rfl ?_
       refine xpstep (i := 11) (by kernel_rfl) rfl ?_
       refine wstoreQ 0 [] ([.v (.int .i64 x9.1)] ++ ((List.map E_palinode_api_Span x9.2.1.l).flatten ++ [.pt (List.isEmpty x9.2.2) (PC_palinode_match_cell x9.2.2)])) [] ([.v (.int .i64 y187.1)] ++ ((List.map E_palinode_api_Span y187.2.1.l).flatten ++ [.pt (List.isEmpty y187.2.2) (PC_palinode_match_cell y187.2.2)])) ShpC.h rfl rfl rfl rfl rfl ?_
       refine xpdone (by kernel_rfl) ?_
       refine xin_normal ?_
       exact xmeet ⟨y187.1, y187.2.1, y187.2.2, o6, o7, l1, ia2, h, rfl⟩ ⟨lk_, by exact (SubM.of (.keep rfl rfl (.refl _) (.keep rfl rfl (by first | exact WkL.refl _ | (exact wl_; done)) (.keep rfl rfl (.refl _) (.nil _)))) (.nil _))⟩
      refine xpcut 3 #[true, true, true, true, true, true, false, true, true, true, false, false] (fun σ => σ = ⟨[(0, .v (.pointer (some ⟨bx0, 0, none⟩))), (4, .v (.pointer (some ⟨b4, 0, none⟩))), (73, .agg ([.v (.int .i64 x9.1)] ++ ((List.map E_palinode_api_Span x9.2.1.l).flatten ++ [.pt (List.isEmpty x9.2.2) (PC_palinode_match_cell x9.2.2)]))), (78, .agg [.v (.int .i64 1), .v (.int .i64 y11.2.2.2.2.2.1), .v (.int .i64 0), .v (.int .i64 x9.1), .v (.pointer none)]), (82, .agg [.v (.int .i64 0), .v (.int .i64 y11.2.1), .v (.int .i64 0), .v (.int .i64 0), .v (.pointer none)])], [⟨b4, 79, ([.v (.int .i64 x9.1)] ++ ((List.map E_palinode_api_Span x9.2.1.l).flatten ++ [.pt (List.isEmpty x9.2.2) (PC_palinode_match_cell x9.2.2)]))⟩, ⟨bx0, 74, ([.sl 10 none (List.map E_palinode_api_Node o3), .v (.int .i64 o4), .sl 1 none (List.map eb o5), .rb ia2 l1.length, .v (.bool o6)] ++ ((List.map E_palinode_api_Span o7.l).flatten ++ [.v (.int .i64 o8)]))⟩, rbx ia2 79 22 (List.map E_palinode_match_way l1)], []⟩) ?_ (fun key189 => ?_)
      ·rintro _ rfl
       refine xpstep (i := 6) (by kernel_rfl) rfl ?_
       refine wcall0 (match_way_ahead_con x9 (1, y11.2.2.2.2.2.1, 0, x9.1, ([] : List (Int × Int × Int × Int))) _ h184) Try.func36 (by kernel_rfl) rfl (.cons rfl (.refl _) (.cons rfl (.agg (.cons (.refl _) (.cons (.refl _) (.cons (.refl _) (.cons (.refl _) (.cons (Wk.nil_pt _) .nil)))))) .nil)) rfl rfl ?_
       exact xpuse key188 rfl ⟨lk_, by exact (SubM.of (.keep rfl rfl (.refl _) (.keep rfl rfl (by first | exact WkL.refl _ | (exact wl_; done)) (.keep rfl rfl (.refl _) (.nil _)))) (.nil _))⟩ rfl (by kernel_rfl)
      refine xpcut 5 #[true, true, true, true, true, true, false, true, false, false, false, false] (fun σ => σ = ⟨[(0, .v (.pointer (some ⟨bx0, 0, none⟩))), (4, .v (.pointer (some ⟨b4, 0, none⟩))), (73, .agg ([.v (.int .i64 x9.1)] ++ ((List.map E_palinode_api_Span x9.2.1.l).flatten ++ [.pt (List.isEmpty x9.2.2) (PC_palinode_match_cell x9.2.2)]))), (78, .agg [.v (.int .i64 1), .v (.int .i64 y11.2.2.2.2.2.1), .v (.int .i64 0), .v (.int .i64 x9.1), .v (.pointer none)]), (80, .v (.pointer (some ⟨b6, 1, none⟩)))], [⟨b6, 45, ([.v (.int .i64 y11.1), .v (.int .i64 y11.2.1), .v (.int .i64 y11.2.2.1), .v (.int .i64 y11.2.2.2.1), .v (.int .i64 y11.2.2.2.2.1), .v (.int .i64 y11.2.2.2.2.2.1)] ++ (List.map ew y11.2.2.2.2.2.2.l).flatten)⟩, ⟨b4, 79, ([.v (.int .i64 x9.1)] ++ ((List.map E_palinode_api_Span x9.2.1.l).flatten ++ [.pt (List.isEmpty x9.2.2) (PC_palinode_match_cell x9.2.2)]))⟩, ⟨bx0, 74, ([.sl 10 none (List.map E_palinode_api_Node o3), .v (.int .i64 o4), .sl 1 none (List.map eb o5), .rb ia2 l1.length, .v (.bool o6)] ++ ((List.map E_palinode_api_Span o7.l).flatten ++ [.v (.int .i64 o8)]))⟩, rbx ia2 79 22 (List.map E_palinode_match_way l1)], []⟩) ?_ (fun key190 => ?_)
      ·rintro _ rfl
       refine xpstepN (is := [6, 8]) (by kernel_rfl) (by simp) ?_
       intro i hi; simp only [List.mem_cons, List.not_mem_nil, or_false] at hi; rcases hi with rfl | rfl
       ·refine ⟨_, rfl, ?_⟩
        refine wcall0 (match_way_ahead_con x9 (1, y11.2.2.2.2.2.1, 0, x9.1, ([] : List (Int × Int × Int × Int))) _ h184) Try.func36 (by kernel_rfl) rfl (.cons rfl (.refl _) (.cons rfl (.agg (.cons (.refl _) (.cons (.refl _) (.cons (.refl _) (.cons (.refl _) (.cons (Wk.nil_pt _) .nil)))))) .nil)) rfl rfl ?_
        refine xpvalE 8 [] rfl (qv_loadB 0 ShpC.h rfl rfl rfl rfl) rfl rfl (by kernel_rfl) (by kernel_rfl) (by kernel_rfl) (fun _ _ _ _ h => h) ?_
        refine pl_ 9 rfl (pv_buildC StrC.h rfl rfl) ?_
        exact xpuse key188 rfl ⟨lk_, by exact (SubM.of (.drop (.keep rfl rfl (.refl _) (.keep rfl rfl (by first | exact WkL.refl _ | (exact wl_; done)) (.keep rfl rfl (.refl _) (.nil _))))) (.nil _))⟩ rfl (by kernel_rfl)
       ·refine ⟨_, rfl, ?_⟩
        refine wv_ (qv_loadB 0 ShpC.h rfl rfl rfl rfl) ?_
        refine pl_ 9 rfl (pv_buildC StrC.h rfl rfl) ?_
        exact xpuse key189 rfl ⟨lk_, by exact (SubM.of (.drop (.keep rfl rfl (.refl _) (.keep rfl rfl (by first | exact WkL.refl _ | (exact wl_; done)) (.keep rfl rfl (.refl _) (.nil _))))) (.nil _))⟩ rfl (by kernel_rfl)
      refine xpcut 6 #[false, true, true, true, true, true, false, true, false, false, false, false] (fun σ => σ = ⟨[(0, .v (.pointer (some ⟨bx0, 0, none⟩))), (4, .v (.pointer (some ⟨b4, 0, none⟩))), (78, .agg [.v (.int .i64 1), .v (.int .i64 y11.2.2.2.2.2.1), .v (.int .i64 0), .v (.int .i64 x9.1), .v (.pointer none)]), (80, .v (.pointer (some ⟨b6, 1, none⟩)))], [⟨b6, 45, ([.v (.int .i64 y11.1), .v (.int .i64 y11.2.1), .v (.int .i64 y11.2.2.1), .v (.int .i64 y11.2.2.2.1), .v (.int .i64 y11.2.2.2.2.1), .v (.int .i64 y11.2.2.2.2.2.1)] ++ (List.map ew y11.2.2.2.2.2.2.l).flatten)⟩, ⟨b4, 79, ([.v (.int .i64 x9.1)] ++ ((List.map E_palinode_api_Span x9.2.1.l).flatten ++ [.pt (List.isEmpty x9.2.2) (PC_palinode_match_cell x9.2.2)]))⟩, ⟨bx0, 74, ([.sl 10 none (List.map E_palinode_api_Node o3), .v (.int .i64 o4), .sl 1 none (List.map eb o5), .rb ia2 l1.length, .v (.bool o6)] ++ ((List.map E_palinode_api_Span o7.l).flatten ++ [.v (.int .i64 o8)]))⟩, rbx ia2 79 22 (List.map E_palinode_match_way l1)], []⟩) ?_ (fun key191 => ?_)
      ·rintro _ rfl
       refine xpstepN (is := [0, 8]) (by kernel_rfl) (by simp) ?_
       intro i hi; simp only [List.mem_cons, List.not_mem_nil, or_false] at hi; rcases hi with rfl | rfl
       ·refine ⟨_, rfl, ?_⟩
        refine wv_ (qv_loadP 1 [] ([.v (.int .i64 x9.1)] ++ ((List.map E_palinode_api_Span x9.2.1.l).flatten ++ [.pt (List.isEmpty x9.2.2) (PC_palinode_match_cell x9.2.2)])) [] sq_ sl_ sl_ (part_all sl_) ShpC.h rfl rfl) ?_
        exact xpuse key190 rfl ⟨lk_, by exact (SubM.of (.keep rfl rfl (.refl _) (.keep rfl rfl (.refl _) (.keep rfl rfl (by first | exact WkL.refl _ | (exact wl_; done)) (.keep rfl rfl (.refl _) (.nil _))))) (.nil _))⟩ rfl (by kernel_rfl)
       ·refine ⟨_, rfl, ?_⟩
        refine wv_ (qv_loadB 0 ShpC.h rfl rfl rfl rfl) ?_
        refine pl_ 9 rfl (pv_buildC StrC.h rfl rfl) ?_
        refine xpvalE 0 [] rfl (qv_loadP 1 [] ([.v (.int .i64 x9.1)] ++ ((List.map E_palinode_api_Span x9.2.1.l).flatten ++ [.pt (List.isEmpty x9.2.2) (PC_palinode_match_cell x9.2.2)])) [] sq_ sl_ sl_ (part_all sl_) ShpC.h rfl rfl) rfl rfl (by kernel_rfl) (by kernel_rfl) (by kernel_rfl) (fun _ _ _ _ h => h) ?_
        exact xpuse key189 rfl ⟨lk_, by exact (SubM.of (.drop (.keep rfl rfl (.refl _) (.keep rfl rfl (by first | exact WkL.refl _ | (exact wl_; done)) (.keep rfl rfl (.refl _) (.nil _))))) (.nil _))⟩ rfl (by kernel_rfl)
      refine xpcut 7 #[true, true, true, true, false, false, false, true, false, false, false, false] (fun σ => σ = ⟨[(0, .v (.pointer (some ⟨bx0, 0, none⟩))), (4, .v (.pointer (some ⟨b4, 0, none⟩))), (73, .agg ([.v (.int .i64 x9.1)] ++ ((List.map E_palinode_api_Span x9.2.1.l).flatten ++ [.pt (List.isEmpty x9.2.2) (PC_palinode_match_cell x9.2.2)]))), (75, .v (.int .i64 y11.2.2.2.2.2.1)), (76, .v (.pointer (some ⟨b4, 0, none⟩))), (80, .v (.pointer (some ⟨b6, 1, none⟩)))], [⟨b6, 45, ([.v (.int .i64 y11.1), .v (.int .i64 y11.2.1), .v (.int .i64 y11.2.2.1), .v (.int .i64 y11.2.2.2.1), .v (.int .i64 y11.2.2.2.2.1), .v (.int .i64 y11.2.2.2.2.2.1)] ++ (List.map ew y11.2.2.2.2.2.2.l).flatten)⟩, ⟨b4, 79, ([.v (.int .i64 x9.1)] ++ ((List.map E_palinode_api_Span x9.2.1.l).flatten ++ [.pt (List.isEmpty x9.2.2) (PC_palinode_match_cell x9.2.2)]))⟩, ⟨bx0, 74, ([.sl 10 none (List.map E_palinode_api_Node o3), .v (.int .i64 o4), .sl 1 none (List.map eb o5), .rb ia2 l1.length, .v (.bool o6)] ++ ((List.map E_palinode_api_Span o7.l).flatten ++ [.v (.int .i64 o8)]))⟩, rbx ia2 79 22 (List.map E_palinode_match_way l1)], []⟩) ?_ (fun key192 => ?_)
      ·rintro _ rfl
       refine xpstepN (is := [4, 8]) (by kernel_rfl) (by simp) ?_
       intro i hi; simp only [List.mem_cons, List.not_mem_nil, or_false] at hi; rcases hi with rfl | rfl
       ·refine ⟨_, rfl, ?_⟩
        refine wv_ (qv_loadB 1 ShpC.h rfl rfl rfl rfl) ?_
        refine pl_ 5 rfl (pv_buildC StrC.h rfl rfl) ?_
        exact xpuse key190 rfl ⟨lk_, by exact (SubM.of (.keep rfl rfl (.refl _) (.keep rfl rfl (.refl _) (.keep rfl rfl (by first | exact WkL.refl _ | (exact wl_; done)) (.keep rfl rfl (.refl _) (.nil _))))) (.nil _))⟩ rfl (by kernel_rfl)
       ·refine ⟨_, rfl, ?_⟩
        refine wv_ (qv_loadB 0 ShpC.h rfl rfl rfl rfl) ?_
        refine pl_ 9 rfl (pv_buildC StrC.h rfl rfl) ?_
        refine xpvalE 4 [] rfl (qv_loadB 1 ShpC.h rfl rfl rfl rfl) rfl rfl (by kernel_rfl) (by kernel_rfl) (by kernel_rfl) (fun _ _ _ _ h => h) ?_
        refine pl_ 5 rfl (pv_buildC StrC.h rfl rfl) ?_
        exact xpuse key189 rfl ⟨lk_, by exact (SubM.of (.drop (.keep rfl rfl (.refl _) (.keep rfl rfl (by first | exact WkL.refl _ | (exact wl_; done)) (.keep rfl rfl (.refl _) (.nil _))))) (.nil _))⟩ rfl (by kernel_rfl)
      refine xpcut 7 #[true, true, false, true, true, false, false, true, false, false, false, false] (fun σ => σ = ⟨[(0, .v (.pointer (some ⟨bx0, 0, none⟩))), (4, .v (.pointer (some ⟨b4, 0, none⟩))), (73, .agg ([.v (.int .i64 x9.1)] ++ ((List.map E_palinode_api_Span x9.2.1.l).flatten ++ [.pt (List.isEmpty x9.2.2) (PC_palinode_match_cell x9.2.2)]))), (74, .v (.pointer (some ⟨b6, 5, none⟩))), (77, .v (.int .i64 x9.1)), (80, .v (.pointer (some ⟨b6, 1, none⟩)))], [⟨b6, 45, ([.v (.int .i64 y11.1), .v (.int .i64 y11.2.1), .v (.int .i64 y11.2.2.1), .v (.int .i64 y11.2.2.2.1), .v (.int .i64 y11.2.2.2.2.1), .v (.int .i64 y11.2.2.2.2.2.1)] ++ (List.map ew y11.2.2.2.2.2.2.l).flatten)⟩, ⟨b4, 79, ([.v (.int .i64 x9.1)] ++ ((List.map E_palinode_api_Span x9.2.1.l).flatten ++ [.pt (List.isEmpty x9.2.2) (PC_palinode_match_cell x9.2.2)]))⟩, ⟨bx0, 74, ([.sl 10 none (List.map E_palinode_api_Node o3), .v (.int .i64 o4), .sl 1 none (List.map eb o5), .rb ia2 l1.length, .v (.bool o6)] ++ ((List.map E_palinode_api_Span o7.l).flatten ++ [.v (.int .i64 o8)]))⟩, rbx ia2 79 22 (List.map E_palinode_match_way l1)], []⟩) ?_ (fun key193 => ?_)
      ·rintro _ rfl
       refine xpstepN (is := [2, 8]) (by kernel_rfl) (by simp) ?_
       intro i hi; simp only [List.mem_cons, List.not_mem_nil, or_false] at hi; rcases hi with rfl | rfl
       ·refine ⟨_, rfl, ?_⟩
        refine wv_ (qv_loadB 0 ShpC.h rfl rfl rfl rfl) ?_
        refine pl_ 5 rfl (pv_buildC StrC.h rfl rfl) ?_
        exact xpuse key190 rfl ⟨lk_, by exact (SubM.of (.keep rfl rfl (.refl _) (.keep rfl rfl (.refl _) (.keep rfl rfl (by first | exact WkL.refl _ | (exact wl_; done)) (.keep rfl rfl (.refl _) (.nil _))))) (.nil _))⟩ rfl (by kernel_rfl)
       ·refine ⟨_, rfl, ?_⟩
        refine wv_ (qv_loadB 0 ShpC.h rfl rfl rfl rfl) ?_
        refine pl_ 9 rfl (pv_buildC StrC.h rfl rfl) ?_
        refine xpvalE 2 [] rfl (qv_loadB 0 ShpC.h rfl rfl rfl rfl) rfl rfl (by kernel_rfl) (by kernel_rfl) (by kernel_rfl) (fun _ _ _ _ h => h) ?_
        refine pl_ 5 rfl (pv_buildC StrC.h rfl rfl) ?_
        exact xpuse key189 rfl ⟨lk_, by exact (SubM.of (.drop (.keep rfl rfl (.refl _) (.keep rfl rfl (by first | exact WkL.refl _ | (exact wl_; done)) (.keep rfl rfl (.refl _) (.nil _))))) (.nil _))⟩ rfl (by kernel_rfl)
      refine pl_ 1 rfl (qv_fieldAddrB FldC.h rfl) ?_
      refine pl_ 3 rfl (qv_fieldAddrB FldC.h rfl) ?_
      refine pl_ 7 rfl (qv_fieldAddrB FldC.h rfl) ?_
      refine xpstepN (is := [0, 2, 4, 8]) (by kernel_rfl) (by simp) ?_
      intro i hi; simp only [List.mem_cons, List.not_mem_nil, or_false] at hi; rcases hi with rfl | rfl | rfl | rfl
      ·refine ⟨_, rfl, ?_⟩
       refine wv_ (qv_loadP 1 [] ([.v (.int .i64 x9.1)] ++ ((List.map E_palinode_api_Span x9.2.1.l).flatten ++ [.pt (List.isEmpty x9.2.2) (PC_palinode_match_cell x9.2.2)])) [] sq_ sl_ sl_ (part_all sl_) ShpC.h rfl rfl) ?_
       refine xpstepN (is := [2, 4, 8]) (by kernel_rfl) (by simp) ?_
       intro i hi; simp only [List.mem_cons, List.not_mem_nil, or_false] at hi; rcases hi with rfl | rfl | rfl
       ·refine ⟨_, rfl, ?_⟩
        refine wv_ (qv_loadB 0 ShpC.h rfl rfl rfl rfl) ?_
        exact xpuse key192 rfl ⟨lk_, by exact (SubM.of (.keep rfl rfl (.refl _) (.keep rfl rfl (.refl _) (.keep rfl rfl (by first | exact WkL.refl _ | (exact wl_; done)) (.keep rfl rfl (.refl _) (.nil _))))) (.nil _))⟩ rfl (by kernel_rfl)
       ·refine ⟨_, rfl, ?_⟩
        refine wv_ (qv_loadB 1 ShpC.h rfl rfl rfl rfl) ?_
        exact xpuse key193 rfl ⟨lk_, by exact (SubM.of (.keep rfl rfl (.refl _) (.keep rfl rfl (.refl _) (.keep rfl rfl (by first | exact WkL.refl _ | (exact wl_; done)) (.keep rfl rfl (.refl _) (.nil _))))) (.nil _))⟩ rfl (by kernel_rfl)
       ·refine ⟨_, rfl, ?_⟩
        refine wv_ (qv_loadB 0 ShpC.h rfl rfl rfl rfl) ?_
        refine pl_ 9 rfl (pv_buildC StrC.h rfl rfl) ?_
        refine xpvalE 2 [4] rfl (qv_loadB 0 ShpC.h rfl rfl rfl rfl) rfl rfl (by kernel_rfl) (by kernel_rfl) (by kernel_rfl) (fun _ _ _ _ h => h) ?_
        refine xpvalE 4 [] rfl (qv_loadB 1 ShpC.h rfl rfl rfl rfl) rfl rfl (by kernel_rfl) (by kernel_rfl) (by kernel_rfl) (fun _ _ _ _ h => h) ?_
        refine pl_ 5 rfl (pv_buildC StrC.h rfl rfl) ?_
        exact xpuse key189 rfl ⟨lk_, by exact (SubM.of (.drop (.keep rfl rfl (.refl _) (.keep rfl rfl (by first | exact WkL.refl _ | (exact wl_; done)) (.keep rfl rfl (.refl _) (.nil _))))) (.nil _))⟩ rfl (by kernel_rfl)
      ·refine ⟨_, rfl, ?_⟩
       refine wv_ (qv_loadB 0 ShpC.h rfl rfl rfl rfl) ?_
       refine xpstepN (is := [0, 4, 8]) (by kernel_rfl) (by simp) ?_
       intro i hi; simp only [List.mem_cons, List.not_mem_nil, or_false] at hi; rcases hi with rfl | rfl | rfl
       ·refine ⟨_, rfl, ?_⟩
        refine wv_ (qv_loadP 1 [] ([.v (.int .i64 x9.1)] ++ ((List.map E_palinode_api_Span x9.2.1.l).flatten ++ [.pt (List.isEmpty x9.2.2) (PC_palinode_match_cell x9.2.2)])) [] sq_ sl_ sl_ (part_all sl_) ShpC.h rfl rfl) ?_
        exact xpuse key192 rfl ⟨lk_, by exact (SubM.of (.keep rfl rfl (.refl _) (.keep rfl rfl (.refl _) (.keep rfl rfl (by first | exact WkL.refl _ | (exact wl_; done)) (.keep rfl rfl (.refl _) (.nil _))))) (.nil _))⟩ rfl (by kernel_rfl)
       ·refine ⟨_, rfl, ?_⟩
        refine wv_ (qv_loadB 1 ShpC.h rfl rfl rfl rfl) ?_
        refine pl_ 5 rfl (pv_buildC StrC.h rfl rfl) ?_
        exact xpuse key191 rfl ⟨lk_, by exact (SubM.of (.keep rfl rfl (.refl _) (.keep rfl rfl (.refl _) (.keep rfl rfl (by first | exact WkL.refl _ | (exact wl_; done)) (.keep rfl rfl (.refl _) (.nil _))))) (.nil _))⟩ rfl (by kernel_rfl)
       ·refine ⟨_, rfl, ?_⟩
        refine wv_ (qv_loadB 0 ShpC.h rfl rfl rfl rfl) ?_
        refine pl_ 9 rfl (pv_buildC StrC.h rfl rfl) ?_
        refine xpvalE 4 [0] rfl (qv_loadB 1 ShpC.h rfl rfl rfl rfl) rfl rfl (by kernel_rfl) (by kernel_rfl) (by kernel_rfl) (fun _ _ _ _ h => h) ?_
        refine pl_ 5 rfl (pv_buildC StrC.h rfl rfl) ?_
        refine xpvalE 0 [] rfl (qv_loadP 1 [] ([.v (.int .i64 x9.1)] ++ ((List.map E_palinode_api_Span x9.2.1.l).flatten ++ [.pt (List.isEmpty x9.2.2) (PC_palinode_match_cell x9.2.2)])) [] sq_ sl_ sl_ (part_all sl_) ShpC.h rfl rfl) rfl rfl (by kernel_rfl) (by kernel_rfl) (by kernel_rfl) (fun _ _ _ _ h => h) ?_
        exact xpuse key189 rfl ⟨lk_, by exact (SubM.of (.drop (.keep rfl rfl (.refl _) (.keep rfl rfl (by first | exact WkL.refl _ | (exact wl_; done)) (.keep rfl rfl (.refl _) (.nil _))))) (.nil _))⟩ rfl (by kernel_rfl)
      ·refine ⟨_, rfl, ?_⟩
       refine wv_ (qv_loadB 1 ShpC.h rfl rfl rfl rfl) ?_
       refine xpstepN (is := [0, 2, 8]) (by kernel_rfl) (by simp) ?_
       intro i hi; simp only [List.mem_cons, List.not_mem_nil, or_false] at hi; rcases hi with rfl | rfl | rfl
       ·refine ⟨_, rfl, ?_⟩
        refine wv_ (qv_loadP 1 [] ([.v (.int .i64 x9.1)] ++ ((List.map E_palinode_api_Span x9.2.1.l).flatten ++ [.pt (List.isEmpty x9.2.2) (PC_palinode_match_cell x9.2.2)])) [] sq_ sl_ sl_ (part_all sl_) ShpC.h rfl rfl) ?_
        exact xpuse key193 rfl ⟨lk_, by exact (SubM.of (.keep rfl rfl (.refl _) (.keep rfl rfl (.refl _) (.keep rfl rfl (by first | exact WkL.refl _ | (exact wl_; done)) (.keep rfl rfl (.refl _) (.nil _))))) (.nil _))⟩ rfl (by kernel_rfl)
       ·refine ⟨_, rfl, ?_⟩
        refine wv_ (qv_loadB 0 ShpC.h rfl rfl rfl rfl) ?_
        refine pl_ 5 rfl (pv_buildC StrC.h rfl rfl) ?_
        exact xpuse key191 rfl ⟨lk_, by exact (SubM.of (.keep rfl rfl (.refl _) (.keep rfl rfl (.refl _) (.keep rfl rfl (by first | exact WkL.refl _ | (exact wl_; done)) (.keep rfl rfl (.refl _) (.nil _))))) (.nil _))⟩ rfl (by kernel_rfl)
       ·refine ⟨_, rfl, ?_⟩
        refine wv_ (qv_loadB 0 ShpC.h rfl rfl rfl rfl) ?_
        refine pl_ 9 rfl (pv_buildC StrC.h rfl rfl) ?_
        refine xpvalE 2 [0] rfl (qv_loadB 0 ShpC.h rfl rfl rfl rfl) rfl rfl (by kernel_rfl) (by kernel_rfl) (by kernel_rfl) (fun _ _ _ _ h => h) ?_
        refine pl_ 5 rfl (pv_buildC StrC.h rfl rfl) ?_
        refine xpvalE 0 [] rfl (qv_loadP 1 [] ([.v (.int .i64 x9.1)] ++ ((List.map E_palinode_api_Span x9.2.1.l).flatten ++ [.pt (List.isEmpty x9.2.2) (PC_palinode_match_cell x9.2.2)])) [] sq_ sl_ sl_ (part_all sl_) ShpC.h rfl rfl) rfl rfl (by kernel_rfl) (by kernel_rfl) (by kernel_rfl) (fun _ _ _ _ h => h) ?_
        exact xpuse key189 rfl ⟨lk_, by exact (SubM.of (.drop (.keep rfl rfl (.refl _) (.keep rfl rfl (by first | exact WkL.refl _ | (exact wl_; done)) (.keep rfl rfl (.refl _) (.nil _))))) (.nil _))⟩ rfl (by kernel_rfl)
      ·refine ⟨_, rfl, ?_⟩
       refine wv_ (qv_loadB 0 ShpC.h rfl rfl rfl rfl) ?_
       refine pl_ 9 rfl (pv_buildC StrC.h rfl rfl) ?_
       refine xpvalE 2 [0, 4] rfl (qv_loadB 0 ShpC.h rfl rfl rfl rfl) rfl rfl (by kernel_rfl) (by kernel_rfl) (by kernel_rfl) (fun _ _ _ _ h => h) ?_
       refine xpvalE 4 [0] rfl (qv_loadB 1 ShpC.h rfl rfl rfl rfl) rfl rfl (by kernel_rfl) (by kernel_rfl) (by kernel_rfl) (fun _ _ _ _ h => h) ?_
       refine pl_ 5 rfl (pv_buildC StrC.h rfl rfl) ?_
       refine xpvalE 0 [] rfl (qv_loadP 1 [] ([.v (.int .i64 x9.1)] ++ ((List.map E_palinode_api_Span x9.2.1.l).flatten ++ [.pt (List.isEmpty x9.2.2) (PC_palinode_match_cell x9.2.2)])) [] sq_ sl_ sl_ (part_all sl_) ShpC.h rfl rfl) rfl rfl (by kernel_rfl) (by kernel_rfl) (by kernel_rfl) (fun _ _ _ _ h => h) ?_
       exact xpuse key189 rfl ⟨lk_, by exact (SubM.of (.drop (.keep rfl rfl (.refl _) (.keep rfl rfl (by first | exact WkL.refl _ | (exact wl_; done)) (.keep rfl rfl (.refl _) (.nil _))))) (.nil _))⟩ rfl (by kernel_rfl)
     ·replace h := h.2 hp183
      refine xcondF' (decide_eq_false hp183) rfl ?_
      refine sr_ ?_
      refine vp_ (pv_bin2 rfl rfl rfl) ?_
      refine as_ ?_
      refine nt_ ?_
      by_cases hp195 : y11.1 = 6
      ·replace h := h.1 hp195
       refine xcondT' (decide_eq_true hp195) rfl ?_
       refine sr_ ?_
       refine vp_ (qv_fieldAddrB FldC.h rfl) ?_
       refine v_ (qv_loadB 0 ShpC.h rfl rfl rfl rfl) ?_
       refine vp_ (qv_fieldAddrB FldC.h rfl) ?_
       obtain ⟨h196, h⟩ := h
       obtain ⟨y197, h196b, h⟩ := h
       refine vp_ (pv_indexAddrBA h196 UndC.h ShpC.h rfl rfl) ?_
       refine v_ (qv_loadA (f := E_palinode_api_Span) (a := x9.2.1) (k := 2) (off := 0) (i := (y11.2.2.2.2.2.1 : Int).toNat) 1 [.v (.int .i64 x9.1)] [.pt (List.isEmpty x9.2.2) (PC_palinode_match_cell x9.2.2)] h196b sq_ so_ (by decide) (by first | rfl | exact part_all sl_) ShpC.h rfl rfl) ?_
       refine xalloc InfC.h rfl rfl fun b7 => ?_
       refine xstore 0 ShpC.h rfl rfl rfl rfl rfl rfl rfl ?_
       refine nt_ ?_
       refine xseq ?_
       refine xseq ?_
       refine xregionD (m := 23) (by kernel_rfl) rfl ?_
       refine pl_ 0 rfl (qv_fieldAddrB FldC.h rfl) ?_
       refine xpvalE 1 [] rfl (qv_loadB 0 ShpC.h rfl rfl rfl rfl) rfl rfl (by kernel_rfl) (by kernel_rfl) (by kernel_rfl) (fun _ _ _ _ h => h) ?_
       refine pl_ 2 rfl (pv_bin2 rfl rfl rfl) ?_
       refine pl_ 3 rfl (pv_move rfl) ?_
       by_cases hp218 : y197.1 < 0
       ·replace h := h.1 hp218
        refine psetB 94 (decide_eq_true hp218) rfl ?_
        refine xpskip 4 rfl rfl rfl (by kernel_rfl) (by kernel_rfl) (by kernel_rfl) (fun _ _ _ _ h => h) ?_
        refine xpskip 5 rfl rfl rfl (by kernel_rfl) (by kernel_rfl) (by kernel_rfl) (fun _ _ _ _ h => h) ?_
        refine xpskip 6 rfl rfl rfl (by kernel_rfl) (by kernel_rfl) (by kernel_rfl) (fun _ _ _ _ h => h) ?_
        refine xpskip 7 rfl rfl rfl (by kernel_rfl) (by kernel_rfl) (by kernel_rfl) (fun _ _ _ _ h => h) ?_
        refine xpskip 8 rfl rfl rfl (by kernel_rfl) (by kernel_rfl) (by kernel_rfl) (fun _ _ _ _ h => h) ?_
        refine xpskip 9 rfl rfl rfl (by kernel_rfl) (by kernel_rfl) (by kernel_rfl) (fun _ _ _ _ h => h) ?_
        refine xpskip 10 rfl rfl rfl (by kernel_rfl) (by kernel_rfl) (by kernel_rfl) (fun _ _ _ _ h => h) ?_
        refine xpskip 11 rfl rfl rfl (by kernel_rfl) (by kernel_rfl) (by kernel_rfl) (fun _ _ _ _ h => h) ?_
        refine xpskip 12 rfl rfl rfl (by kernel_rfl) (by kernel_rfl) (by kernel_rfl) (fun _ _ _ _ h => h) ?_
        refine xpskip 13 rfl rfl rfl (by kernel_rfl) (by kernel_rfl) (by kernel_rfl) (fun _ _ _ _ h => h) ?_
        refine xpskip 14 rfl rfl rfl (by kernel_rfl) (by kernel_rfl) (by kernel_rfl) (fun _ _ _ _ h => h) ?_
        refine xpskip 15 rfl rfl rfl (by kernel_rfl) (by kernel_rfl) (by kernel_rfl) (fun _ _ _ _ h => h) ?_
        refine xpskip 16 rfl rfl rfl (by kernel_rfl) (by kernel_rfl) (by kernel_rfl) (fun _ _ _ _ h => h) ?_
        refine xpskip 17 rfl rfl rfl (by kernel_rfl) (by kernel_rfl) (by kernel_rfl) (fun _ _ _ _ h => h) ?_
        refine xpskip 18 rfl rfl rfl (by kernel_rfl) (by kernel_rfl) (by kernel_rfl) (fun _ _ _ _ h => h) ?_
        refine xpskip 19 rfl rfl rfl (by kernel_rfl) (by kernel_rfl) (by kernel_rfl) (fun _ _ _ _ h => h) ?_
        refine xpskip 20 rfl rfl rfl (by kernel_rfl) (by kernel_rfl) (by kernel_rfl) (fun _ _ _ _ h => h) ?_
        refine xpskip 21 rfl rfl rfl (by kernel_rfl) (by kernel_rfl) (by kernel_rfl) (fun _ _ _ _ h => h) ?_
        refine pl_ 22 rfl (pv_pick rfl rfl) ?_
        refine xpdone (by kernel_rfl) ?_
        refine xthen ?_
        refine xcondT rfl ?_
        refine xretc ?_
        refine xthen_ret ?_
        refine xin_ret ?_
        refine xthen_ret ?_
        replace h := h.symm
        subst h
        exact xret0 (bx' := [rbx ia2 79 22 (List.map E_palinode_match_way l1), ⟨bx0, 74, ([.sl 10 none (List.map E_palinode_api_Node o3), .v (.int .i64 o4), .sl 1 none (List.map eb o5), .rb ia2 l1.length, .v (.bool o6)] ++ ((List.map E_palinode_api_Span o7.l).flatten ++ [.v (.int .i64 o8)]))⟩]) (tk' := []) hg rfl (by refine SubM.trans (SubM.mvB 3 rfl) ?_; refine SubM.trans (SubM.mvB 4 rfl) ?_; (simp only [List.eraseIdx]); exact sm_) ⟨ia2, rfl, rfl, rfl⟩ (by simp)
       ·replace h := h.2 hp218
        refine psetB 94 (decide_eq_false hp218) rfl ?_
        obtain ⟨h219, h⟩ := h
        obtain ⟨h220, h⟩ := h
        obtain ⟨y222, h221, h⟩ := h
        refine pl_ 4 rfl (pv_move rfl) ?_
        refine pl_ 5 rfl (pv_nilCheck rfl) ?_
        refine pl_ 6 rfl (qv_fieldAddrB FldC.h rfl) ?_
        refine pl_ 8 rfl (qv_fieldAddrB FldC.h rfl) ?_
        refine pl_ 11 rfl (pv_move rfl) ?_
        refine pl_ 12 rfl (pv_nilCheck rfl) ?_
        refine pl_ 13 rfl (qv_fieldAddrB FldC.h rfl) ?_
        refine pl_ 15 rfl (qv_fieldAddrB FldC.h rfl) ?_
        refine pl_ 17 rfl (qv_fieldAddrB FldC.h rfl) ?_
        refine xpvalE 7 [9, 14, 16, 18, 19] rfl (qv_loadB 3 ShpC.h rfl rfl rfl rfl) rfl rfl (by kernel_rfl) (by kernel_rfl) (by kernel_rfl) (fun _ _ _ _ h => h) ?_
        refine xpvalE 9 [14, 16, 18, 19] rfl (qv_loadB 2 ShpC.h rfl rfl rfl rfl) rfl rfl (by kernel_rfl) (by kernel_rfl) (by kernel_rfl) (fun _ _ _ _ h => h) ?_
        refine pl_ 10 rfl (pv_sliceLo h219 UndC.h ShpC.h rfl rfl) ?_
        refine xpvalE 14 [16, 18] rfl (qv_loadB 3 ShpC.h rfl rfl rfl rfl) rfl rfl (by kernel_rfl) (by kernel_rfl) (by kernel_rfl) (fun _ _ _ _ h => h) ?_
        refine xpvalE 16 [18] rfl (qv_loadB 0 ShpC.h rfl rfl rfl rfl) rfl rfl (by kernel_rfl) (by kernel_rfl) (by kernel_rfl) (fun _ _ _ _ h => h) ?_
        refine xpvalE 18 [] rfl (qv_loadB 0 ShpC.h rfl rfl rfl rfl) rfl rfl (by kernel_rfl) (by kernel_rfl) (by kernel_rfl) (fun _ _ _ _ h => h) ?_
        refine pl_ 19 rfl (pv_sliceLH h220 UndC.h ShpC.h rfl rfl rfl) ?_
        refine xpstep (i := 20) (by kernel_rfl) rfl ?_
        refine wcall0 (bytes_HasPrefix_con (o5.drop (x9.1 : Int).toNat) ((o5.take (y197.2 : Int).toNat).drop (y197.1 : Int).toNat) _ h221) Try.func38 (by kernel_rfl) rfl (.cons rfl (.refl _) (.cons rfl (.refl _) .nil)) rfl rfl ?_
        refine pl_ 21 rfl (pv_not rfl) ?_
        refine pl_ 22 rfl (pv_pick rfl rfl) ?_
        refine xpdone (by kernel_rfl) ?_
        refine xthen ?_
        by_cases hp223 : ¬ (y222 = true)
        ·replace h := h.1 hp223
         refine xcondT' (not_t (b_f hp223)) rfl ?_
         refine xretc ?_
         refine xthen_ret ?_
         refine xin_ret ?_
         refine xthen_ret ?_
         replace h := h.symm
         subst h
         exact xret0 (bx' := [rbx ia2 79 22 (List.map E_palinode_match_way l1), ⟨bx0, 74, ([.sl 10 none (List.map E_palinode_api_Node o3), .v (.int .i64 o4), .sl 1 none (List.map eb o5), .rb ia2 l1.length, .v (.bool o6)] ++ ((List.map E_palinode_api_Span o7.l).flatten ++ [.v (.int .i64 o8)]))⟩]) (tk' := []) hg rfl (by refine SubM.trans (SubM.mvB 3 rfl) ?_; refine SubM.trans (SubM.mvB 4 rfl) ?_; (simp only [List.eraseIdx]); exact sm_) ⟨ia2, rfl, rfl, rfl⟩ (by simp)
        ·replace h := h.2 hp223
         refine xcondF' (not_f (Decidable.of_not_not hp223)) rfl ?_
         refine xskipc ?_
         refine xthen ?_
         refine xregion ?_
         refine vp_ (qv_fieldAddrB FldC.h rfl) ?_
         refine v_ (qv_loadB 2 ShpC.h rfl rfl rfl rfl) ?_
         refine vp_ (qv_fieldAddrB FldC.h rfl) ?_
         refine v_ (qv_loadB 0 ShpC.h rfl rfl rfl rfl) ?_
         refine vp_ (qv_fieldAddrB FldC.h rfl) ?_
         refine v_ (qv_loadB 0 ShpC.h rfl rfl rfl rfl) ?_
         obtain ⟨h224, h⟩ := h
         refine vp_ (pv_subI h224 rfl rfl) ?_
         obtain ⟨h225, h⟩ := h
         refine vp_ (pv_addI h225 rfl rfl) ?_
         refine vp_ (qv_fieldAddrB FldC.h rfl) ?_
         refine xstore 2 ShpC.h rfl rfl rfl rfl rfl rfl rfl ?_
         refine xnil ?_
         refine xin_normal ?_
         exact xmeet ⟨(x9.1 + (y197.2 - y197.1)), x9.2.1, x9.2.2, o6, o7, l1, ia2, h, rfl⟩ ⟨lk_, by exact (SubM.of (.drop (.drop (.keep rfl rfl (.refl _) (.keep rfl rfl (by first | exact WkL.refl _ | (exact wl_; done)) (.keep rfl rfl (.refl _) (.nil _)))))) (.nil _))⟩
      ·replace h := h.2 hp195
       refine xcondF' (decide_eq_false hp195) rfl ?_
       refine sr_ ?_
       refine vp_ (pv_bin2 rfl rfl rfl) ?_
       refine as_ ?_
       refine nt_ ?_
       by_cases hp227 : y11.1 = 7
       ·replace h := h.1 hp227
        refine xcondT' (decide_eq_true hp227) rfl ?_
        refine sr_ ?_
        refine vp_ (qv_fieldAddrB FldC.h rfl) ?_
        refine v_ (qv_loadB 1 ShpC.h rfl rfl rfl rfl) ?_
        refine vp_ (pv_bin2 rfl rfl rfl) ?_
        refine nt_ ?_
        by_cases hp229 : ¬ (x9.1 = 0)
        ·replace h := h.1 hp229
         refine xcondT' (not_t (decide_eq_false hp229)) rfl ?_
         refine xretc ?_
         refine xin_ret ?_
         refine xthen_ret ?_
         replace h := h.symm
         subst h
         exact xret0 (bx' := [rbx ia2 79 22 (List.map E_palinode_match_way l1), ⟨bx0, 74, ([.sl 10 none (List.map E_palinode_api_Node o3), .v (.int .i64 o4), .sl 1 none (List.map eb o5), .rb ia2 l1.length, .v (.bool o6)] ++ ((List.map E_palinode_api_Span o7.l).flatten ++ [.v (.int .i64 o8)]))⟩]) (tk' := []) hg rfl (by refine SubM.trans (SubM.mvB 2 rfl) ?_; refine SubM.trans (SubM.mvB 3 rfl) ?_; (simp only [List.eraseIdx]); exact sm_) ⟨ia2, rfl, rfl, rfl⟩ (by simp)
        ·replace h := h.2 hp229
         refine xcondF' (not_f (decide_eq_true (Decidable.of_not_not hp229))) rfl ?_
         refine xskipc ?_
         refine xin_normal ?_
         exact xmeet ⟨x9.1, x9.2.1, x9.2.2, o6, o7, l1, ia2, h, rfl⟩ ⟨lk_, by exact (SubM.of (.drop (.keep rfl rfl (.refl _) (.keep rfl rfl (by first | exact WkL.refl _ | (exact wl_; done)) (.keep rfl rfl (.refl _) (.nil _))))) (.nil _))⟩
       ·replace h := h.2 hp227
        refine xcondF' (decide_eq_false hp227) rfl ?_
        refine sr_ ?_
        refine vp_ (pv_bin2 rfl rfl rfl) ?_
        refine as_ ?_
        refine nt_ ?_
        by_cases hp231 : y11.1 = 8
        ·replace h := h.1 hp231
         refine xcondT' (decide_eq_true hp231) rfl ?_
         refine xseq ?_
         refine xregionD (m := 8) (by kernel_rfl) rfl ?_
         refine pl_ 0 rfl (qv_fieldAddrB FldC.h rfl) ?_
         refine pl_ 2 rfl (pv_move rfl) ?_
         refine pl_ 3 rfl (pv_nilCheck rfl) ?_
         refine pl_ 4 rfl (qv_fieldAddrB FldC.h rfl) ?_
         refine xpvalE 1 [5, 6] rfl (qv_loadB 1 ShpC.h rfl rfl rfl rfl) rfl rfl (by kernel_rfl) (by kernel_rfl) (by kernel_rfl) (fun _ _ _ _ h => h) ?_
         refine xpvalE 5 [] rfl (qv_loadB 2 ShpC.h rfl rfl rfl rfl) rfl rfl (by kernel_rfl) (by kernel_rfl) (by kernel_rfl) (fun _ _ _ _ h => h) ?_
         refine pl_ 6 rfl (pv_lenM UndC.h rfl) ?_
         refine pl_ 7 rfl (pv_bin2 rfl rfl rfl) ?_
         refine xpdone (by kernel_rfl) ?_
         refine xthen ?_
         by_cases hp236 : ¬ (x9.1 = (o5.length : Int))
         ·replace h := h.1 hp236
          refine xcondT' (not_t (decide_eq_false hp236)) rfl ?_
          refine xretc ?_
          refine xin_ret ?_
          refine xthen_ret ?_
          replace h := h.symm
          subst h
          exact xret0 (bx' := [rbx ia2 79 22 (List.map E_palinode_match_way l1), ⟨bx0, 74, ([.sl 10 none (List.map E_palinode_api_Node o3), .v (.int .i64 o4), .sl 1 none (List.map eb o5), .rb ia2 l1.length, .v (.bool o6)] ++ ((List.map E_palinode_api_Span o7.l).flatten ++ [.v (.int .i64 o8)]))⟩]) (tk' := []) hg rfl (by refine SubM.trans (SubM.mvB 2 rfl) ?_; refine SubM.trans (SubM.mvB 3 rfl) ?_; (simp only [List.eraseIdx]); exact sm_) ⟨ia2, rfl, rfl, rfl⟩ (by simp)
         ·replace h := h.2 hp236
          refine xcondF' (not_f (decide_eq_true (Decidable.of_not_not hp236))) rfl ?_
          refine xskipc ?_
          refine xin_normal ?_
          exact xmeet ⟨x9.1, x9.2.1, x9.2.2, o6, o7, l1, ia2, h, rfl⟩ ⟨lk_, by exact (SubM.of (.drop (.keep rfl rfl (.refl _) (.keep rfl rfl (by first | exact WkL.refl _ | (exact wl_; done)) (.keep rfl rfl (.refl _) (.nil _))))) (.nil _))⟩
        ·replace h := h.2 hp231
         refine xcondF' (decide_eq_false hp231) rfl ?_
         refine sr_ ?_
         refine vp_ (pv_bin2 rfl rfl rfl) ?_
         refine as_ ?_
         refine nt_ ?_
         by_cases hp238 : y11.1 = 4
         ·replace h := h.1 hp238
          refine xcondT' (decide_eq_true hp238) rfl ?_
          refine sr_ ?_
          refine mv_ ?_
          refine v_ (qv_loadP 1 [] ([.v (.int .i64 x9.1)] ++ ((List.map E_palinode_api_Span x9.2.1.l).flatten ++ [.pt (List.isEmpty x9.2.2) (PC_palinode_match_cell x9.2.2)])) [] sq_ sl_ sl_ (part_all sl_) ShpC.h rfl rfl) ?_
          refine mv_ ?_
          obtain ⟨y240, h239, h⟩ := h
          refine xcallF (Fb := [⟨b6, 45, ([.v (.int .i64 y11.1), .v (.int .i64 y11.2.1), .v (.int .i64 y11.2.2.1), .v (.int .i64 y11.2.2.2.1), .v (.int .i64 y11.2.2.2.2.1), .v (.int .i64 y11.2.2.2.2.2.1)] ++ (List.map ew y11.2.2.2.2.2.2.l).flatten)⟩, ⟨b4, 79, ([.v (.int .i64 x9.1)] ++ ((List.map E_palinode_api_Span x9.2.1.l).flatten ++ [.pt (List.isEmpty x9.2.2) (PC_palinode_match_cell x9.2.2)]))⟩]) (Ft := []) (match_search_times_con o3 o4 o5 o6 o7 o8 l1 x9 x10 0 bx0 ia2 _ h239) Try.func33 (by kernel_rfl) rfl (.cons rfl (.refl _) (.cons rfl (.refl _) (.cons rfl (.refl _) (.cons rfl (.refl _) .nil)))) (by refine SubM.trans (SubM.mvB 3 rfl) ?_; refine SubM.trans (SubM.mvB 3 rfl) ?_; (simp only [List.eraseIdx]); exact sm_) rfl rfl ?_
          rintro _ _ _ ⟨i241, rfl, rfl, rfl⟩
          simp only [List.nil_append, List.cons_append]
          refine nt_ ?_
          refine xretc ?_
          refine xin_ret ?_
          refine xthen_ret ?_
          replace h := h.symm
          subst h
          exact xret0 (bx' := [rbx i241 79 22 (List.map E_palinode_match_way y240.1), ⟨bx0, 74, ([.sl 10 none (List.map E_palinode_api_Node o3), .v (.int .i64 o4), .sl 1 none (List.map eb o5), .rb i241 y240.1.length, .v (.bool y240.2.1)] ++ ((List.map E_palinode_api_Span y240.2.2.l).flatten ++ [.v (.int .i64 o8)]))⟩]) (tk' := []) hg rfl (SubM.of (.keep rfl rfl (.refl _) (.keep rfl rfl (by first | exact WkL.refl _ | (exact wl_; done)) (.nil _))) (.nil _)) ⟨i241, rfl, rfl, rfl⟩ (by simp)
         ·replace h := h.2 hp238
          refine xcondF' (decide_eq_false hp238) rfl ?_
          refine xskipc ?_
          refine xin_normal ?_
          exact xmeet ⟨x9.1, x9.2.1, x9.2.2, o6, o7, l1, ia2, h, rfl⟩ ⟨lk_, by exact (SubM.of (.drop (.keep rfl rfl (.refl _) (.keep rfl rfl (by first | exact WkL.refl _ | (exact wl_; done)) (.keep rfl rfl (.refl _) (.nil _))))) (.nil _))⟩
 ·clear h
  rintro _ ⟨f124, f125, f126, f127, f128, l129, i130, h, rfl⟩
  refine xregion ?_
  refine mv_ ?_
  refine v_ (qv_loadP 0 [] ([.v (.int .i64 f124)] ++ ((List.map E_palinode_api_Span f125.l).flatten ++ [.pt (List.isEmpty f126) (PC_palinode_match_cell f126)])) [] sq_ sl_ sl_ (part_all sl_) ShpC.h rfl rfl) ?_
  obtain ⟨y243, h242, h⟩ := h
  refine xcallF (Fb := [⟨b4, 79, ([.v (.int .i64 f124)] ++ ((List.map E_palinode_api_Span f125.l).flatten ++ [.pt (List.isEmpty f126) (PC_palinode_match_cell f126)]))⟩]) (Ft := []) (match_search_follow_con o3 o4 o5 f127 f128 o8 l129 (f124, f125, f126) bx0 i130 _ h242) Try.func26 (by kernel_rfl) rfl (.cons rfl (.refl _) (.cons rfl (.refl _) .nil)) (by refine SubM.trans (SubM.mvB 2 rfl) ?_; refine SubM.trans (SubM.mvB 2 rfl) ?_; (simp only [List.eraseIdx]); exact sm_) rfl rfl ?_
  rintro _ _ _ ⟨i244, rfl, rfl, rfl⟩
  simp only [List.nil_append, List.cons_append]
  refine xnil ?_
  replace h := h.symm
  subst h
  exact xret0 (bx' := [rbx i244 79 22 (List.map E_palinode_match_way y243.1), ⟨bx0, 74, ([.sl 10 none (List.map E_palinode_api_Node o3), .v (.int .i64 o4), .sl 1 none (List.map eb o5), .rb i244 y243.1.length, .v (.bool y243.2.1)] ++ ((List.map E_palinode_api_Span y243.2.2.l).flatten ++ [.v (.int .i64 o8)]))⟩]) (tk' := []) hg rfl (SubM.of (.keep rfl rfl (.refl _) (.keep rfl rfl (by first | exact WkL.refl _ | (exact wl_; done)) (.nil _))) (.nil _)) ⟨i244, rfl, rfl, rfl⟩ (by simp)
end Go.Proofs.Ytnjnbegjhklcgaa
