
/- What functions' texts ask for, and the walks that show it (printed by a program). -/
import Derived.Test.YtnjnbegjhklcgaaGKp10
namespace Go.Proofs.Ytnjnbegjhklcgaa
/-- palinoderef11.Reach -/
def palinoderef11_Reach_j1 (x4 : Int × (Arr 10 (Int × Int))) (r : (List (Int × (Arr 10 (Int × Int))))) : Prop :=
 r = [x4]
def palinoderef11_Reach_j2 (x4 : Int × (Arr 10 (Int × Int))) (x1084 : Bool) (r : (List (Int × (Arr 10 (Int × Int))))) : Prop :=
 ((x1084 = true → InR (x4.1 + 1) ∧ r = [((x4.1 + 1), x4.2)]) ∧ (¬ (x1084 = true) → r = ([] : List (Int × (Arr 10 (Int × Int))))))
def palinoderef11_Reach_l4 (y1693 : (List (Int × (Arr 10 (Int × Int))))) (x1524 : Int) (ag3 : ((List (Int × (Arr 10 (Int × Int)))) × Int) → Prop) (ag4 : ((List (Int × (Arr 10 (Int × Int)))) × Int) → Prop) (x1707 : List (Int × (Arr 10 (Int × Int)))) (x1709 : Int) (r : (List (Int × (Arr 10 (Int × Int))))) : Prop :=
 ((x1709 < (y1693.length : Int) → 0 ≤ (x1709 : Int) ∧ ∃ y1728 : Int × (Arr 10 (Int × Int)), y1693[(x1709 : Int).toNat]? = some y1728 ∧ ∃ y1731 : (List (Int × (Arr 10 (Int × Int)))), palinoderef11_with_R x1707 y1728 y1731 ∧ InR (x1709 + 1) ∧ ag4 (y1731, (x1709 + 1))) ∧ (¬ (x1709 < (y1693.length : Int)) → InR (x1524 + 1) ∧ ag3 (x1707, (x1524 + 1))))
def palinoderef11_Reach_l3 (y1097 : (List (Int × (Arr 10 (Int × Int))))) (c_palinoderef11_Reach : ((List (Int × Int × Int × Int × Int × Int × (Arr 4 (UInt64)))) × Int) → (List UInt8) → (Int) → (Int × (Arr 10 (Int × Int))) → ((List (Int × (Arr 10 (Int × Int))))) → Prop) (x1 : (List (Int × Int × Int × Int × Int × Int × (Arr 4 (UInt64)))) × Int) (x2 : List UInt8) (y5 : Int × Int × Int × Int × Int × Int × (Arr 4 (UInt64))) (ag3 : ((List (Int × (Arr 10 (Int × Int)))) × Int) → Prop) (x1522 : List (Int × (Arr 10 (Int × Int)))) (x1524 : Int) (r : (List (Int × (Arr 10 (Int × Int))))) : Prop :=
 ((x1524 < (y1097.length : Int) → 0 ≤ (x1524 : Int) ∧ ∃ y1690 : Int × (Arr 10 (Int × Int)), y1097[(x1524 : Int).toNat]? = some y1690 ∧ ∃ y1693 : (List (Int × (Arr 10 (Int × Int)))), c_palinoderef11_Reach x1 x2 y5.2.2.1 y1690 y1693 ∧ LoopR (fun ag4 s => palinoderef11_Reach_l4 y1693 x1524 ag3 ag4 s.1 s.2 r) (x1522, 0)) ∧ (¬ (x1524 < (y1097.length : Int)) → r = x1522))
def palinoderef11_Reach_l5 (y1741 : (List (Int × (Arr 10 (Int × Int))))) (ag5 : ((List (Int × (Arr 10 (Int × Int)))) × Int) → Prop) (x1794 : List (Int × (Arr 10 (Int × Int)))) (x1796 : Int) (r : (List (Int × (Arr 10 (Int × Int))))) : Prop :=
 ((x1796 < (y1741.length : Int) → 0 ≤ (x1796 : Int) ∧ ∃ y1815 : Int × (Arr 10 (Int × Int)), y1741[(x1796 : Int).toNat]? = some y1815 ∧ ∃ y1818 : (List (Int × (Arr 10 (Int × Int)))), palinoderef11_with_R x1794 y1815 y1818 ∧ InR (x1796 + 1) ∧ ag5 (y1818, (x1796 + 1))) ∧ (¬ (x1796 < (y1741.length : Int)) → r = x1794))
def palinoderef11_Reach_l6 (y5 : Int × Int × Int × Int × Int × Int × (Arr 4 (UInt64))) (x4 : Int × (Arr 10 (Int × Int))) (ag6 : ((List (Int × (Arr 10 (Int × Int)))) × Int × (List (Int × (Arr 10 (Int × Int))))) → Prop) (x2000 : List (Int × (Arr 10 (Int × Int)))) (x2002 : Int) (l2003 : List (Int × (Arr 10 (Int × Int)))) (r : (List (Int × (Arr 10 (Int × Int))))) : Prop :=
 ((x2002 < ((l2003.length : Nat) : Int) → 0 ≤ (x2002 : Int) ∧ ∃ y2074 : Int × (Arr 10 (Int × Int)), l2003[(x2002 : Int).toNat]? = some y2074 ∧ 0 ≤ (x2002 : Int) ∧ ∃ y2076 : Int × (Arr 10 (Int × Int)), l2003[(x2002 : Int).toNat]? = some y2076 ∧ (0 ≤ (y5.2.2.2.2.2.1 : Int) ∧ (y5.2.2.2.2.2.1 : Int) < 10) ∧ ∃ y2079 : Int × Int, y2076.2.l[(y5.2.2.2.2.2.1 : Int).toNat]? = some y2079 ∧ 0 ≤ (x2002 : Int) ∧ ∃ y2080 : Int × (Arr 10 (Int × Int)), ((l2003.set (x2002 : Int).toNat (y2076.1, (Arr.set y2076.2 (y5.2.2.2.2.2.1 : Int).toNat ((x4.1, y2074.1))))))[(x2002 : Int).toNat]? = some y2080 ∧ ∃ y2083 : (List (Int × (Arr 10 (Int × Int)))), palinoderef11_with_R x2000 y2080 y2083 ∧ InR (x2002 + 1) ∧ ag6 (y2083, (x2002 + 1), (l2003.set (x2002 : Int).toNat (y2076.1, (Arr.set y2076.2 (y5.2.2.2.2.2.1 : Int).toNat ((x4.1, y2074.1))))))) ∧ (¬ (x2002 < ((l2003.length : Nat) : Int)) → r = x2000))
def palinoderef11_Reach_B (c_palinoderef11_Reach : ((List (Int × Int × Int × Int × Int × Int × (Arr 4 (UInt64)))) × Int) → (List UInt8) → (Int) → (Int × (Arr 10 (Int × Int))) → ((List (Int × (Arr 10 (Int × Int))))) → Prop) (c_palinoderef11_times : ((List (Int × Int × Int × Int × Int × Int × (Arr 4 (UInt64)))) × Int) → (List UInt8) → (Int × Int × Int × Int × Int × Int × (Arr 4 (UInt64))) → (Int × (Arr 10 (Int × Int))) → ((List (Int × (Arr 10 (Int × Int))))) → Prop) (x1 : (List (Int × Int × Int × Int × Int × Int × (Arr 4 (UInt64)))) × Int) (x2 : List UInt8) (x3 : Int) (x4 : Int × (Arr 10 (Int × Int))) (r : (List (Int × (Arr 10 (Int × Int))))) : Prop :=
 0 ≤ (x3 : Int) ∧ ∃ y5 : Int × Int × Int × Int × Int × Int × (Arr 4 (UInt64)), x1.1[(x3 : Int).toNat]? = some y5 ∧ ((y5.1 = 1 → ((x4.1 < (x2.length : Int) → 0 ≤ (x4.1 : Int) ∧ ∃ y1088 : UInt8, x2[(x4.1 : Int).toNat]? = some y1088 ∧ ∃ y1091 : Bool, palinoderef05_Has_R y5.2.2.2.2.2.2 y1088 y1091 ∧ palinoderef11_Reach_j2 x4 y1091 r) ∧ (¬ (x4.1 < (x2.length : Int)) → palinoderef11_Reach_j2 x4 false r))) ∧ (¬ (y5.1 = 1) → ((y5.1 = 2 → ∃ y1097 : (List (Int × (Arr 10 (Int × Int)))), c_palinoderef11_Reach x1 x2 y5.2.1 x4 y1097 ∧ LoopR (fun ag3 s => palinoderef11_Reach_l3 y1097 c_palinoderef11_Reach x1 x2 y5 ag3 s.1 s.2 r) (([] : List (Int × (Arr 10 (Int × Int)))), 0)) ∧ (¬ (y5.1 = 2) → ((y5.1 = 3 → ∃ y1738 : (List (Int × (Arr 10 (Int × Int)))), c_palinoderef11_Reach x1 x2 y5.2.1 x4 y1738 ∧ ∃ y1741 : (List (Int × (Arr 10 (Int × Int)))), c_palinoderef11_Reach x1 x2 y5.2.2.1 x4 y1741 ∧ LoopR (fun ag5 s => palinoderef11_Reach_l5 y1741 ag5 s.1 s.2 r) (y1738, 0)) ∧ (¬ (y5.1 = 3) → ((y5.1 = 4 → ∃ y1824 : (List (Int × (Arr 10 (Int × Int)))), c_palinoderef11_times x1 x2 y5 x4 y1824 ∧ r = y1824) ∧ (¬ (y5.1 = 4) → ((y5.1 = 5 → ∃ y1829 : (List (Int × (Arr 10 (Int × Int)))), c_palinoderef11_Reach x1 x2 y5.2.1 x4 y1829 ∧ LoopR (fun ag6 s => palinoderef11_Reach_l6 y5 x4 ag6 s.1 s.2.1 s.2.2 r) (([] : List (Int × (Arr 10 (Int × Int)))), 0, y1829)) ∧ (¬ (y5.1 = 5) → ((y5.1 = 6 → (0 ≤ (y5.2.2.2.2.2.1 : Int) ∧ (y5.2.2.2.2.2.1 : Int) < 10) ∧ ∃ y2093 : Int × Int, x4.2.l[(y5.2.2.2.2.2.1 : Int).toNat]? = some y2093 ∧ ∃ y2095 : Int, palinoderef11_Same_R x2 y2093 x4.1 y2095 ∧ ((y2095 < 0 → r = ([] : List (Int × (Arr 10 (Int × Int))))) ∧ (¬ (y2095 < 0) → r = [(y2095, x4.2)]))) ∧ (¬ (y5.1 = 6) → ((y5.1 = 7 → ((¬ (x4.1 = 0) → r = ([] : List (Int × (Arr 10 (Int × Int))))) ∧ (¬ (¬ (x4.1 = 0)) → palinoderef11_Reach_j1 x4 r))) ∧ (¬ (y5.1 = 7) → ((y5.1 = 8 → ((¬ (x4.1 = (x2.length : Int)) → r = ([] : List (Int × (Arr 10 (Int × Int))))) ∧ (¬ (¬ (x4.1 = (x2.length : Int))) → palinoderef11_Reach_j1 x4 r))) ∧ (¬ (y5.1 = 8) → palinoderef11_Reach_j1 x4 r))))))))))))))))
def palinoderef11_times_j7 (x29364 : Int) (ag6 : ((List (Int × (Arr 10 (Int × Int)))) × (List (Int × (Arr 10 (Int × Int)))) × Int) → Prop) (x29451 : List (Int × (Arr 10 (Int × Int)))) (x29453 : List (Int × (Arr 10 (Int × Int)))) (r : (List (Int × (Arr 10 (Int × Int))))) : Prop :=
 InR (x29364 + 1) ∧ ag6 (x29451, x29453, (x29364 + 1))
def palinoderef11_times_l6 (y29301 : (List (Int × (Arr 10 (Int × Int))))) (x28721 : Int) (x19656 : List (Int × (Arr 10 (Int × Int)))) (x19658 : Int) (x3 : Int × Int × Int × Int × Int × Int × (Arr 4 (UInt64))) (ag5 : ((List (Int × (Arr 10 (Int × Int)))) × (List (Int × (Arr 10 (Int × Int)))) × Int) → Prop) (ag6 : ((List (Int × (Arr 10 (Int × Int)))) × (List (Int × (Arr 10 (Int × Int)))) × Int) → Prop) (x29360 : List (Int × (Arr 10 (Int × Int)))) (x29362 : List (Int × (Arr 10 (Int × Int)))) (x29364 : Int) (r : (List (Int × (Arr 10 (Int × Int))))) : Prop :=
 ((x29364 < (y29301.length : Int) → 0 ≤ (x29364 : Int) ∧ ∃ y29460 : Int × (Arr 10 (Int × Int)), y29301[(x29364 : Int).toNat]? = some y29460 ∧ 0 ≤ (x28721 : Int) ∧ ∃ y29462 : Int × (Arr 10 (Int × Int)), x19656[(x28721 : Int).toNat]? = some y29462 ∧ ((¬ (y29460.1 = y29462.1) → 0 ≤ (x29364 : Int) ∧ ∃ y29466 : Int × (Arr 10 (Int × Int)), y29301[(x29364 : Int).toNat]? = some y29466 ∧ ∃ y29469 : (List (Int × (Arr 10 (Int × Int)))), palinoderef11_with_R x29362 y29466 y29469 ∧ palinoderef11_times_j7 x29364 ag6 x29360 y29469 r) ∧ (¬ (¬ (y29460.1 = y29462.1)) → ((x19658 < x3.2.2.2.1 → 0 ≤ (x29364 : Int) ∧ ∃ y29473 : Int × (Arr 10 (Int × Int)), y29301[(x29364 : Int).toNat]? = some y29473 ∧ ∃ y29476 : (List (Int × (Arr 10 (Int × Int)))), palinoderef11_with_R x29360 y29473 y29476 ∧ palinoderef11_times_j7 x29364 ag6 y29476 x29362 r) ∧ (¬ (x19658 < x3.2.2.2.1) → palinoderef11_times_j7 x29364 ag6 x29360 x29362 r))))) ∧ (¬ (x29364 < (y29301.length : Int)) → InR (x28721 + 1) ∧ ag5 (x29360, x29362, (x28721 + 1))))
def palinoderef11_times_l5 (x19656 : List (Int × (Arr 10 (Int × Int)))) (c_palinoderef11_Reach : ((List (Int × Int × Int × Int × Int × Int × (Arr 4 (UInt64)))) × Int) → (List UInt8) → (Int) → (Int × (Arr 10 (Int × Int))) → ((List (Int × (Arr 10 (Int × Int))))) → Prop) (x1 : (List (Int × Int × Int × Int × Int × Int × (Arr 4 (UInt64)))) × Int) (x2 : List UInt8) (x3 : Int × Int × Int × Int × Int × Int × (Arr 4 (UInt64))) (x19658 : Int) (ag1 : ((List (Int × (Arr 10 (Int × Int)))) × (List (Int × (Arr 10 (Int × Int)))) × Int) → Prop) (ag5 : ((List (Int × (Arr 10 (Int × Int)))) × (List (Int × (Arr 10 (Int × Int)))) × Int) → Prop) (x28717 : List (Int × (Arr 10 (Int × Int)))) (x28719 : List (Int × (Arr 10 (Int × Int)))) (x28721 : Int) (r : (List (Int × (Arr 10 (Int × Int))))) : Prop :=
 ((x28721 < (x19656.length : Int) → 0 ≤ (x28721 : Int) ∧ ∃ y29298 : Int × (Arr 10 (Int × Int)), x19656[(x28721 : Int).toNat]? = some y29298 ∧ ∃ y29301 : (List (Int × (Arr 10 (Int × Int)))), c_palinoderef11_Reach x1 x2 x3.2.1 y29298 y29301 ∧ LoopR (fun ag6 s => palinoderef11_times_l6 y29301 x28721 x19656 x19658 x3 ag5 ag6 s.1 s.2.1 s.2.2 r) (x28717, x28719, 0)) ∧ (¬ (x28721 < (x19656.length : Int)) → InR (x19658 + 1) ∧ ag1 (x28717, x28719, (x19658 + 1))))
def palinoderef11_times_j4 (x27103 : List (Int × (Arr 10 (Int × Int)))) (x19656 : List (Int × (Arr 10 (Int × Int)))) (c_palinoderef11_Reach : ((List (Int × Int × Int × Int × Int × Int × (Arr 4 (UInt64)))) × Int) → (List UInt8) → (Int) → (Int × (Arr 10 (Int × Int))) → ((List (Int × (Arr 10 (Int × Int))))) → Prop) (x1 : (List (Int × Int × Int × Int × Int × Int × (Arr 4 (UInt64)))) × Int) (x2 : List UInt8) (x3 : Int × Int × Int × Int × Int × Int × (Arr 4 (UInt64))) (x19658 : Int) (ag1 : ((List (Int × (Arr 10 (Int × Int)))) × (List (Int × (Arr 10 (Int × Int)))) × Int) → Prop) (x27191 : Bool) (r : (List (Int × (Arr 10 (Int × Int))))) : Prop :=
 ((x27191 = true → r = x27103) ∧ (¬ (x27191 = true) → LoopR (fun ag5 s => palinoderef11_times_l5 x19656 c_palinoderef11_Reach x1 x2 x3 x19658 ag1 ag5 s.1 s.2.1 s.2.2 r) (x27103, ([] : List (Int × (Arr 10 (Int × Int)))), 0)))
def palinoderef11_times_j2 (x19656 : List (Int × (Arr 10 (Int × Int)))) (c_palinoderef11_Reach : ((List (Int × Int × Int × Int × Int × Int × (Arr 4 (UInt64)))) × Int) → (List UInt8) → (Int) → (Int × (Arr 10 (Int × Int))) → ((List (Int × (Arr 10 (Int × Int))))) → Prop) (x1 : (List (Int × Int × Int × Int × Int × Int × (Arr 4 (UInt64)))) × Int) (x2 : List UInt8) (x3 : Int × Int × Int × Int × Int × Int × (Arr 4 (UInt64))) (x19658 : Int) (ag1 : ((List (Int × (Arr 10 (Int × Int)))) × (List (Int × (Arr 10 (Int × Int)))) × Int) → Prop) (x27103 : List (Int × (Arr 10 (Int × Int)))) (r : (List (Int × (Arr 10 (Int × Int))))) : Prop :=
 palinoderef11_times_j4 x27103 x19656 c_palinoderef11_Reach x1 x2 x3 x19658 ag1 ((decide (0 ≤ x3.2.2.2.2.1)) && (decide (x3.2.2.2.2.1 ≤ x19658))) r
def palinoderef11_times_l3 (x19656 : List (Int × (Arr 10 (Int × Int)))) (x3 : Int × Int × Int × Int × Int × Int × (Arr 4 (UInt64))) (x19658 : Int) (c_palinoderef11_Reach : ((List (Int × Int × Int × Int × Int × Int × (Arr 4 (UInt64)))) × Int) → (List UInt8) → (Int) → (Int × (Arr 10 (Int × Int))) → ((List (Int × (Arr 10 (Int × Int))))) → Prop) (x1 : (List (Int × Int × Int × Int × Int × Int × (Arr 4 (UInt64)))) × Int) (x2 : List UInt8) (ag1 : ((List (Int × (Arr 10 (Int × Int)))) × (List (Int × (Arr 10 (Int × Int)))) × Int) → Prop) (ag3 : ((List (Int × (Arr 10 (Int × Int)))) × Int) → Prop) (x27129 : List (Int × (Arr 10 (Int × Int)))) (x27131 : Int) (r : (List (Int × (Arr 10 (Int × Int))))) : Prop :=
 ((x27131 < (x19656.length : Int) → ((x3.2.2.2.1 ≤ x19658 → 0 ≤ (x27131 : Int) ∧ ∃ y27174 : Int × (Arr 10 (Int × Int)), x19656[(x27131 : Int).toNat]? = some y27174 ∧ ∃ y27177 : (List (Int × (Arr 10 (Int × Int)))), palinoderef11_with_R x27129 y27174 y27177 ∧ InR (x27131 + 1) ∧ ag3 (y27177, (x27131 + 1))) ∧ (¬ (x3.2.2.2.1 ≤ x19658) → palinoderef11_times_j2 x19656 c_palinoderef11_Reach x1 x2 x3 x19658 ag1 x27129 r))) ∧ (¬ (x27131 < (x19656.length : Int)) → palinoderef11_times_j2 x19656 c_palinoderef11_Reach x1 x2 x3 x19658 ag1 x27129 r))
def palinoderef11_times_l1 (x3 : Int × Int × Int × Int × Int × Int × (Arr 4 (UInt64))) (c_palinoderef11_Reach : ((List (Int × Int × Int × Int × Int × Int × (Arr 4 (UInt64)))) × Int) → (List UInt8) → (Int) → (Int × (Arr 10 (Int × Int))) → ((List (Int × (Arr 10 (Int × Int))))) → Prop) (x1 : (List (Int × Int × Int × Int × Int × Int × (Arr 4 (UInt64)))) × Int) (x2 : List UInt8) (ag1 : ((List (Int × (Arr 10 (Int × Int)))) × (List (Int × (Arr 10 (Int × Int)))) × Int) → Prop) (x19654 : List (Int × (Arr 10 (Int × Int)))) (x19656 : List (Int × (Arr 10 (Int × Int)))) (x19658 : Int) (r : (List (Int × (Arr 10 (Int × Int))))) : Prop :=
 ((0 < (x19656.length : Int) → LoopR (fun ag3 s => palinoderef11_times_l3 x19656 x3 x19658 c_palinoderef11_Reach x1 x2 ag1 ag3 s.1 s.2 r) (x19654, 0)) ∧ (¬ (0 < (x19656.length : Int)) → r = x19654))
def palinoderef11_times_B (c_palinoderef11_Reach : ((List (Int × Int × Int × Int × Int × Int × (Arr 4 (UInt64)))) × Int) → (List UInt8) → (Int) → (Int × (Arr 10 (Int × Int))) → ((List (Int × (Arr 10 (Int × Int))))) → Prop) (c_palinoderef11_times : ((List (Int × Int × Int × Int × Int × Int × (Arr 4 (UInt64)))) × Int) → (List UInt8) → (Int × Int × Int × Int × Int × Int × (Arr 4 (UInt64))) → (Int × (Arr 10 (Int × Int))) → ((List (Int × (Arr 10 (Int × Int))))) → Prop) (x1 : (List (Int × Int × Int × Int × Int × Int × (Arr 4 (UInt64)))) × Int) (x2 : List UInt8) (x3 : Int × Int × Int × Int × Int × Int × (Arr 4 (UInt64))) (x4 : Int × (Arr 10 (Int × Int))) (r : (List (Int × (Arr 10 (Int × Int))))) : Prop :=
 LoopR (fun ag1 s => palinoderef11_times_l1 x3 c_palinoderef11_Reach x1 x2 ag1 s.1 s.2.1 s.2.2 r) (([] : List (Int × (Arr 10 (Int × Int)))), [x4], 0)
def rec_palinoderef11_Reach_H (S1 : Nat → ((List (Int × Int × Int × Int × Int × Int × (Arr 4 (UInt64)))) × Int) → (List UInt8) → (Int) → (Int × (Arr 10 (Int × Int))) → ((List (Int × (Arr 10 (Int × Int))))) → Prop) (S2 : Nat → ((List (Int × Int × Int × Int × Int × Int × (Arr 4 (UInt64)))) × Int) → (List UInt8) → (Int × Int × Int × Int × Int × Int × (Arr 4 (UInt64))) → (Int × (Arr 10 (Int × Int))) → ((List (Int × (Arr 10 (Int × Int))))) → Prop) : Prop :=
 (∀ (m : Nat) (x1 : (List (Int × Int × Int × Int × Int × Int × (Arr 4 (UInt64)))) × Int) (x2 : List UInt8) (x3 : Int) (x4 : Int × (Arr 10 (Int × Int))) (r : (List (Int × (Arr 10 (Int × Int))))), S1 m x1 x2 x3 x4 r → palinoderef11_Reach_B (fun a0 a1 a2 a3 r => ∃ m', m' < m ∧ S1 m' a0 a1 a2 a3 r) (fun a0 a1 a2 a3 r => ∃ m', m' < m ∧ S2 m' a0 a1 a2 a3 r) x1 x2 x3 x4 r) ∧ (∀ (m : Nat) (x1 : (List (Int × Int × Int × Int × Int × Int × (Arr 4 (UInt64)))) × Int) (x2 : List UInt8) (x3 : Int × Int × Int × Int × Int × Int × (Arr 4 (UInt64))) (x4 : Int × (Arr 10 (Int × Int))) (r : (List (Int × (Arr 10 (Int × Int))))), S2 m x1 x2 x3 x4 r → palinoderef11_times_B (fun a0 a1 a2 a3 r => ∃ m', m' < m ∧ S1 m' a0 a1 a2 a3 r) (fun a0 a1 a2 a3 r => ∃ m', m' < m ∧ S2 m' a0 a1 a2 a3 r) x1 x2 x3 x4 r)
def palinoderef11_Reach_R (x1 : (List (Int × Int × Int × Int × Int × Int × (Arr 4 (UInt64)))) × Int) (x2 : List UInt8) (x3 : Int) (x4 : Int × (Arr 10 (Int × Int))) (r : (List (Int × (Arr 10 (Int × Int))))) : Prop := ∃ (S1 : Nat → ((List (Int × Int × Int × Int × Int × Int × (Arr 4 (UInt64)))) × Int) → (List UInt8) → (Int) → (Int × (Arr 10 (Int × Int))) → ((List (Int × (Arr 10 (Int × Int))))) → Prop) (S2 : Nat → ((List (Int × Int × Int × Int × Int × Int × (Arr 4 (UInt64)))) × Int) → (List UInt8) → (Int × Int × Int × Int × Int × Int × (Arr 4 (UInt64))) → (Int × (Arr 10 (Int × Int))) → ((List (Int × (Arr 10 (Int × Int))))) → Prop), rec_palinoderef11_Reach_H S1 S2 ∧ ∃ m : Nat, S1 m x1 x2 x3 x4 r
set_option maxHeartbeats 4000000 in
theorem rec_palinoderef11_Reach_con {S1 : Nat → ((List (Int × Int × Int × Int × Int × Int × (Arr 4 (UInt64)))) × Int) → (List UInt8) → (Int) → (Int × (Arr 10 (Int × Int))) → ((List (Int × (Arr 10 (Int × Int))))) → Prop} {S2 : Nat → ((List (Int × Int × Int × Int × Int × Int × (Arr 4 (UInt64)))) × Int) → (List UInt8) → (Int × Int × Int × Int × Int × Int × (Arr 4 (UInt64))) → (Int × (Arr 10 (Int × Int))) → ((List (Int × (Arr 10 (Int × Int))))) → Prop} (H : rec_palinoderef11_Reach_H S1 S2) : ∀ m : Nat, (∀ (x1 : (List (Int × Int × Int × Int × Int × Int × (Arr 4 (UInt64)))) × Int) (x2 : List UInt8) (x3 : Int) (x4 : Int × (Arr 10 (Int × Int))) (r : (List (Int × (Arr 10 (Int × Int))))), S1 m x1 x2 x3 x4 r → Con Try.prog 11 [.agg [.sl 10 none (List.map E_palinode_api_Node x1.1), .v (.int .i64 x1.2)], .sl 1 none (List.map eb x2), .v (.int .i64 x3), .agg ([.v (.int .i64 x4.1)] ++ (List.map E_palinode_api_Span x4.2.l).flatten)] [] [] (RetM 21 58 E_palinode_palinoderef11_Point r)) ∧ (∀ (x1 : (List (Int × Int × Int × Int × Int × Int × (Arr 4 (UInt64)))) × Int) (x2 : List UInt8) (x3 : Int × Int × Int × Int × Int × Int × (Arr 4 (UInt64))) (x4 : Int × (Arr 10 (Int × Int))) (r : (List (Int × (Arr 10 (Int × Int))))), S2 m x1 x2 x3 x4 r → Con Try.prog 18 [.agg [.sl 10 none (List.map E_palinode_api_Node x1.1), .v (.int .i64 x1.2)], .sl 1 none (List.map eb x2), .agg ([.v (.int .i64 x3.1), .v (.int .i64 x3.2.1), .v (.int .i64 x3.2.2.1), .v (.int .i64 x3.2.2.2.1), .v (.int .i64 x3.2.2.2.2.1), .v (.int .i64 x3.2.2.2.2.2.1)] ++ (List.map ew x3.2.2.2.2.2.2.l).flatten), .agg ([.v (.int .i64 x4.1)] ++ (List.map E_palinode_api_Span x4.2.l).flatten)] [] [] (RetM 21 58 E_palinode_palinoderef11_Point r)) := by
 intro m
 induction m using Nat.strongRecOn with
 | _ m ih =>
  refine ⟨?_, ?_⟩
  ·intro x1 x2 x3 x4 r h
   obtain ⟨c_palinoderef11_Reach, c_palinoderef11_times, hc_palinoderef11_Reach, hc_palinoderef11_times, h⟩ : ∃ (c_palinoderef11_Reach : ((List (Int × Int × Int × Int × Int × Int × (Arr 4 (UInt64)))) × Int) → (List UInt8) → (Int) → (Int × (Arr 10 (Int × Int))) → ((List (Int × (Arr 10 (Int × Int))))) → Prop) (c_palinoderef11_times : ((List (Int × Int × Int × Int × Int × Int × (Arr 4 (UInt64)))) × Int) → (List UInt8) → (Int × Int × Int × Int × Int × Int × (Arr 4 (UInt64))) → (Int × (Arr 10 (Int × Int))) → ((List (Int × (Arr 10 (Int × Int))))) → Prop), (∀ a0 a1 a2 a3 r, c_palinoderef11_Reach a0 a1 a2 a3 r → ∃ m', m' < m ∧ S1 m' a0 a1 a2 a3 r) ∧ (∀ a0 a1 a2 a3 r, c_palinoderef11_times a0 a1 a2 a3 r → ∃ m', m' < m ∧ S2 m' a0 a1 a2 a3 r) ∧ palinoderef11_Reach_B c_palinoderef11_Reach c_palinoderef11_times x1 x2 x3 x4 r := ⟨_, _, fun _ _ _ _ _ h => h, fun _ _ _ _ _ h => h, H.1 m x1 x2 x3 x4 r h⟩
   refine xenter Try.func11 rfl rfl fun g hg => ?_
   simp only [Try.ntmps11, slots]
   refine sr_ ?_
   refine xbox rfl rfl rfl rfl fun b4 => ?_
   refine xbox rfl rfl rfl rfl fun b7 => ?_
   refine as_ ?_
   refine nt_ ?_
   refine sr_ ?_
   refine vp_ (qv_fieldAddrB FldC.h rfl) ?_
   refine v_ (qv_loadB 1 ShpC.h rfl rfl rfl rfl) ?_
   refine mv_ ?_
   obtain ⟨h6a, h⟩ := h
   obtain ⟨y5, h6b, h⟩ := h
   refine vp_ (pv_indexAddrM h6a h6b UndC.h ShpC.h rfl rfl) ?_
   refine v_ (qv_loadEP ([.v (.int .i64 y5.1), .v (.int .i64 y5.2.1), .v (.int .i64 y5.2.2.1), .v (.int .i64 y5.2.2.2.1), .v (.int .i64 y5.2.2.2.2.1), .v (.int .i64 y5.2.2.2.2.2.1)] ++ (List.map ew y5.2.2.2.2.2.2.l).flatten) [] sq_ sl_ (part_all sl_) ShpC.h rfl) ?_
   refine xalloc InfC.h rfl rfl fun b9 => ?_
   refine xreb 0 ([.v (.int .i64 0), .v (.int .i64 0), .v (.int .i64 0), .v (.int .i64 0), .v (.int .i64 0), .v (.int .i64 0)] ++ (List.map ew ((Arr.rep 4 (0 : UInt64))).l).flatten) rfl rfl ?_
   refine xstoreQ 0 [] ([.v (.int .i64 0), .v (.int .i64 0), .v (.int .i64 0), .v (.int .i64 0), .v (.int .i64 0), .v (.int .i64 0)] ++ (List.map ew ((Arr.rep 4 (0 : UInt64))).l).flatten) [] ([.v (.int .i64 y5.1), .v (.int .i64 y5.2.1), .v (.int .i64 y5.2.2.1), .v (.int .i64 y5.2.2.2.1), .v (.int .i64 y5.2.2.2.2.1), .v (.int .i64 y5.2.2.2.2.2.1)] ++ (List.map ew y5.2.2.2.2.2.2.l).flatten) ShpC.h rfl rfl rfl rfl rfl ?_
   refine nt_ ?_
   refine sr_ ?_
   refine as_ ?_
   refine nt_ ?_
   refine xseqM (fun σ => palinoderef11_Reach_j1 x4 r ∧ σ = ⟨[(7, .v (.pointer (some ⟨b7, 0, none⟩)))], [⟨b7, 58, ([.v (.int .i64 x4.1)] ++ (List.map E_palinode_api_Span x4.2.l).flatten)⟩], []⟩) ?_ ?_
   ·refine xseq ?_
    refine xregion ?_
    refine vp_ (qv_fieldAddrB FldC.h rfl) ?_
    refine v_ (qv_loadB 0 ShpC.h rfl rfl rfl rfl) ?_
    refine nt_ ?_
    refine xblock ?_
    refine sr_ ?_
    refine vp_ (pv_bin2 rfl rfl rfl) ?_
    refine as_ ?_
    refine nt_ ?_
    by_cases hp1059 : y5.1 = 1
    ·replace h := h.1 hp1059
     refine xcondT' (decide_eq_true hp1059) rfl ?_
     refine xseq ?_
     refine xseqM (fun σ => ∃ (x1084 : Bool), palinoderef11_Reach_j2 x4 x1084 r ∧ σ = ⟨[(7, .v (.pointer (some ⟨b7, 0, none⟩))), (43, .v (.bool x1084))], [⟨b7, 58, ([.v (.int .i64 x4.1)] ++ (List.map E_palinode_api_Span x4.2.l).flatten)⟩], []⟩) ?_ ?_
     ·refine xregionD (m := 15) (by kernel_rfl) rfl ?_
      refine pl_ 0 rfl (qv_fieldAddrB FldC.h rfl) ?_
      refine pl_ 2 rfl (pv_move rfl) ?_
      refine pl_ 3 rfl (pv_lenM UndC.h rfl) ?_
      refine xpvalE 1 [] rfl (qv_loadB 1 ShpC.h rfl rfl rfl rfl) rfl rfl (by kernel_rfl) (by kernel_rfl) (by kernel_rfl) (fun _ _ _ _ h => h) ?_
      refine pl_ 4 rfl (pv_bin2 rfl rfl rfl) ?_
      refine pl_ 5 rfl (pv_move rfl) ?_
      by_cases hp1087 : x4.1 < (x2.length : Int)
      ·replace h := h.1 hp1087
       refine psetB 34 (decide_eq_true hp1087) rfl ?_
       obtain ⟨h1089a, h⟩ := h
       obtain ⟨y1088, h1089b, h⟩ := h
       obtain ⟨y1091, h1090, h⟩ := h
       refine pl_ 6 rfl (qv_fieldAddrB FldC.h rfl) ?_
       refine pl_ 8 rfl (pv_move rfl) ?_
       refine pl_ 9 rfl (qv_fieldAddrB FldC.h rfl) ?_
       refine xpvalE 7 [10, 11, 12] rfl (qv_loadP 0 [.v (.int .i64 y5.1), .v (.int .i64 y5.2.1), .v (.int .i64 y5.2.2.1), .v (.int .i64 y5.2.2.2.1), .v (.int .i64 y5.2.2.2.2.1), .v (.int .i64 y5.2.2.2.2.2.1)] ((List.map ew y5.2.2.2.2.2.2.l).flatten) [] sq_ sl_ sl_ (part_all (seg_lenE (by rfl))) ShpC.h rfl rfl) rfl rfl (by kernel_rfl) (by kernel_rfl) (by kernel_rfl) (fun _ _ _ _ h => h) ?_
       refine xpvalE 10 [] rfl (qv_loadB 1 ShpC.h rfl rfl rfl rfl) rfl rfl (by kernel_rfl) (by kernel_rfl) (by kernel_rfl) (fun _ _ _ _ h => h) ?_
       refine pl_ 11 rfl (pv_indexAddrM h1089a h1089b UndC.h ShpC.h rfl rfl) ?_
       refine xpvalE 12 [] rfl (qv_load ShpC.h rfl rfl rfl) rfl rfl (by kernel_rfl) (by kernel_rfl) (by kernel_rfl) (fun _ _ _ _ h => h) ?_
       refine xpstep (i := 13) (by kernel_rfl) rfl ?_
       refine wcall0 (palinoderef05_Has_con y5.2.2.2.2.2.2 y1088 _ h1090) Try.func16 (by kernel_rfl) rfl (.cons rfl (.refl _) (.cons rfl (.refl _) .nil)) rfl rfl ?_
       refine pl_ 14 rfl (pv_pick rfl rfl) ?_
       refine xpdone (by kernel_rfl) ?_
       exact xmeet ⟨y1091, h, rfl⟩ ⟨lk_, (SubM.of (.drop (.keep rfl rfl (.refl _) (.nil _))) (.nil _))⟩
      ·replace h := h.2 hp1087
       refine psetB 34 (decide_eq_false hp1087) rfl ?_
       refine xpskip 6 rfl rfl rfl (by kernel_rfl) (by kernel_rfl) (by kernel_rfl) (fun _ _ _ _ h => h) ?_
       refine xpskip 7 rfl rfl rfl (by kernel_rfl) (by kernel_rfl) (by kernel_rfl) (fun _ _ _ _ h => h) ?_
       refine xpskip 8 rfl rfl rfl (by kernel_rfl) (by kernel_rfl) (by kernel_rfl) (fun _ _ _ _ h => h) ?_
       refine xpskip 9 rfl rfl rfl (by kernel_rfl) (by kernel_rfl) (by kernel_rfl) (fun _ _ _ _ h => h) ?_
       refine xpskip 10 rfl rfl rfl (by kernel_rfl) (by kernel_rfl) (by kernel_rfl) (fun _ _ _ _ h => h) ?_
       refine xpskip 11 rfl rfl rfl (by kernel_rfl) (by kernel_rfl) (by kernel_rfl) (fun _ _ _ _ h => h) ?_
       refine xpskip 12 rfl rfl rfl (by kernel_rfl) (by kernel_rfl) (by kernel_rfl) (fun _ _ _ _ h => h) ?_
       refine xpskip 13 rfl rfl rfl (by kernel_rfl) (by kernel_rfl) (by kernel_rfl) (fun _ _ _ _ h => h) ?_
       refine pl_ 14 rfl (pv_pick rfl rfl) ?_
       refine xpdone (by kernel_rfl) ?_
       exact xmeet ⟨false, h, rfl⟩ ⟨lk_, (SubM.of (.drop (.keep rfl rfl (.refl _) (.nil _))) (.nil _))⟩
     ·clear h
      rintro _ ⟨x1084, h, rfl⟩
      by_cases hp1092 : x1084 = true
      ·replace h := h.1 hp1092
       refine xcondT' hp1092 rfl ?_
       refine sr_ ?_
       refine vp_ (qv_fieldAddrB FldC.h rfl) ?_
       refine v_ (qv_loadB 0 ShpC.h rfl rfl rfl rfl) ?_
       obtain ⟨h1093, h⟩ := h
       refine vp_ (pv_addI h1093 rfl rfl) ?_
       refine vp_ (qv_fieldAddrB FldC.h rfl) ?_
       refine xstore 0 ShpC.h rfl rfl rfl rfl rfl rfl rfl ?_
       refine nt_ ?_
       refine sr_ ?_
       refine v_ (qv_loadP 0 [] ([.v (.int .i64 ((x4.1 + 1)))] ++ (List.map E_palinode_api_Span x4.2.l).flatten) [] sq_ sl_ sl_ (part_all sl_) ShpC.h rfl rfl) ?_
       refine xbuildSliceME (f := E_palinode_palinoderef11_Point) [((x4.1 + 1), x4.2)] UndC.h InfC.h rfl (.cons rfl (beq_of sl_) rfl rfl .nil) wr_ rfl rfl rfl rfl fun s49 => ?_
       refine as_ ?_
       refine nt_ ?_
       refine xretc ?_
       refine xthen_ret ?_
       refine xin_ret ?_
       refine xthen_ret ?_
       replace h := h.symm
       subst h
       exact xret1 hg rfl rfl (.refl _) (SubM.of (.nil _) (.keep rfl (.nil _))) ⟨(some (s49, 1)), rfl, rfl, rfl⟩
      ·replace h := h.2 hp1092
       refine xcondF' (b_f hp1092) rfl ?_
       refine xskipc ?_
       refine xthen ?_
       refine sr_ ?_
       refine as_ ?_
       refine nt_ ?_
       refine xretc ?_
       refine xin_ret ?_
       refine xthen_ret ?_
       replace h := h.symm
       subst h
       exact xret1 hg rfl rfl (.nil_own _) sm_ ⟨none, rfl, rfl, rfl⟩
    ·replace h := h.2 hp1059
     refine xcondF' (decide_eq_false hp1059) rfl ?_
     refine sr_ ?_
     refine vp_ (pv_bin2 rfl rfl rfl) ?_
     refine as_ ?_
     refine nt_ ?_
     by_cases hp1095 : y5.1 = 2
     ·replace h := h.1 hp1095
      refine xcondT' (decide_eq_true hp1095) rfl ?_
      refine sr_ ?_
      refine v_ (qv_loadB 2 ShpC.h rfl rfl rfl rfl) ?_
      refine mv_ ?_
      refine vp_ (qv_fieldAddrB FldC.h rfl) ?_
      refine v_ (qv_loadB 0 ShpC.h rfl rfl rfl rfl) ?_
      refine v_ (qv_loadP 1 [] ([.v (.int .i64 x4.1)] ++ (List.map E_palinode_api_Span x4.2.l).flatten) [] sq_ sl_ sl_ (part_all sl_) ShpC.h rfl rfl) ?_
      obtain ⟨y1097, h1096, h⟩ := h
      obtain ⟨m1096, hm1096, h1096⟩ := hc_palinoderef11_Reach _ _ _ _ _ h1096
      refine xcallM ((ih m1096 hm1096).1 x1 x2 y5.2.1 x4 _ h1096) Try.func11 (by kernel_rfl) rfl (.cons rfl (.refl _) (.cons rfl (.refl _) (.cons rfl (.refl _) (.cons rfl (.refl _) .nil)))) rfl rfl fun i1098 => ?_
      refine as_ ?_
      refine nt_ ?_
      refine xseq ?_
      refine sr_ ?_
      refine as_ ?_
      refine nt_ ?_
      refine xblock ?_
      obtain ⟨Inv, ⟨m0, hI⟩, hS⟩ := h
      refine xloop (fun σ m => ∃ (x1522 : List (Int × (Arr 10 (Int × Int)))), ∃ (x1524 : Int), ∃ (i1523 : Option (Nat × Nat)), Inv (x1522, x1524) m ∧ σ = ⟨[(1, .sl 1 none (List.map eb x2)), (4, .v (.pointer (some ⟨b4, 0, none⟩))), (9, .v (.pointer (some ⟨b9, 0, none⟩))), (10, .sl 21 (some i1523) (List.map E_palinode_palinoderef11_Point x1522)), (11, .sl 21 (some i1098) (List.map E_palinode_palinoderef11_Point y1097)), (12, .v (.int .i64 x1524))], [⟨b9, 45, ([.v (.int .i64 y5.1), .v (.int .i64 y5.2.1), .v (.int .i64 y5.2.2.1), .v (.int .i64 y5.2.2.2.1), .v (.int .i64 y5.2.2.2.2.1), .v (.int .i64 y5.2.2.2.2.2.1)] ++ (List.map ew y5.2.2.2.2.2.2.l).flatten)⟩, ⟨b4, 24, [.sl 10 none (List.map E_palinode_api_Node x1.1), .v (.int .i64 x1.2)]⟩], [⟨i1523, 58, 21, x1522.length⟩, ⟨i1098, 58, 21, y1097.length⟩]⟩) ⟨([] : List (Int × (Arr 10 (Int × Int)))), 0, none, hI, rfl⟩ (by exact ⟨(.cons rfl (.refl _) (.cons rfl (.refl _) (.cons rfl (.refl _) (.cons rfl (.nil_own _) lk_)))), (SubM.of (.keep rfl rfl (.refl _) (.drop (.keep rfl rfl (.refl _) (.nil _)))) (.add (.keep rfl (.nil _))))⟩) ?_
      rintro _ m ⟨x1522, x1524, i1523, hI, rfl⟩
      obtain ⟨ag3, hag3, h⟩ : ∃ ag, (∀ s', ag s' → ∃ m', m' < m ∧ Inv s' m') ∧ palinoderef11_Reach_l3 y1097 c_palinoderef11_Reach x1 x2 y5 ag x1522 x1524 r := ⟨_, fun _ h => h, hS (x1522, x1524) _ hI⟩
      clear hS hI
      refine xseq ?_
      refine sr_ ?_
      refine mv_ ?_
      refine mv_ ?_
      refine vp_ (pv_lenM UndC.h rfl) ?_
      refine vp_ (pv_bin2 rfl rfl rfl) ?_
      refine nt_ ?_
      by_cases hp1635 : x1524 < (y1097.length : Int)
      ·replace h := h.1 hp1635
       refine xcondT' (decide_eq_true hp1635) rfl ?_
       refine xskipc ?_
       refine xthen ?_
       refine xseq ?_
       refine xblock ?_
       refine xseq ?_
       refine xregionD (m := 10) (by kernel_rfl) rfl ?_
       obtain ⟨h1691a, h⟩ := h
       obtain ⟨y1690, h1691b, h⟩ := h
       obtain ⟨y1693, h1692, h⟩ := h
       refine pl_ 1 rfl (pv_move rfl) ?_
       refine pl_ 2 rfl (qv_fieldAddrB FldC.h rfl) ?_
       refine pl_ 4 rfl (pv_move rfl) ?_
       refine pl_ 5 rfl (pv_move rfl) ?_
       refine pl_ 6 rfl (pv_indexAddrM h1691a h1691b UndC.h ShpC.h rfl rfl) ?_
       refine xpvalE 0 [3, 7] rfl (qv_loadB 1 ShpC.h rfl rfl rfl rfl) rfl rfl (by kernel_rfl) (by kernel_rfl) (by kernel_rfl) (fun _ _ _ _ h => h) ?_
       refine xpvalE 3 [7] rfl (qv_loadB 0 ShpC.h rfl rfl rfl rfl) rfl rfl (by kernel_rfl) (by kernel_rfl) (by kernel_rfl) (fun _ _ _ _ h => h) ?_
       refine xpvalE 7 [] rfl (qv_loadEP ([.v (.int .i64 y1690.1)] ++ (List.map E_palinode_api_Span y1690.2.l).flatten) [] sq_ sl_ (part_all sl_) ShpC.h rfl) rfl rfl (by kernel_rfl) (by kernel_rfl) (by kernel_rfl) (fun _ _ _ _ h => h) ?_
       refine xpstep (i := 8) (by kernel_rfl) rfl ?_
       obtain ⟨m1692, hm1692, h1692⟩ := hc_palinoderef11_Reach _ _ _ _ _ h1692
       refine wcallM ((ih m1692 hm1692).1 x1 x2 y5.2.2.1 y1690 _ h1692) Try.func11 (by kernel_rfl) rfl (.cons rfl (.refl _) (.cons rfl (.refl _) (.cons rfl (.refl _) (.cons rfl (.refl _) .nil)))) rfl rfl fun i1694 => ?_
       refine pl_ 9 rfl (pv_assign rfl) ?_
       refine xpdone (by kernel_rfl) ?_
       refine xthen ?_
       refine sr_ ?_
       refine as_ ?_
       refine nt_ ?_
       refine xblock ?_
       obtain ⟨Inv, ⟨m0, hI⟩, hS⟩ := h
       refine xloop (fun σ m => ∃ (x1707 : List (Int × (Arr 10 (Int × Int)))), ∃ (x1709 : Int), ∃ (i1708 : Option (Nat × Nat)), Inv (x1707, x1709) m ∧ σ = ⟨[(1, .sl 1 none (List.map eb x2)), (4, .v (.pointer (some ⟨b4, 0, none⟩))), (9, .v (.pointer (some ⟨b9, 0, none⟩))), (10, .sl 21 (some i1708) (List.map E_palinode_palinoderef11_Point x1707)), (11, .sl 21 (some i1098) (List.map E_palinode_palinoderef11_Point y1097)), (12, .v (.int .i64 x1524)), (13, .sl 21 (some i1694) (List.map E_palinode_palinoderef11_Point y1693)), (14, .v (.int .i64 x1709))], [⟨b9, 45, ([.v (.int .i64 y5.1), .v (.int .i64 y5.2.1), .v (.int .i64 y5.2.2.1), .v (.int .i64 y5.2.2.2.1), .v (.int .i64 y5.2.2.2.2.1), .v (.int .i64 y5.2.2.2.2.2.1)] ++ (List.map ew y5.2.2.2.2.2.2.l).flatten)⟩, ⟨b4, 24, [.sl 10 none (List.map E_palinode_api_Node x1.1), .v (.int .i64 x1.2)]⟩], [⟨i1694, 58, 21, y1693.length⟩, ⟨i1708, 58, 21, x1707.length⟩, ⟨i1098, 58, 21, y1097.length⟩]⟩) ⟨x1522, 0, i1523, hI, rfl⟩ (by exact ⟨lk_, (SubM.of (.keep rfl rfl (.refl _) (.keep rfl rfl (.refl _) (.nil _))) (.keep rfl (.keep rfl (.keep rfl (.nil _)))))⟩) ?_
       rintro _ m ⟨x1707, x1709, i1708, hI, rfl⟩
       obtain ⟨ag4, hag4, h⟩ : ∃ ag, (∀ s', ag s' → ∃ m', m' < m ∧ Inv s' m') ∧ palinoderef11_Reach_l4 y1693 x1524 ag3 ag x1707 x1709 r := ⟨_, fun _ h => h, hS (x1707, x1709) _ hI⟩
       clear hS hI
       refine xseq ?_
       refine sr_ ?_
       refine mv_ ?_
       refine mv_ ?_
       refine vp_ (pv_lenM UndC.h rfl) ?_
       refine vp_ (pv_bin2 rfl rfl rfl) ?_
       refine nt_ ?_
       by_cases hp1727 : x1709 < (y1693.length : Int)
       ·replace h := h.1 hp1727
        refine xcondT' (decide_eq_true hp1727) rfl ?_
        refine xskipc ?_
        refine xthen ?_
        refine xseq ?_
        refine xblock ?_
        refine xregion ?_
        refine mv_ ?_
        refine mv_ ?_
        refine mv_ ?_
        obtain ⟨h1729a, h⟩ := h
        obtain ⟨y1728, h1729b, h⟩ := h
        refine vp_ (pv_indexAddrM h1729a h1729b UndC.h ShpC.h rfl rfl) ?_
        refine v_ (qv_loadEP ([.v (.int .i64 y1728.1)] ++ (List.map E_palinode_api_Span y1728.2.l).flatten) [] sq_ sl_ (part_all sl_) ShpC.h rfl) ?_
        obtain ⟨y1731, h1730, h⟩ := h
        refine xcallF (Fb := [⟨b9, 45, ([.v (.int .i64 y5.1), .v (.int .i64 y5.2.1), .v (.int .i64 y5.2.2.1), .v (.int .i64 y5.2.2.2.1), .v (.int .i64 y5.2.2.2.2.1), .v (.int .i64 y5.2.2.2.2.2.1)] ++ (List.map ew y5.2.2.2.2.2.2.l).flatten)⟩, ⟨b4, 24, [.sl 10 none (List.map E_palinode_api_Node x1.1), .v (.int .i64 x1.2)]⟩]) (Ft := [⟨i1694, 58, 21, y1693.length⟩, ⟨i1098, 58, 21, y1097.length⟩]) (palinoderef11_with_con x1707 y1728 i1708 _ h1730) Try.func17 (by kernel_rfl) rfl (.cons rfl (.refl _) (.cons rfl (.refl _) .nil)) (by refine SubM.trans (SubM.mvT 1 rfl) ?_; (simp only [List.eraseIdx]); exact sm_) rfl rfl ?_
        rintro _ _ _ ⟨i1732, rfl, rfl, rfl⟩
        simp only [List.nil_append, List.cons_append]
        refine as_ ?_
        refine xnil ?_
        refine xin_normal ?_
        refine xthen ?_
        refine xregion ?_
        refine mv_ ?_
        obtain ⟨h1733, h⟩ := h
        refine vp_ (pv_addI h1733 rfl rfl) ?_
        refine as_ ?_
        refine xnil ?_
        obtain ⟨m', hm, hI⟩ := hag4 _ h
        exact xagain ⟨y1731, (x1709 + 1), i1732, hI, rfl⟩ hm ⟨lk_, by refine SubM.trans (SubM.mvT 2 rfl) ?_; refine SubM.trans (SubM.mvT 1 rfl) ?_; refine SubM.trans (SubM.mvT 2 rfl) ?_; (simp only [List.eraseIdx]); exact sm_⟩
       ·replace h := h.2 hp1727
        refine xcondF' (decide_eq_false hp1727) rfl ?_
        refine xexit ?_
        refine xthen_exit ?_
        refine xthen_exit ?_
        refine xin_same rfl ?_
        refine xin_normal ?_
        refine xthen ?_
        refine xregion ?_
        refine mv_ ?_
        obtain ⟨h1734, h⟩ := h
        refine vp_ (pv_addI h1734 rfl rfl) ?_
        refine as_ ?_
        refine xnil ?_
        obtain ⟨m', hm, hI⟩ := hag3 _ h
        exact xagain ⟨x1707, (x1524 + 1), i1708, hI, rfl⟩ hm ⟨lk_, (SubM.of (.keep rfl rfl (.refl _) (.keep rfl rfl (.refl _) (.nil _))) (.drop (.keep rfl (.keep rfl (.nil _)))))⟩
      ·replace h := h.2 hp1635
       refine xcondF' (decide_eq_false hp1635) rfl ?_
       refine xexit ?_
       refine xthen_exit ?_
       refine xthen_exit ?_
       refine xin_same rfl ?_
       refine xthen ?_
       refine sr_ ?_
       refine mv_ ?_
       refine as_ ?_
       refine nt_ ?_
       refine xretc ?_
       refine xin_ret ?_
       refine xthen_ret ?_
       replace h := h.symm
       subst h
       exact xret1 hg rfl rfl (.refl _) (SubM.of (.nil _) (.keep rfl (.nil _))) ⟨i1523, rfl, rfl, rfl⟩
     ·replace h := h.2 hp1095
      refine xcondF' (decide_eq_false hp1095) rfl ?_
      refine sr_ ?_
      refine vp_ (pv_bin2 rfl rfl rfl) ?_
      refine as_ ?_
      refine nt_ ?_
      by_cases hp1736 : y5.1 = 3
      ·replace h := h.1 hp1736
       refine xcondT' (decide_eq_true hp1736) rfl ?_
       refine sr_ ?_
       refine v_ (qv_loadB 2 ShpC.h rfl rfl rfl rfl) ?_
       refine mv_ ?_
       refine vp_ (qv_fieldAddrB FldC.h rfl) ?_
       refine v_ (qv_loadB 0 ShpC.h rfl rfl rfl rfl) ?_
       refine v_ (qv_loadP 1 [] ([.v (.int .i64 x4.1)] ++ (List.map E_palinode_api_Span x4.2.l).flatten) [] sq_ sl_ sl_ (part_all sl_) ShpC.h rfl rfl) ?_
       obtain ⟨y1738, h1737, h⟩ := h
       obtain ⟨m1737, hm1737, h1737⟩ := hc_palinoderef11_Reach _ _ _ _ _ h1737
       refine xcallM ((ih m1737 hm1737).1 x1 x2 y5.2.1 x4 _ h1737) Try.func11 (by kernel_rfl) rfl (.cons rfl (.refl _) (.cons rfl (.refl _) (.cons rfl (.refl _) (.cons rfl (.refl _) .nil)))) rfl rfl fun i1739 => ?_
       refine as_ ?_
       refine nt_ ?_
       refine sr_ ?_
       refine v_ (qv_loadB 2 ShpC.h rfl rfl rfl rfl) ?_
       refine mv_ ?_
       refine vp_ (qv_fieldAddrB FldC.h rfl) ?_
       refine v_ (qv_loadB 0 ShpC.h rfl rfl rfl rfl) ?_
       refine v_ (qv_loadP 1 [] ([.v (.int .i64 x4.1)] ++ (List.map E_palinode_api_Span x4.2.l).flatten) [] sq_ sl_ sl_ (part_all sl_) ShpC.h rfl rfl) ?_
       obtain ⟨y1741, h1740, h⟩ := h
       obtain ⟨m1740, hm1740, h1740⟩ := hc_palinoderef11_Reach _ _ _ _ _ h1740
       refine xcallM ((ih m1740 hm1740).1 x1 x2 y5.2.2.1 x4 _ h1740) Try.func11 (by kernel_rfl) rfl (.cons rfl (.refl _) (.cons rfl (.refl _) (.cons rfl (.refl _) (.cons rfl (.refl _) .nil)))) rfl rfl fun i1742 => ?_
       refine as_ ?_
       refine nt_ ?_
       refine xseq ?_
       refine sr_ ?_
       refine as_ ?_
       refine nt_ ?_
       refine xblock ?_
       obtain ⟨Inv, ⟨m0, hI⟩, hS⟩ := h
       refine xloop (fun σ m => ∃ (x1794 : List (Int × (Arr 10 (Int × Int)))), ∃ (x1796 : Int), ∃ (i1795 : Option (Nat × Nat)), Inv (x1794, x1796) m ∧ σ = ⟨[(10, .sl 21 (some i1795) (List.map E_palinode_palinoderef11_Point x1794)), (15, .sl 21 (some i1742) (List.map E_palinode_palinoderef11_Point y1741)), (16, .v (.int .i64 x1796))], [], [⟨i1742, 58, 21, y1741.length⟩, ⟨i1795, 58, 21, x1794.length⟩]⟩) ⟨y1738, 0, i1739, hI, rfl⟩ (by exact ⟨lk_, (SubM.of (.nil _) (.keep rfl (.keep rfl (.nil _))))⟩) ?_
       rintro _ m ⟨x1794, x1796, i1795, hI, rfl⟩
       obtain ⟨ag5, hag5, h⟩ : ∃ ag, (∀ s', ag s' → ∃ m', m' < m ∧ Inv s' m') ∧ palinoderef11_Reach_l5 y1741 ag x1794 x1796 r := ⟨_, fun _ h => h, hS (x1794, x1796) _ hI⟩
       clear hS hI
       refine xseq ?_
       refine sr_ ?_
       refine mv_ ?_
       refine mv_ ?_
       refine vp_ (pv_lenM UndC.h rfl) ?_
       refine vp_ (pv_bin2 rfl rfl rfl) ?_
       refine nt_ ?_
       by_cases hp1814 : x1796 < (y1741.length : Int)
       ·replace h := h.1 hp1814
        refine xcondT' (decide_eq_true hp1814) rfl ?_
        refine xskipc ?_
        refine xthen ?_
        refine xseq ?_
        refine xblock ?_
        refine xregion ?_
        refine mv_ ?_
        refine mv_ ?_
        refine mv_ ?_
        obtain ⟨h1816a, h⟩ := h
        obtain ⟨y1815, h1816b, h⟩ := h
        refine vp_ (pv_indexAddrM h1816a h1816b UndC.h ShpC.h rfl rfl) ?_
        refine v_ (qv_loadEP ([.v (.int .i64 y1815.1)] ++ (List.map E_palinode_api_Span y1815.2.l).flatten) [] sq_ sl_ (part_all sl_) ShpC.h rfl) ?_
        obtain ⟨y1818, h1817, h⟩ := h
        refine xcallF (Fb := []) (Ft := [⟨i1742, 58, 21, y1741.length⟩]) (palinoderef11_with_con x1794 y1815 i1795 _ h1817) Try.func17 (by kernel_rfl) rfl (.cons rfl (.refl _) (.cons rfl (.refl _) .nil)) (by refine SubM.trans (SubM.mvT 1 rfl) ?_; (simp only [List.eraseIdx]); exact sm_) rfl rfl ?_
        rintro _ _ _ ⟨i1819, rfl, rfl, rfl⟩
        simp only [List.nil_append, List.cons_append]
        refine as_ ?_
        refine xnil ?_
        refine xin_normal ?_
        refine xthen ?_
        refine xregion ?_
        refine mv_ ?_
        obtain ⟨h1820, h⟩ := h
        refine vp_ (pv_addI h1820 rfl rfl) ?_
        refine as_ ?_
        refine xnil ?_
        obtain ⟨m', hm, hI⟩ := hag5 _ h
        exact xagain ⟨y1818, (x1796 + 1), i1819, hI, rfl⟩ hm ⟨lk_, by refine SubM.trans (SubM.mvT 0 rfl) ?_; refine SubM.trans (SubM.mvT 1 rfl) ?_; (simp only [List.eraseIdx]); exact sm_⟩
       ·replace h := h.2 hp1814
        refine xcondF' (decide_eq_false hp1814) rfl ?_
        refine xexit ?_
        refine xthen_exit ?_
        refine xthen_exit ?_
        refine xin_same rfl ?_
        refine xthen ?_
        refine sr_ ?_
        refine mv_ ?_
        refine as_ ?_
        refine nt_ ?_
        refine xretc ?_
        refine xin_ret ?_
        refine xthen_ret ?_
        replace h := h.symm
        subst h
        exact xret1 hg rfl rfl (.refl _) (SubM.of (.nil _) (.drop (.keep rfl (.nil _)))) ⟨i1795, rfl, rfl, rfl⟩
      ·replace h := h.2 hp1736
       refine xcondF' (decide_eq_false hp1736) rfl ?_
       refine sr_ ?_
       refine vp_ (pv_bin2 rfl rfl rfl) ?_
       refine as_ ?_
       refine nt_ ?_
       by_cases hp1822 : y5.1 = 4
       ·replace h := h.1 hp1822
        refine xcondT' (decide_eq_true hp1822) rfl ?_
        refine sr_ ?_
        refine v_ (qv_loadB 2 ShpC.h rfl rfl rfl rfl) ?_
        refine mv_ ?_
        refine v_ (qv_loadP 0 [] ([.v (.int .i64 y5.1), .v (.int .i64 y5.2.1), .v (.int .i64 y5.2.2.1), .v (.int .i64 y5.2.2.2.1), .v (.int .i64 y5.2.2.2.2.1), .v (.int .i64 y5.2.2.2.2.2.1)] ++ (List.map ew y5.2.2.2.2.2.2.l).flatten) [] sq_ sl_ sl_ (part_all sl_) ShpC.h rfl rfl) ?_
        refine v_ (qv_loadP 1 [] ([.v (.int .i64 x4.1)] ++ (List.map E_palinode_api_Span x4.2.l).flatten) [] sq_ sl_ sl_ (part_all sl_) ShpC.h rfl rfl) ?_
        obtain ⟨y1824, h1823, h⟩ := h
        obtain ⟨m1823, hm1823, h1823⟩ := hc_palinoderef11_times _ _ _ _ _ h1823
        refine xcallM ((ih m1823 hm1823).2 x1 x2 y5 x4 _ h1823) Try.func18 (by kernel_rfl) rfl (.cons rfl (.refl _) (.cons rfl (.refl _) (.cons rfl (.refl _) (.cons rfl (.refl _) .nil)))) rfl rfl fun i1825 => ?_
        refine as_ ?_
        refine nt_ ?_
        refine xretc ?_
        refine xin_ret ?_
        refine xthen_ret ?_
        replace h := h.symm
        subst h
        exact xret1 hg rfl rfl (.refl _) (SubM.of (.nil _) (.keep rfl (.nil _))) ⟨i1825, rfl, rfl, rfl⟩
       ·replace h := h.2 hp1822
        refine xcondF' (decide_eq_false hp1822) rfl ?_
        refine sr_ ?_
        refine vp_ (pv_bin2 rfl rfl rfl) ?_
        refine as_ ?_
        refine nt_ ?_
        by_cases hp1827 : y5.1 = 5
        ·replace h := h.1 hp1827
         refine xcondT' (decide_eq_true hp1827) rfl ?_
         refine sr_ ?_
         refine v_ (qv_loadB 2 ShpC.h rfl rfl rfl rfl) ?_
         refine mv_ ?_
         refine vp_ (qv_fieldAddrB FldC.h rfl) ?_
         refine v_ (qv_loadB 0 ShpC.h rfl rfl rfl rfl) ?_
         refine v_ (qv_loadP 1 [] ([.v (.int .i64 x4.1)] ++ (List.map E_palinode_api_Span x4.2.l).flatten) [] sq_ sl_ sl_ (part_all sl_) ShpC.h rfl rfl) ?_
         obtain ⟨y1829, h1828, h⟩ := h
         obtain ⟨m1828, hm1828, h1828⟩ := hc_palinoderef11_Reach _ _ _ _ _ h1828
         refine xcallF (Fb := [⟨b9, 45, ([.v (.int .i64 y5.1), .v (.int .i64 y5.2.1), .v (.int .i64 y5.2.2.1), .v (.int .i64 y5.2.2.2.1), .v (.int .i64 y5.2.2.2.2.1), .v (.int .i64 y5.2.2.2.2.2.1)] ++ (List.map ew y5.2.2.2.2.2.2.l).flatten)⟩, ⟨b7, 58, ([.v (.int .i64 x4.1)] ++ (List.map E_palinode_api_Span x4.2.l).flatten)⟩, ⟨b4, 24, [.sl 10 none (List.map E_palinode_api_Node x1.1), .v (.int .i64 x1.2)]⟩]) (Ft := []) (con_take ((ih m1828 hm1828).1 x1 x2 y5.2.1 x4 _ h1828)) Try.func11 (by kernel_rfl) rfl (.cons rfl (.refl _) (.cons rfl (.refl _) (.cons rfl (.refl _) (.cons rfl (.refl _) .nil)))) (by exact sm_) rfl rfl ?_
         rintro _ _ _ ⟨i1830, rfl, rfl, rfl⟩
         simp only [List.nil_append, List.cons_append]
         refine as_ ?_
         refine nt_ ?_
         refine xseq ?_
         refine sr_ ?_
         refine as_ ?_
         refine nt_ ?_
         refine xblock ?_
         obtain ⟨Inv, ⟨m0, hI⟩, hS⟩ := h
         refine xloop (fun σ m => ∃ (x2000 : List (Int × (Arr 10 (Int × Int)))), ∃ (x2002 : Int), ∃ (l2003 : List (Int × (Arr 10 (Int × Int)))), ∃ (i2001 : Option (Nat × Nat)), Inv (x2000, x2002, l2003) m ∧ σ = ⟨[(7, .v (.pointer (some ⟨b7, 0, none⟩))), (9, .v (.pointer (some ⟨b9, 0, none⟩))), (10, .sl 21 (some i2001) (List.map E_palinode_palinoderef11_Point x2000)), (17, .rb i1830 l2003.length), (18, .v (.int .i64 x2002))], [rbx i1830 58 21 (List.map E_palinode_palinoderef11_Point l2003), ⟨b9, 45, ([.v (.int .i64 y5.1), .v (.int .i64 y5.2.1), .v (.int .i64 y5.2.2.1), .v (.int .i64 y5.2.2.2.1), .v (.int .i64 y5.2.2.2.2.1), .v (.int .i64 y5.2.2.2.2.2.1)] ++ (List.map ew y5.2.2.2.2.2.2.l).flatten)⟩, ⟨b7, 58, ([.v (.int .i64 x4.1)] ++ (List.map E_palinode_api_Span x4.2.l).flatten)⟩], [⟨i2001, 58, 21, x2000.length⟩]⟩) ⟨([] : List (Int × (Arr 10 (Int × Int)))), 0, y1829, none, hI, rfl⟩ (by exact ⟨(.cons rfl (.refl _) (.cons rfl (.refl _) (.cons rfl (.nil_own _) (.cons rfl (.eq (by first | rfl | simp)) (.cons rfl (.refl _) (.nil _)))))), by exact (SubM.of (.keep rfl rfl (.refl _) (.keep rfl rfl (.refl _) (.keep rfl rfl (.refl _) (.nil _)))) (.add (.nil _)))⟩) ?_
         rintro _ m ⟨x2000, x2002, l2003, i2001, hI, rfl⟩
         obtain ⟨ag6, hag6, h⟩ : ∃ ag, (∀ s', ag s' → ∃ m', m' < m ∧ Inv s' m') ∧ palinoderef11_Reach_l6 y5 x4 ag x2000 x2002 l2003 r := ⟨_, fun _ h => h, hS (x2000, x2002, l2003) _ hI⟩
         clear hS hI
         refine xseq ?_
         refine sr_ ?_
         refine mv_ ?_
         refine mv_ ?_
         refine vp_ (pv_lenRb UndC.h rfl) ?_
         refine vp_ (pv_bin2 rfl rfl rfl) ?_
         refine nt_ ?_
         by_cases hp2050 : x2002 < ((l2003.length : Nat) : Int)
         ·replace h := h.1 hp2050
          refine xcondT' (decide_eq_true hp2050) rfl ?_
          refine xskipc ?_
          refine xthen ?_
          refine xseq ?_
          refine xblock ?_
          refine xseq ?_
          refine xregionD (m := 16) (by kernel_rfl) rfl ?_
          obtain ⟨h2075a, h⟩ := h
          obtain ⟨y2074, h2075b, h⟩ := h
          obtain ⟨h2077a, h⟩ := h
          obtain ⟨y2076, h2077b, h⟩ := h
          obtain ⟨h2078, h⟩ := h
          obtain ⟨y2079, h2078b, h⟩ := h
          refine pl_ 0 rfl (pv_move rfl) ?_
          refine pl_ 1 rfl (pv_move rfl) ?_
          refine pl_ 2 rfl (qv_fieldAddrB FldC.h rfl) ?_
          refine pl_ 4 rfl (qv_fieldAddrB FldC.h rfl) ?_
          refine pl_ 6 rfl (pv_move rfl) ?_
          refine pl_ 7 rfl (pv_move rfl) ?_
          refine pl_ 8 rfl (pv_indexAddrRbM rfl h2075a h2075b UndC.h ShpC.h rfl rfl) ?_
          refine pl_ 9 rfl (qv_fieldAddrB FldC.h rfl) ?_
          refine pl_ 12 rfl (pv_indexAddrRbM rfl h2077a h2077b UndC.h ShpC.h rfl rfl) ?_
          refine pl_ 13 rfl (qv_fieldAddrB FldC.h rfl) ?_
          refine xpvalE 5 [3, 10] rfl (qv_loadB 2 ShpC.h rfl rfl rfl rfl) rfl rfl (by kernel_rfl) (by kernel_rfl) (by kernel_rfl) (fun _ _ _ _ h => h) ?_
          refine xpvalE 10 [3] rfl (qv_loadRb (f := E_palinode_palinoderef11_Point) (k := 21) (off := 0) (i := (x2002 : Int).toNat) 0 h2075b rfl (by decide) (part_midE (pre := []) (mid := [.v (.int .i64 y2074.1)]) (post := ((List.map E_palinode_api_Span y2074.2.l).flatten)) sq_ sl_ sl_ rfl) ShpC.h rfl rfl) rfl rfl (by kernel_rfl) (by kernel_rfl) (by kernel_rfl) (fun _ _ _ _ h => h) ?_
          refine pl_ 11 rfl (pv_buildC StrC.h rfl rfl) ?_
          refine xpvalE 3 [] rfl (qv_loadB 1 ShpC.h rfl rfl rfl rfl) rfl rfl (by kernel_rfl) (by kernel_rfl) (by kernel_rfl) (fun _ _ _ _ h => h) ?_
          refine pl_ 14 rfl (pv_indexAddrBA h2078 UndC.h ShpC.h rfl rfl) ?_
          refine xpstep (i := 15) (by kernel_rfl) rfl ?_
          refine wstoreRbA (f := E_palinode_palinoderef11_Point) (fi := E_palinode_api_Span) (a := y2076.2) (off := 0) (i := (x2002 : Int).toNat) (ix := (y5.2.2.2.2.2.1 : Int).toNat) 0 [.v (.int .i64 y2076.1)] [] (y2076.1, (Arr.set y2076.2 (y5.2.2.2.2.2.1 : Int).toNat ((x4.1, y2074.1)))) (x4.1, y2074.1) h2077b h2078b sq_ sq_ so_ (by decide) ShpC.h rfl rfl rfl rfl sl_ rfl rfl ?_
          refine xpdone (by kernel_rfl) ?_
          refine xthen ?_
          refine xregion ?_
          refine mv_ ?_
          refine mv_ ?_
          refine mv_ ?_
          obtain ⟨h2081a, h⟩ := h
          obtain ⟨y2080, h2081b, h⟩ := h
          refine vp_ (pv_indexAddrRbM (by simp) h2081a h2081b UndC.h ShpC.h rfl rfl) ?_
          refine v_ (qv_loadRb (f := E_palinode_palinoderef11_Point) (k := 21) (off := 0) (i := (x2002 : Int).toNat) 0 h2081b rfl (by decide) (part_all sl_) ShpC.h rfl rfl) ?_
          obtain ⟨y2083, h2082, h⟩ := h
          refine xcallF (Fb := [rbx i1830 58 21 (List.map E_palinode_palinoderef11_Point ((l2003.set (x2002 : Int).toNat (y2076.1, (Arr.set y2076.2 (y5.2.2.2.2.2.1 : Int).toNat ((x4.1, y2074.1))))))), ⟨b9, 45, ([.v (.int .i64 y5.1), .v (.int .i64 y5.2.1), .v (.int .i64 y5.2.2.1), .v (.int .i64 y5.2.2.2.1), .v (.int .i64 y5.2.2.2.2.1), .v (.int .i64 y5.2.2.2.2.2.1)] ++ (List.map ew y5.2.2.2.2.2.2.l).flatten)⟩, ⟨b7, 58, ([.v (.int .i64 x4.1)] ++ (List.map E_palinode_api_Span x4.2.l).flatten)⟩]) (Ft := []) (palinoderef11_with_con x2000 y2080 i2001 _ h2082) Try.func17 (by kernel_rfl) rfl (.cons rfl (.refl _) (.cons rfl (.refl _) .nil)) (by exact sm_) rfl rfl ?_
          rintro _ _ _ ⟨i2084, rfl, rfl, rfl⟩
          simp only [List.nil_append, List.cons_append]
          refine as_ ?_
          refine xnil ?_
          refine xin_normal ?_
          refine xthen ?_
          refine xregion ?_
          refine mv_ ?_
          obtain ⟨h2085, h⟩ := h
          refine vp_ (pv_addI h2085 rfl rfl) ?_
          refine as_ ?_
          refine xnil ?_
          obtain ⟨m', hm, hI⟩ := hag6 _ h
          exact xagain ⟨y2083, (x2002 + 1), (l2003.set (x2002 : Int).toNat (y2076.1, (Arr.set y2076.2 (y5.2.2.2.2.2.1 : Int).toNat ((x4.1, y2074.1))))), i2084, hI, rfl⟩ hm ⟨(.cons rfl (.refl _) (.cons rfl (.refl _) (.cons rfl (.refl _) (.cons rfl (.eq (by first | rfl | simp)) (.cons rfl (.refl _) (.nil _)))))), by exact (SubM.of (.keep rfl rfl (.refl _) (.keep rfl rfl (.refl _) (.keep rfl rfl (.refl _) (.nil _)))) (.keep rfl (.nil _)))⟩
         ·replace h := h.2 hp2050
          refine xcondF' (decide_eq_false hp2050) rfl ?_
          refine xexit ?_
          refine xthen_exit ?_
          refine xthen_exit ?_
          refine xin_same rfl ?_
          refine xthen ?_
          refine sr_ ?_
          refine mv_ ?_
          refine as_ ?_
          refine nt_ ?_
          refine xretc ?_
          refine xin_ret ?_
          refine xthen_ret ?_
          replace h := h.symm
          subst h
          exact xret1 (bx' := []) (tk' := [⟨i2001, 58, 21, x2000.length⟩]) hg rfl rfl (.refl _) (SubM.of (.nil _) (.keep rfl (.nil _))) ⟨i2001, rfl, rfl, rfl⟩
        ·replace h := h.2 hp1827
         refine xcondF' (decide_eq_false hp1827) rfl ?_
         refine sr_ ?_
         refine vp_ (pv_bin2 rfl rfl rfl) ?_
         refine as_ ?_
         refine nt_ ?_
         by_cases hp2087 : y5.1 = 6
         ·replace h := h.1 hp2087
          refine xcondT' (decide_eq_true hp2087) rfl ?_
          refine xseq ?_
          refine xregionD (m := 10) (by kernel_rfl) rfl ?_
          obtain ⟨h2092, h⟩ := h
          obtain ⟨y2093, h2092b, h⟩ := h
          obtain ⟨y2095, h2094, h⟩ := h
          refine pl_ 0 rfl (pv_move rfl) ?_
          refine pl_ 1 rfl (qv_fieldAddrB FldC.h rfl) ?_
          refine pl_ 3 rfl (qv_fieldAddrB FldC.h rfl) ?_
          refine pl_ 6 rfl (qv_fieldAddrB FldC.h rfl) ?_
          refine xpvalE 2 [7] rfl (qv_loadB 0 ShpC.h rfl rfl rfl rfl) rfl rfl (by kernel_rfl) (by kernel_rfl) (by kernel_rfl) (fun _ _ _ _ h => h) ?_
          refine pl_ 4 rfl (pv_indexAddrBA h2092 UndC.h ShpC.h rfl rfl) ?_
          refine xpvalE 5 [7] rfl (qv_loadA (f := E_palinode_api_Span) (a := x4.2) (k := 2) (off := 0) (i := (y5.2.2.2.2.2.1 : Int).toNat) 1 [.v (.int .i64 x4.1)] [] h2092b sq_ so_ (by decide) (by first | rfl | exact part_all sl_) ShpC.h rfl rfl) rfl rfl (by kernel_rfl) (by kernel_rfl) (by kernel_rfl) (fun _ _ _ _ h => h) ?_
          refine xpvalE 7 [] rfl (qv_loadB 1 ShpC.h rfl rfl rfl rfl) rfl rfl (by kernel_rfl) (by kernel_rfl) (by kernel_rfl) (fun _ _ _ _ h => h) ?_
          refine xpstep (i := 8) (by kernel_rfl) rfl ?_
          refine wcall0 (palinoderef11_Same_con x2 y2093 x4.1 _ h2094) Try.func19 (by kernel_rfl) rfl (.cons rfl (.refl _) (.cons rfl (.refl _) (.cons rfl (.refl _) .nil))) rfl rfl ?_
          refine pl_ 9 rfl (pv_assign rfl) ?_
          refine xpdone (by kernel_rfl) ?_
          refine xthen ?_
          refine xseq ?_
          refine sr_ ?_
          refine mv_ ?_
          refine vp_ (pv_bin2 rfl rfl rfl) ?_
          refine nt_ ?_
          by_cases hp2099 : y2095 < 0
          ·replace h := h.1 hp2099
           refine xcondT' (decide_eq_true hp2099) rfl ?_
           refine sr_ ?_
           refine as_ ?_
           refine nt_ ?_
           refine xretc ?_
           refine xthen_ret ?_
           refine xin_ret ?_
           refine xthen_ret ?_
           replace h := h.symm
           subst h
           exact xret1 hg rfl rfl (.nil_own _) sm_ ⟨none, rfl, rfl, rfl⟩
          ·replace h := h.2 hp2099
           refine xcondF' (decide_eq_false hp2099) rfl ?_
           refine xskipc ?_
           refine xthen ?_
           refine sr_ ?_
           refine mv_ ?_
           refine vp_ (qv_fieldAddrB FldC.h rfl) ?_
           refine xstore 1 ShpC.h rfl rfl rfl rfl rfl rfl rfl ?_
           refine nt_ ?_
           refine sr_ ?_
           refine v_ (qv_loadP 1 [] ([.v (.int .i64 y2095)] ++ (List.map E_palinode_api_Span x4.2.l).flatten) [] sq_ sl_ sl_ (part_all sl_) ShpC.h rfl rfl) ?_
           refine xbuildSliceME (f := E_palinode_palinoderef11_Point) [(y2095, x4.2)] UndC.h InfC.h rfl (.cons rfl (beq_of sl_) rfl rfl .nil) wr_ rfl rfl rfl rfl fun s172 => ?_
           refine as_ ?_
           refine nt_ ?_
           refine xretc ?_
           refine xin_ret ?_
           refine xthen_ret ?_
           replace h := h.symm
           subst h
           exact xret1 hg rfl rfl (.refl _) (SubM.of (.nil _) (.keep rfl (.nil _))) ⟨(some (s172, 1)), rfl, rfl, rfl⟩
         ·replace h := h.2 hp2087
          refine xcondF' (decide_eq_false hp2087) rfl ?_
          refine sr_ ?_
          refine vp_ (pv_bin2 rfl rfl rfl) ?_
          refine as_ ?_
          refine nt_ ?_
          by_cases hp2101 : y5.1 = 7
          ·replace h := h.1 hp2101
           refine xcondT' (decide_eq_true hp2101) rfl ?_
           refine sr_ ?_
           refine vp_ (qv_fieldAddrB FldC.h rfl) ?_
           refine v_ (qv_loadB 1 ShpC.h rfl rfl rfl rfl) ?_
           refine vp_ (pv_bin2 rfl rfl rfl) ?_
           refine nt_ ?_
           by_cases hp2103 : ¬ (x4.1 = 0)
           ·replace h := h.1 hp2103
            refine xcondT' (not_t (decide_eq_false hp2103)) rfl ?_
            refine sr_ ?_
            refine as_ ?_
            refine nt_ ?_
            refine xretc ?_
            refine xin_ret ?_
            refine xthen_ret ?_
            replace h := h.symm
            subst h
            exact xret1 hg rfl rfl (.nil_own _) sm_ ⟨none, rfl, rfl, rfl⟩
           ·replace h := h.2 hp2103
            refine xcondF' (not_f (decide_eq_true (Decidable.of_not_not hp2103))) rfl ?_
            refine xskipc ?_
            refine xin_normal ?_
            exact xmeet ⟨h, rfl⟩ ⟨(.cons rfl (.refl _) (.nil _)), (SubM.of (.drop (.keep rfl rfl (.refl _) (.nil _))) (.nil _))⟩
          ·replace h := h.2 hp2101
           refine xcondF' (decide_eq_false hp2101) rfl ?_
           refine sr_ ?_
           refine vp_ (pv_bin2 rfl rfl rfl) ?_
           refine as_ ?_
           refine nt_ ?_
           by_cases hp2105 : y5.1 = 8
           ·replace h := h.1 hp2105
            refine xcondT' (decide_eq_true hp2105) rfl ?_
            refine sr_ ?_
            refine vp_ (qv_fieldAddrB FldC.h rfl) ?_
            refine v_ (qv_loadB 1 ShpC.h rfl rfl rfl rfl) ?_
            refine mv_ ?_
            refine vp_ (pv_lenM UndC.h rfl) ?_
            refine vp_ (pv_bin2 rfl rfl rfl) ?_
            refine nt_ ?_
            by_cases hp2108 : ¬ (x4.1 = (x2.length : Int))
            ·replace h := h.1 hp2108
             refine xcondT' (not_t (decide_eq_false hp2108)) rfl ?_
             refine sr_ ?_
             refine as_ ?_
             refine nt_ ?_
             refine xretc ?_
             refine xin_ret ?_
             refine xthen_ret ?_
             replace h := h.symm
             subst h
             exact xret1 hg rfl rfl (.nil_own _) sm_ ⟨none, rfl, rfl, rfl⟩
            ·replace h := h.2 hp2108
             refine xcondF' (not_f (decide_eq_true (Decidable.of_not_not hp2108))) rfl ?_
             refine xskipc ?_
             refine xin_normal ?_
             exact xmeet ⟨h, rfl⟩ ⟨(.cons rfl (.refl _) (.nil _)), (SubM.of (.drop (.keep rfl rfl (.refl _) (.nil _))) (.nil _))⟩
           ·replace h := h.2 hp2105
            refine xcondF' (decide_eq_false hp2105) rfl ?_
            refine xskipc ?_
            refine xin_normal ?_
            exact xmeet ⟨h, rfl⟩ ⟨(.cons rfl (.refl _) (.nil _)), (SubM.of (.drop (.keep rfl rfl (.refl _) (.nil _))) (.nil _))⟩
   ·clear h
    rintro _ ⟨h, rfl⟩
    refine sr_ ?_
    refine v_ (qv_loadP 0 [] ([.v (.int .i64 x4.1)] ++ (List.map E_palinode_api_Span x4.2.l).flatten) [] sq_ sl_ sl_ (part_all sl_) ShpC.h rfl rfl) ?_
    refine xbuildSliceME (f := E_palinode_palinoderef11_Point) [x4] UndC.h InfC.h rfl (.cons rfl (beq_of sl_) rfl rfl .nil) wr_ rfl rfl rfl rfl fun s186 => ?_
    refine as_ ?_
    refine nt_ ?_
    refine xretc ?_
    replace h := h.symm
    subst h
    exact xret1 hg rfl rfl (.refl _) (SubM.of (.nil _) (.keep rfl (.nil _))) ⟨(some (s186, 1)), rfl, rfl, rfl⟩
  ·intro x1 x2 x3 x4 r h
   obtain ⟨c_palinoderef11_Reach, c_palinoderef11_times, hc_palinoderef11_Reach, hc_palinoderef11_times, h⟩ : ∃ (c_palinoderef11_Reach : ((List (Int × Int × Int × Int × Int × Int × (Arr 4 (UInt64)))) × Int) → (List UInt8) → (Int) → (Int × (Arr 10 (Int × Int))) → ((List (Int × (Arr 10 (Int × Int))))) → Prop) (c_palinoderef11_times : ((List (Int × Int × Int × Int × Int × Int × (Arr 4 (UInt64)))) × Int) → (List UInt8) → (Int × Int × Int × Int × Int × Int × (Arr 4 (UInt64))) → (Int × (Arr 10 (Int × Int))) → ((List (Int × (Arr 10 (Int × Int))))) → Prop), (∀ a0 a1 a2 a3 r, c_palinoderef11_Reach a0 a1 a2 a3 r → ∃ m', m' < m ∧ S1 m' a0 a1 a2 a3 r) ∧ (∀ a0 a1 a2 a3 r, c_palinoderef11_times a0 a1 a2 a3 r → ∃ m', m' < m ∧ S2 m' a0 a1 a2 a3 r) ∧ palinoderef11_times_B c_palinoderef11_Reach c_palinoderef11_times x1 x2 x3 x4 r := ⟨_, _, fun _ _ _ _ _ h => h, fun _ _ _ _ _ h => h, H.2 m x1 x2 x3 x4 r h⟩
   refine xenter Try.func18 rfl rfl fun g hg => ?_
   simp only [Try.ntmps18, slots]
   refine sr_ ?_
   refine xbox rfl rfl rfl rfl fun b4 => ?_
   refine xbox rfl rfl rfl rfl fun b6 => ?_
   refine xbox rfl rfl rfl rfl fun b7 => ?_
   refine as_ ?_
   refine nt_ ?_
   refine sr_ ?_
   refine as_ ?_
   refine nt_ ?_
   refine sr_ ?_
   refine v_ (qv_loadP 0 [] ([.v (.int .i64 x4.1)] ++ (List.map E_palinode_api_Span x4.2.l).flatten) [] sq_ sl_ sl_ (part_all sl_) ShpC.h rfl rfl) ?_
   refine xbuildSliceME (f := E_palinode_palinoderef11_Point) [x4] UndC.h InfC.h rfl (.cons rfl (beq_of sl_) rfl rfl .nil) wr_ rfl rfl rfl rfl fun s18 => ?_
   refine as_ ?_
   refine nt_ ?_
   refine xseq ?_
   refine sr_ ?_
   refine as_ ?_
   refine nt_ ?_
   refine xblock ?_
   obtain ⟨Inv, ⟨m0, hI⟩, hS⟩ := h
   refine xloop (fun σ m => ∃ (x19654 : List (Int × (Arr 10 (Int × Int)))), ∃ (x19656 : List (Int × (Arr 10 (Int × Int)))), ∃ (x19658 : Int), ∃ (i19655 : Option (Nat × Nat)), ∃ (i19657 : Option (Nat × Nat)), Inv (x19654, x19656, x19658) m ∧ σ = ⟨[(1, .sl 1 none (List.map eb x2)), (4, .v (.pointer (some ⟨b4, 0, none⟩))), (6, .v (.pointer (some ⟨b6, 0, none⟩))), (9, .sl 21 (some i19655) (List.map E_palinode_palinoderef11_Point x19654)), (10, .sl 21 (some i19657) (List.map E_palinode_palinoderef11_Point x19656)), (11, .v (.int .i64 x19658))], [⟨b6, 45, ([.v (.int .i64 x3.1), .v (.int .i64 x3.2.1), .v (.int .i64 x3.2.2.1), .v (.int .i64 x3.2.2.2.1), .v (.int .i64 x3.2.2.2.2.1), .v (.int .i64 x3.2.2.2.2.2.1)] ++ (List.map ew x3.2.2.2.2.2.2.l).flatten)⟩, ⟨b4, 24, [.sl 10 none (List.map E_palinode_api_Node x1.1), .v (.int .i64 x1.2)]⟩], [⟨i19655, 58, 21, x19654.length⟩, ⟨i19657, 58, 21, x19656.length⟩]⟩) ⟨([] : List (Int × (Arr 10 (Int × Int)))), [x4], 0, none, (some (s18, 1)), hI, rfl⟩ (by exact ⟨(.cons rfl (.refl _) (.cons rfl (.refl _) (.cons rfl (.refl _) (.cons rfl (.nil_own _) lk_)))), (SubM.of (.drop (.keep rfl rfl (.refl _) (.keep rfl rfl (.refl _) (.nil _)))) (.add (.keep rfl (.nil _))))⟩) ?_
   rintro _ m ⟨x19654, x19656, x19658, i19655, i19657, hI, rfl⟩
   obtain ⟨ag1, hag1, h⟩ : ∃ ag, (∀ s', ag s' → ∃ m', m' < m ∧ Inv s' m') ∧ palinoderef11_times_l1 x3 c_palinoderef11_Reach x1 x2 ag x19654 x19656 x19658 r := ⟨_, fun _ h => h, hS (x19654, x19656, x19658) _ hI⟩
   clear hS hI
   refine xseq ?_
   refine sr_ ?_
   refine mv_ ?_
   refine vp_ (pv_lenM UndC.h rfl) ?_
   refine vp_ (pv_bin2 rfl rfl rfl) ?_
   refine nt_ ?_
   by_cases hp24575 : 0 < (x19656.length : Int)
   ·replace h := h.1 hp24575
    refine xcondT' (decide_eq_true hp24575) rfl ?_
    refine xskipc ?_
    refine xthen ?_
    refine xseq ?_
    refine xblock ?_
    refine xseqM (fun σ => ∃ (x27103 : List (Int × (Arr 10 (Int × Int)))), ∃ (i27104 : Option (Nat × Nat)), palinoderef11_times_j2 x19656 c_palinoderef11_Reach x1 x2 x3 x19658 ag1 x27103 r ∧ σ = ⟨[(1, .sl 1 none (List.map eb x2)), (4, .v (.pointer (some ⟨b4, 0, none⟩))), (6, .v (.pointer (some ⟨b6, 0, none⟩))), (9, .sl 21 (some i27104) (List.map E_palinode_palinoderef11_Point x27103)), (10, .sl 21 (some i19657) (List.map E_palinode_palinoderef11_Point x19656)), (11, .v (.int .i64 x19658))], [⟨b6, 45, ([.v (.int .i64 x3.1), .v (.int .i64 x3.2.1), .v (.int .i64 x3.2.2.1), .v (.int .i64 x3.2.2.2.1), .v (.int .i64 x3.2.2.2.2.1), .v (.int .i64 x3.2.2.2.2.2.1)] ++ (List.map ew x3.2.2.2.2.2.2.l).flatten)⟩, ⟨b4, 24, [.sl 10 none (List.map E_palinode_api_Node x1.1), .v (.int .i64 x1.2)]⟩], [⟨i27104, 58, 21, x27103.length⟩, ⟨i19657, 58, 21, x19656.length⟩]⟩) ?_ ?_
    ·refine xseq ?_
     refine xregion ?_
     refine as_ ?_
     refine nt_ ?_
     refine xblock ?_
     obtain ⟨Inv, ⟨m0, hI⟩, hS⟩ := h
     refine xloop (fun σ m => ∃ (x27129 : List (Int × (Arr 10 (Int × Int)))), ∃ (x27131 : Int), ∃ (i27130 : Option (Nat × Nat)), Inv (x27129, x27131) m ∧ σ = ⟨[(1, .sl 1 none (List.map eb x2)), (4, .v (.pointer (some ⟨b4, 0, none⟩))), (6, .v (.pointer (some ⟨b6, 0, none⟩))), (9, .sl 21 (some i27130) (List.map E_palinode_palinoderef11_Point x27129)), (10, .sl 21 (some i19657) (List.map E_palinode_palinoderef11_Point x19656)), (11, .v (.int .i64 x19658)), (12, .v (.int .i64 x27131))], [⟨b6, 45, ([.v (.int .i64 x3.1), .v (.int .i64 x3.2.1), .v (.int .i64 x3.2.2.1), .v (.int .i64 x3.2.2.2.1), .v (.int .i64 x3.2.2.2.2.1), .v (.int .i64 x3.2.2.2.2.2.1)] ++ (List.map ew x3.2.2.2.2.2.2.l).flatten)⟩, ⟨b4, 24, [.sl 10 none (List.map E_palinode_api_Node x1.1), .v (.int .i64 x1.2)]⟩], [⟨i27130, 58, 21, x27129.length⟩, ⟨i19657, 58, 21, x19656.length⟩]⟩) ⟨x19654, 0, i19655, hI, rfl⟩ (by exact ⟨lk_, (SubM.of (.keep rfl rfl (.refl _) (.keep rfl rfl (.refl _) (.nil _))) (.keep rfl (.keep rfl (.nil _))))⟩) ?_
     rintro _ m ⟨x27129, x27131, i27130, hI, rfl⟩
     obtain ⟨ag3, hag3, h⟩ : ∃ ag, (∀ s', ag s' → ∃ m', m' < m ∧ Inv s' m') ∧ palinoderef11_times_l3 x19656 x3 x19658 c_palinoderef11_Reach x1 x2 ag1 ag x27129 x27131 r := ⟨_, fun _ h => h, hS (x27129, x27131) _ hI⟩
     clear hS hI
     refine xseq ?_
     refine sr_ ?_
     refine mv_ ?_
     refine mv_ ?_
     refine vp_ (pv_lenM UndC.h rfl) ?_
     refine vp_ (pv_bin2 rfl rfl rfl) ?_
     refine mv_ ?_
     by_cases hp27171 : x27131 < (x19656.length : Int)
     ·replace h := h.1 hp27171
      refine xsetB 28 (decide_eq_true hp27171) rfl ?_
      refine mv_ ?_
      refine vp_ (qv_fieldAddrB FldC.h rfl) ?_
      refine v_ (qv_loadB 0 ShpC.h rfl rfl rfl rfl) ?_
      refine vp_ (pv_bin2 rfl rfl rfl) ?_
      refine pk_ ?_
      refine nt_ ?_
      by_cases hp27173 : x3.2.2.2.1 ≤ x19658
      ·replace h := h.1 hp27173
       refine xcondT' (decide_eq_true hp27173) rfl ?_
       refine xskipc ?_
       refine xthen ?_
       refine xseq ?_
       refine xblock ?_
       refine xregion ?_
       refine mv_ ?_
       refine mv_ ?_
       refine mv_ ?_
       obtain ⟨h27175a, h⟩ := h
       obtain ⟨y27174, h27175b, h⟩ := h
       refine vp_ (pv_indexAddrM h27175a h27175b UndC.h ShpC.h rfl rfl) ?_
       refine v_ (qv_loadEP ([.v (.int .i64 y27174.1)] ++ (List.map E_palinode_api_Span y27174.2.l).flatten) [] sq_ sl_ (part_all sl_) ShpC.h rfl) ?_
       obtain ⟨y27177, h27176, h⟩ := h
       refine xcallF (Fb := [⟨b6, 45, ([.v (.int .i64 x3.1), .v (.int .i64 x3.2.1), .v (.int .i64 x3.2.2.1), .v (.int .i64 x3.2.2.2.1), .v (.int .i64 x3.2.2.2.2.1), .v (.int .i64 x3.2.2.2.2.2.1)] ++ (List.map ew x3.2.2.2.2.2.2.l).flatten)⟩, ⟨b4, 24, [.sl 10 none (List.map E_palinode_api_Node x1.1), .v (.int .i64 x1.2)]⟩]) (Ft := [⟨i19657, 58, 21, x19656.length⟩]) (palinoderef11_with_con x27129 y27174 i27130 _ h27176) Try.func17 (by kernel_rfl) rfl (.cons rfl (.refl _) (.cons rfl (.refl _) .nil)) (by exact sm_) rfl rfl ?_
       rintro _ _ _ ⟨i27178, rfl, rfl, rfl⟩
       simp only [List.nil_append, List.cons_append]
       refine as_ ?_
       refine xnil ?_
       refine xin_normal ?_
       refine xthen ?_
       refine xregion ?_
       refine mv_ ?_
       obtain ⟨h27179, h⟩ := h
       refine vp_ (pv_addI h27179 rfl rfl) ?_
       refine as_ ?_
       refine xnil ?_
       obtain ⟨m', hm, hI⟩ := hag3 _ h
       exact xagain ⟨y27177, (x27131 + 1), i27178, hI, rfl⟩ hm ⟨lk_, (SubM.of (.keep rfl rfl (.refl _) (.keep rfl rfl (.refl _) (.nil _))) (.keep rfl (.keep rfl (.nil _))))⟩
      ·replace h := h.2 hp27173
       refine xcondF' (decide_eq_false hp27173) rfl ?_
       refine xexit ?_
       refine xthen_exit ?_
       refine xthen_exit ?_
       refine xin_same rfl ?_
       exact xmeet ⟨x27129, i27130, h, rfl⟩ ⟨lk_, (SubM.of (.keep rfl rfl (.refl _) (.keep rfl rfl (.refl _) (.nil _))) (.keep rfl (.keep rfl (.nil _))))⟩
     ·replace h := h.2 hp27171
      refine xsetB 28 (decide_eq_false hp27171) rfl ?_
      refine sk_ ?_
      refine sk_ ?_
      refine sk_ ?_
      refine sk_ ?_
      refine pk_ ?_
      refine nt_ ?_
      refine xcondF rfl ?_
      refine xexit ?_
      refine xthen_exit ?_
      refine xthen_exit ?_
      refine xin_same rfl ?_
      exact xmeet ⟨x27129, i27130, h, rfl⟩ ⟨lk_, (SubM.of (.keep rfl rfl (.refl _) (.keep rfl rfl (.refl _) (.nil _))) (.keep rfl (.keep rfl (.nil _))))⟩
    ·clear h
     rintro _ ⟨x27103, i27104, h, rfl⟩
     unfold palinoderef11_times_j2 at h
     refine xseq ?_
     refine xseqM (fun σ => ∃ (x27191 : Bool), palinoderef11_times_j4 x27103 x19656 c_palinoderef11_Reach x1 x2 x3 x19658 ag1 x27191 r ∧ σ = ⟨[(1, .sl 1 none (List.map eb x2)), (4, .v (.pointer (some ⟨b4, 0, none⟩))), (6, .v (.pointer (some ⟨b6, 0, none⟩))), (9, .sl 21 (some i27104) (List.map E_palinode_palinoderef11_Point x27103)), (10, .sl 21 (some i19657) (List.map E_palinode_palinoderef11_Point x19656)), (11, .v (.int .i64 x19658)), (50, .v (.bool x27191))], [⟨b6, 45, ([.v (.int .i64 x3.1), .v (.int .i64 x3.2.1), .v (.int .i64 x3.2.2.1), .v (.int .i64 x3.2.2.2.1), .v (.int .i64 x3.2.2.2.2.1), .v (.int .i64 x3.2.2.2.2.2.1)] ++ (List.map ew x3.2.2.2.2.2.2.l).flatten)⟩, ⟨b4, 24, [.sl 10 none (List.map E_palinode_api_Node x1.1), .v (.int .i64 x1.2)]⟩], [⟨i27104, 58, 21, x27103.length⟩, ⟨i19657, 58, 21, x19656.length⟩]⟩) ?_ ?_
     ·refine xregion ?_
      refine vp_ (qv_fieldAddrB FldC.h rfl) ?_
      refine v_ (qv_loadB 0 ShpC.h rfl rfl rfl rfl) ?_
      refine vp_ (pv_bin2 rfl rfl rfl) ?_
      refine mv_ ?_
      by_cases hp27193 : 0 ≤ x3.2.2.2.2.1
      ·rw [and_tt (show (decide (0 ≤ x3.2.2.2.2.1)) = true from (decide_eq_true hp27193))] at h
       refine xsetB 45 (decide_eq_true hp27193) rfl ?_
       refine mv_ ?_
       refine vp_ (qv_fieldAddrB FldC.h rfl) ?_
       refine v_ (qv_loadB 0 ShpC.h rfl rfl rfl rfl) ?_
       refine vp_ (pv_bin2 rfl rfl rfl) ?_
       refine pk_ ?_
       refine xnil ?_
       exact xmeet ⟨(decide (x3.2.2.2.2.1 ≤ x19658)), h, rfl⟩ ⟨lk_, (SubM.of (.keep rfl rfl (.refl _) (.keep rfl rfl (.refl _) (.nil _))) (.keep rfl (.keep rfl (.nil _))))⟩
      ·rw [and_ff (show (decide (0 ≤ x3.2.2.2.2.1)) = false from (decide_eq_false hp27193))] at h
       refine xsetB 45 (decide_eq_false hp27193) rfl ?_
       refine sk_ ?_
       refine sk_ ?_
       refine sk_ ?_
       refine sk_ ?_
       refine pk_ ?_
       refine xnil ?_
       exact xmeet ⟨false, h, rfl⟩ ⟨lk_, (SubM.of (.keep rfl rfl (.refl _) (.keep rfl rfl (.refl _) (.nil _))) (.keep rfl (.keep rfl (.nil _))))⟩
     ·clear h
      rintro _ ⟨x27191, h, rfl⟩
      by_cases hp27195 : x27191 = true
      ·replace h := h.1 hp27195
       refine xcondT' hp27195 rfl ?_
       refine sr_ ?_
       refine mv_ ?_
       refine as_ ?_
       refine nt_ ?_
       refine xretc ?_
       refine xthen_ret ?_
       refine xin_ret ?_
       refine xthen_ret ?_
       refine xthen_ret ?_
       refine xin_ret ?_
       refine xthen_ret ?_
       replace h := h.symm
       subst h
       exact xret1 hg rfl rfl (.refl _) (SubM.of (.nil _) (.keep rfl (.nil _))) ⟨i27104, rfl, rfl, rfl⟩
      ·replace h := h.2 hp27195
       refine xcondF' (b_f hp27195) rfl ?_
       refine xskipc ?_
       refine xthen ?_
       refine sr_ ?_
       refine as_ ?_
       refine nt_ ?_
       refine xseq ?_
       refine sr_ ?_
       refine as_ ?_
       refine nt_ ?_
       refine xblock ?_
       obtain ⟨Inv, ⟨m0, hI⟩, hS⟩ := h
       refine xloop (fun σ m => ∃ (x28717 : List (Int × (Arr 10 (Int × Int)))), ∃ (x28719 : List (Int × (Arr 10 (Int × Int)))), ∃ (x28721 : Int), ∃ (i28718 : Option (Nat × Nat)), ∃ (i28720 : Option (Nat × Nat)), Inv (x28717, x28719, x28721) m ∧ σ = ⟨[(1, .sl 1 none (List.map eb x2)), (4, .v (.pointer (some ⟨b4, 0, none⟩))), (6, .v (.pointer (some ⟨b6, 0, none⟩))), (9, .sl 21 (some i28718) (List.map E_palinode_palinoderef11_Point x28717)), (10, .sl 21 (some i19657) (List.map E_palinode_palinoderef11_Point x19656)), (11, .v (.int .i64 x19658)), (13, .sl 21 (some i28720) (List.map E_palinode_palinoderef11_Point x28719)), (14, .v (.int .i64 x28721))], [⟨b6, 45, ([.v (.int .i64 x3.1), .v (.int .i64 x3.2.1), .v (.int .i64 x3.2.2.1), .v (.int .i64 x3.2.2.2.1), .v (.int .i64 x3.2.2.2.2.1), .v (.int .i64 x3.2.2.2.2.2.1)] ++ (List.map ew x3.2.2.2.2.2.2.l).flatten)⟩, ⟨b4, 24, [.sl 10 none (List.map E_palinode_api_Node x1.1), .v (.int .i64 x1.2)]⟩], [⟨i28718, 58, 21, x28717.length⟩, ⟨i28720, 58, 21, x28719.length⟩, ⟨i19657, 58, 21, x19656.length⟩]⟩) ⟨x27103, ([] : List (Int × (Arr 10 (Int × Int)))), 0, i27104, none, hI, rfl⟩ (by exact ⟨(.cons rfl (.refl _) (.cons rfl (.refl _) (.cons rfl (.refl _) (.cons rfl (.refl _) (.cons rfl (.refl _) (.cons rfl (.refl _) (.cons rfl (.nil_own _) (.cons rfl (.refl _) (.nil _))))))))), (SubM.of (.keep rfl rfl (.refl _) (.keep rfl rfl (.refl _) (.nil _))) (.keep rfl (.add (.keep rfl (.nil _)))))⟩) ?_
       rintro _ m ⟨x28717, x28719, x28721, i28718, i28720, hI, rfl⟩
       obtain ⟨ag5, hag5, h⟩ : ∃ ag, (∀ s', ag s' → ∃ m', m' < m ∧ Inv s' m') ∧ palinoderef11_times_l5 x19656 c_palinoderef11_Reach x1 x2 x3 x19658 ag1 ag x28717 x28719 x28721 r := ⟨_, fun _ h => h, hS (x28717, x28719, x28721) _ hI⟩
       clear hS hI
       refine xseq ?_
       refine sr_ ?_
       refine mv_ ?_
       refine mv_ ?_
       refine vp_ (pv_lenM UndC.h rfl) ?_
       refine vp_ (pv_bin2 rfl rfl rfl) ?_
       refine nt_ ?_
       by_cases hp29106 : x28721 < (x19656.length : Int)
       ·replace h := h.1 hp29106
        refine xcondT' (decide_eq_true hp29106) rfl ?_
        refine xskipc ?_
        refine xthen ?_
        refine xseq ?_
        refine xblock ?_
        refine xseq ?_
        refine xregionD (m := 10) (by kernel_rfl) rfl ?_
        obtain ⟨h29299a, h⟩ := h
        obtain ⟨y29298, h29299b, h⟩ := h
        obtain ⟨y29301, h29300, h⟩ := h
        refine pl_ 1 rfl (pv_move rfl) ?_
        refine pl_ 2 rfl (qv_fieldAddrB FldC.h rfl) ?_
        refine pl_ 4 rfl (pv_move rfl) ?_
        refine pl_ 5 rfl (pv_move rfl) ?_
        refine pl_ 6 rfl (pv_indexAddrM h29299a h29299b UndC.h ShpC.h rfl rfl) ?_
        refine xpvalE 0 [3, 7] rfl (qv_loadB 1 ShpC.h rfl rfl rfl rfl) rfl rfl (by kernel_rfl) (by kernel_rfl) (by kernel_rfl) (fun _ _ _ _ h => h) ?_
        refine xpvalE 3 [7] rfl (qv_loadB 0 ShpC.h rfl rfl rfl rfl) rfl rfl (by kernel_rfl) (by kernel_rfl) (by kernel_rfl) (fun _ _ _ _ h => h) ?_
        refine xpvalE 7 [] rfl (qv_loadEP ([.v (.int .i64 y29298.1)] ++ (List.map E_palinode_api_Span y29298.2.l).flatten) [] sq_ sl_ (part_all sl_) ShpC.h rfl) rfl rfl (by kernel_rfl) (by kernel_rfl) (by kernel_rfl) (fun _ _ _ _ h => h) ?_
        refine xpstep (i := 8) (by kernel_rfl) rfl ?_
        obtain ⟨m29300, hm29300, h29300⟩ := hc_palinoderef11_Reach _ _ _ _ _ h29300
        refine wcallM ((ih m29300 hm29300).1 x1 x2 x3.2.1 y29298 _ h29300) Try.func11 (by kernel_rfl) rfl (.cons rfl (.refl _) (.cons rfl (.refl _) (.cons rfl (.refl _) (.cons rfl (.refl _) .nil)))) rfl rfl fun i29302 => ?_
        refine pl_ 9 rfl (pv_assign rfl) ?_
        refine xpdone (by kernel_rfl) ?_
        refine xthen ?_
        refine sr_ ?_
        refine as_ ?_
        refine nt_ ?_
        refine xblock ?_
        obtain ⟨Inv, ⟨m0, hI⟩, hS⟩ := h
        refine xloop (fun σ m => ∃ (x29360 : List (Int × (Arr 10 (Int × Int)))), ∃ (x29362 : List (Int × (Arr 10 (Int × Int)))), ∃ (x29364 : Int), ∃ (i29361 : Option (Nat × Nat)), ∃ (i29363 : Option (Nat × Nat)), Inv (x29360, x29362, x29364) m ∧ σ = ⟨[(1, .sl 1 none (List.map eb x2)), (4, .v (.pointer (some ⟨b4, 0, none⟩))), (6, .v (.pointer (some ⟨b6, 0, none⟩))), (9, .sl 21 (some i29361) (List.map E_palinode_palinoderef11_Point x29360)), (10, .sl 21 (some i19657) (List.map E_palinode_palinoderef11_Point x19656)), (11, .v (.int .i64 x19658)), (13, .sl 21 (some i29363) (List.map E_palinode_palinoderef11_Point x29362)), (14, .v (.int .i64 x28721)), (15, .sl 21 (some i29302) (List.map E_palinode_palinoderef11_Point y29301)), (16, .v (.int .i64 x29364))], [⟨b6, 45, ([.v (.int .i64 x3.1), .v (.int .i64 x3.2.1), .v (.int .i64 x3.2.2.1), .v (.int .i64 x3.2.2.2.1), .v (.int .i64 x3.2.2.2.2.1), .v (.int .i64 x3.2.2.2.2.2.1)] ++ (List.map ew x3.2.2.2.2.2.2.l).flatten)⟩, ⟨b4, 24, [.sl 10 none (List.map E_palinode_api_Node x1.1), .v (.int .i64 x1.2)]⟩], [⟨i29302, 58, 21, y29301.length⟩, ⟨i29361, 58, 21, x29360.length⟩, ⟨i29363, 58, 21, x29362.length⟩, ⟨i19657, 58, 21, x19656.length⟩]⟩) ⟨x28717, x28719, 0, i28718, i28720, hI, rfl⟩ (by exact ⟨lk_, (SubM.of (.keep rfl rfl (.refl _) (.keep rfl rfl (.refl _) (.nil _))) (.keep rfl (.keep rfl (.keep rfl (.keep rfl (.nil _))))))⟩) ?_
        rintro _ m ⟨x29360, x29362, x29364, i29361, i29363, hI, rfl⟩
        obtain ⟨ag6, hag6, h⟩ : ∃ ag, (∀ s', ag s' → ∃ m', m' < m ∧ Inv s' m') ∧ palinoderef11_times_l6 y29301 x28721 x19656 x19658 x3 ag5 ag x29360 x29362 x29364 r := ⟨_, fun _ h => h, hS (x29360, x29362, x29364) _ hI⟩
        clear hS hI
        refine xseq ?_
        refine sr_ ?_
        refine mv_ ?_
        refine mv_ ?_
        refine vp_ (pv_lenM UndC.h rfl) ?_
        refine vp_ (pv_bin2 rfl rfl rfl) ?_
        refine nt_ ?_
        by_cases hp29427 : x29364 < (y29301.length : Int)
        ·replace h := h.1 hp29427
         refine xcondT' (decide_eq_true hp29427) rfl ?_
         refine xskipc ?_
         refine xthen ?_
         refine xseqM (fun σ => ∃ (x29451 : List (Int × (Arr 10 (Int × Int)))), ∃ (x29453 : List (Int × (Arr 10 (Int × Int)))), ∃ (i29452 : Option (Nat × Nat)), ∃ (i29454 : Option (Nat × Nat)), palinoderef11_times_j7 x29364 ag6 x29451 x29453 r ∧ σ = ⟨[(1, .sl 1 none (List.map eb x2)), (4, .v (.pointer (some ⟨b4, 0, none⟩))), (6, .v (.pointer (some ⟨b6, 0, none⟩))), (9, .sl 21 (some i29452) (List.map E_palinode_palinoderef11_Point x29451)), (10, .sl 21 (some i19657) (List.map E_palinode_palinoderef11_Point x19656)), (11, .v (.int .i64 x19658)), (13, .sl 21 (some i29454) (List.map E_palinode_palinoderef11_Point x29453)), (14, .v (.int .i64 x28721)), (15, .sl 21 (some i29302) (List.map E_palinode_palinoderef11_Point y29301)), (16, .v (.int .i64 x29364))], [⟨b6, 45, ([.v (.int .i64 x3.1), .v (.int .i64 x3.2.1), .v (.int .i64 x3.2.2.1), .v (.int .i64 x3.2.2.2.1), .v (.int .i64 x3.2.2.2.2.1), .v (.int .i64 x3.2.2.2.2.2.1)] ++ (List.map ew x3.2.2.2.2.2.2.l).flatten)⟩, ⟨b4, 24, [.sl 10 none (List.map E_palinode_api_Node x1.1), .v (.int .i64 x1.2)]⟩], [⟨i29454, 58, 21, x29453.length⟩, ⟨i29302, 58, 21, y29301.length⟩, ⟨i29452, 58, 21, x29451.length⟩, ⟨i19657, 58, 21, x19656.length⟩]⟩) ?_ ?_
         ·refine xblock ?_
          refine xseq ?_
          refine xregionD (m := 11) (by kernel_rfl) rfl ?_
          obtain ⟨h29461a, h⟩ := h
          obtain ⟨y29460, h29461b, h⟩ := h
          obtain ⟨h29463a, h⟩ := h
          obtain ⟨y29462, h29463b, h⟩ := h
          refine pl_ 0 rfl (pv_move rfl) ?_
          refine pl_ 1 rfl (pv_move rfl) ?_
          refine pl_ 2 rfl (pv_indexAddrM h29461a h29461b UndC.h ShpC.h rfl rfl) ?_
          refine pl_ 3 rfl (qv_fieldAddrE FldC.h rfl) ?_
          refine pl_ 5 rfl (pv_move rfl) ?_
          refine pl_ 6 rfl (pv_move rfl) ?_
          refine pl_ 7 rfl (pv_indexAddrM h29463a h29463b UndC.h ShpC.h rfl rfl) ?_
          refine pl_ 8 rfl (qv_fieldAddrE FldC.h rfl) ?_
          refine xpvalE 4 [9] rfl (qv_load ShpC.h rfl rfl rfl) rfl rfl (by kernel_rfl) (by kernel_rfl) (by kernel_rfl) (fun _ _ _ _ h => h) ?_
          refine xpvalE 9 [] rfl (qv_load ShpC.h rfl rfl rfl) rfl rfl (by kernel_rfl) (by kernel_rfl) (by kernel_rfl) (fun _ _ _ _ h => h) ?_
          refine pl_ 10 rfl (pv_bin2 rfl rfl rfl) ?_
          refine xpdone (by kernel_rfl) ?_
          refine xthen ?_
          by_cases hp29465 : ¬ (y29460.1 = y29462.1)
          ·replace h := h.1 hp29465
           refine xcondT' (not_t (decide_eq_false hp29465)) rfl ?_
           refine xregion ?_
           refine mv_ ?_
           refine mv_ ?_
           refine mv_ ?_
           obtain ⟨h29467a, h⟩ := h
           obtain ⟨y29466, h29467b, h⟩ := h
           refine vp_ (pv_indexAddrM h29467a h29467b UndC.h ShpC.h rfl rfl) ?_
           refine v_ (qv_loadEP ([.v (.int .i64 y29466.1)] ++ (List.map E_palinode_api_Span y29466.2.l).flatten) [] sq_ sl_ (part_all sl_) ShpC.h rfl) ?_
           obtain ⟨y29469, h29468, h⟩ := h
           refine xcallF (Fb := [⟨b6, 45, ([.v (.int .i64 x3.1), .v (.int .i64 x3.2.1), .v (.int .i64 x3.2.2.1), .v (.int .i64 x3.2.2.2.1), .v (.int .i64 x3.2.2.2.2.1), .v (.int .i64 x3.2.2.2.2.2.1)] ++ (List.map ew x3.2.2.2.2.2.2.l).flatten)⟩, ⟨b4, 24, [.sl 10 none (List.map E_palinode_api_Node x1.1), .v (.int .i64 x1.2)]⟩]) (Ft := [⟨i29302, 58, 21, y29301.length⟩, ⟨i29361, 58, 21, x29360.length⟩, ⟨i19657, 58, 21, x19656.length⟩]) (palinoderef11_with_con x29362 y29466 i29363 _ h29468) Try.func17 (by kernel_rfl) rfl (.cons rfl (.refl _) (.cons rfl (.refl _) .nil)) (by refine SubM.trans (SubM.mvT 2 rfl) ?_; (simp only [List.eraseIdx]); exact sm_) rfl rfl ?_
           rintro _ _ _ ⟨i29470, rfl, rfl, rfl⟩
           simp only [List.nil_append, List.cons_append]
           refine as_ ?_
           refine xnil ?_
           refine xin_normal ?_
           exact xmeet ⟨x29360, y29469, i29361, i29470, h, rfl⟩ ⟨lk_, (SubM.of (.keep rfl rfl (.refl _) (.keep rfl rfl (.refl _) (.nil _))) (.keep rfl (.keep rfl (.keep rfl (.keep rfl (.nil _))))))⟩
          ·replace h := h.2 hp29465
           refine xcondF' (not_f (decide_eq_true (Decidable.of_not_not hp29465))) rfl ?_
           refine sr_ ?_
           refine mv_ ?_
           refine vp_ (qv_fieldAddrB FldC.h rfl) ?_
           refine v_ (qv_loadB 0 ShpC.h rfl rfl rfl rfl) ?_
           refine vp_ (pv_bin2 rfl rfl rfl) ?_
           refine nt_ ?_
           by_cases hp29472 : x19658 < x3.2.2.2.1
           ·replace h := h.1 hp29472
            refine xcondT' (decide_eq_true hp29472) rfl ?_
            refine xregion ?_
            refine mv_ ?_
            refine mv_ ?_
            refine mv_ ?_
            obtain ⟨h29474a, h⟩ := h
            obtain ⟨y29473, h29474b, h⟩ := h
            refine vp_ (pv_indexAddrM h29474a h29474b UndC.h ShpC.h rfl rfl) ?_
            refine v_ (qv_loadEP ([.v (.int .i64 y29473.1)] ++ (List.map E_palinode_api_Span y29473.2.l).flatten) [] sq_ sl_ (part_all sl_) ShpC.h rfl) ?_
            obtain ⟨y29476, h29475, h⟩ := h
            refine xcallF (Fb := [⟨b6, 45, ([.v (.int .i64 x3.1), .v (.int .i64 x3.2.1), .v (.int .i64 x3.2.2.1), .v (.int .i64 x3.2.2.2.1), .v (.int .i64 x3.2.2.2.2.1), .v (.int .i64 x3.2.2.2.2.2.1)] ++ (List.map ew x3.2.2.2.2.2.2.l).flatten)⟩, ⟨b4, 24, [.sl 10 none (List.map E_palinode_api_Node x1.1), .v (.int .i64 x1.2)]⟩]) (Ft := [⟨i29302, 58, 21, y29301.length⟩, ⟨i29363, 58, 21, x29362.length⟩, ⟨i19657, 58, 21, x19656.length⟩]) (palinoderef11_with_con x29360 y29473 i29361 _ h29475) Try.func17 (by kernel_rfl) rfl (.cons rfl (.refl _) (.cons rfl (.refl _) .nil)) (by refine SubM.trans (SubM.mvT 1 rfl) ?_; (simp only [List.eraseIdx]); exact sm_) rfl rfl ?_
            rintro _ _ _ ⟨i29477, rfl, rfl, rfl⟩
            simp only [List.nil_append, List.cons_append]
            refine as_ ?_
            refine xnil ?_
            refine xin_normal ?_
            exact xmeet ⟨y29476, x29362, i29477, i29363, h, rfl⟩ ⟨lk_, by refine SubM.trans (SubM.mvT 3 rfl) ?_; refine SubM.trans (SubM.mvT 1 rfl) ?_; refine SubM.trans (SubM.mvT 2 rfl) ?_; refine SubM.trans (SubM.mvT 3 rfl) ?_; (simp only [List.eraseIdx]); exact sm_⟩
           ·replace h := h.2 hp29472
            refine xcondF' (decide_eq_false hp29472) rfl ?_
            refine xskipc ?_
            refine xin_normal ?_
            exact xmeet ⟨x29360, x29362, i29361, i29363, h, rfl⟩ ⟨lk_, by refine SubM.trans (SubM.mvT 3 rfl) ?_; refine SubM.trans (SubM.mvT 2 rfl) ?_; refine SubM.trans (SubM.mvT 2 rfl) ?_; refine SubM.trans (SubM.mvT 3 rfl) ?_; (simp only [List.eraseIdx]); exact sm_⟩
         ·clear h
          rintro _ ⟨x29451, x29453, i29452, i29454, h, rfl⟩
          refine xregion ?_
          refine mv_ ?_
          obtain ⟨h29478, h⟩ := h
          refine vp_ (pv_addI h29478 rfl rfl) ?_
          refine as_ ?_
          refine xnil ?_
          obtain ⟨m', hm, hI⟩ := hag6 _ h
          exact xagain ⟨x29451, x29453, (x29364 + 1), i29452, i29454, hI, rfl⟩ hm ⟨lk_, by refine SubM.trans (SubM.mvT 3 rfl) ?_; refine SubM.trans (SubM.mvT 1 rfl) ?_; refine SubM.trans (SubM.mvT 3 rfl) ?_; refine SubM.trans (SubM.mvT 3 rfl) ?_; (simp only [List.eraseIdx]); exact sm_⟩
        ·replace h := h.2 hp29427
         refine xcondF' (decide_eq_false hp29427) rfl ?_
         refine xexit ?_
         refine xthen_exit ?_
         refine xthen_exit ?_
         refine xin_same rfl ?_
         refine xin_normal ?_
         refine xthen ?_
         refine xregion ?_
         refine mv_ ?_
         obtain ⟨h29479, h⟩ := h
         refine vp_ (pv_addI h29479 rfl rfl) ?_
         refine as_ ?_
         refine xnil ?_
         obtain ⟨m', hm, hI⟩ := hag5 _ h
         exact xagain ⟨x29360, x29362, (x28721 + 1), i29361, i29363, hI, rfl⟩ hm ⟨lk_, (SubM.of (.keep rfl rfl (.refl _) (.keep rfl rfl (.refl _) (.nil _))) (.drop (.keep rfl (.keep rfl (.keep rfl (.nil _))))))⟩
       ·replace h := h.2 hp29106
        refine xcondF' (decide_eq_false hp29106) rfl ?_
        refine xexit ?_
        refine xthen_exit ?_
        refine xthen_exit ?_
        refine xin_same rfl ?_
        refine xthen ?_
        refine xregion ?_
        refine mv_ ?_
        refine as_ ?_
        refine xnil ?_
        refine xin_normal ?_
        refine xthen ?_
        refine xregion ?_
        refine mv_ ?_
        obtain ⟨h29480, h⟩ := h
        refine vp_ (pv_addI h29480 rfl rfl) ?_
        refine as_ ?_
        refine xnil ?_
        obtain ⟨m', hm, hI⟩ := hag1 _ h
        exact xagain ⟨x28717, x28719, (x19658 + 1), i28718, i28720, hI, rfl⟩ hm ⟨lk_, (SubM.of (.keep rfl rfl (.refl _) (.keep rfl rfl (.refl _) (.nil _))) (.keep rfl (.keep rfl (.nil _))))⟩
   ·replace h := h.2 hp24575
    refine xcondF' (decide_eq_false hp24575) rfl ?_
    refine xexit ?_
    refine xthen_exit ?_
    refine xthen_exit ?_
    refine xin_same rfl ?_
    refine xthen ?_
    refine sr_ ?_
    refine mv_ ?_
    refine as_ ?_
    refine nt_ ?_
    refine xretc ?_
    replace h := h.symm
    subst h
    exact xret1 hg rfl rfl (.refl _) (SubM.of (.nil _) (.keep rfl (.nil _))) ⟨i19655, rfl, rfl, rfl⟩
theorem palinoderef11_Reach_con (x1 : (List (Int × Int × Int × Int × Int × Int × (Arr 4 (UInt64)))) × Int) (x2 : List UInt8) (x3 : Int) (x4 : Int × (Arr 10 (Int × Int))) (r : (List (Int × (Arr 10 (Int × Int))))) (h : palinoderef11_Reach_R x1 x2 x3 x4 r) : Con Try.prog 11 [.agg [.sl 10 none (List.map E_palinode_api_Node x1.1), .v (.int .i64 x1.2)], .sl 1 none (List.map eb x2), .v (.int .i64 x3), .agg ([.v (.int .i64 x4.1)] ++ (List.map E_palinode_api_Span x4.2.l).flatten)] [] [] (RetM 21 58 E_palinode_palinoderef11_Point r) := by
 obtain ⟨S1, S2, H, m, h⟩ := h
 exact (rec_palinoderef11_Reach_con H m).1 x1 x2 x3 x4 r h
end Go.Proofs.Ytnjnbegjhklcgaa
