
/- What functions' texts ask for, and the walks that show it (printed by a program). -/
import Derived.Test.YtncnfohhjbadgaaGKp11
namespace Go.Proofs.Ytncnfohhjbadgaa
/-- palinoderef11.Ways -/
def palinoderef11_Ways_j1 (o1 : Bool × ((Arr 10 (Int × Int))) × Int × Int × Int) (f42 : Arr 10 (Int × Int)) (r : (Bool × ((Arr 10 (Int × Int))) × Int × Int × Int)) : Prop :=
 r = (true, f42, o1.2.2.1, o1.2.2.2.1, o1.2.2.2.2)
def palinoderef11_Ways_j2 (o1 : Bool × ((Arr 10 (Int × Int))) × Int × Int × Int) (x5 : Arr 10 (Int × Int)) (x4 : Int) (x46 : Bool) (r : (Bool × ((Arr 10 (Int × Int))) × Int × Int × Int)) : Prop :=
 ((x46 = true → palinoderef11_Ways_j1 o1 (Arr.set x5 (0 : Int).toNat ((o1.2.2.2.2, x4))) r) ∧ (¬ (x46 = true) → palinoderef11_Ways_j1 o1 o1.2.1 r))
def palinoderef11_Ways_j5 (f68 : Int) (y58 : Int × Int × Int × Int) (c_palinoderef11_Ways : (Bool × ((Arr 10 (Int × Int))) × Int × Int × Int) → ((List (Int × Int × Int × Int × Int × Int × (Arr 4 (UInt64)))) × Int) → (List UInt8) → (Int) → (Arr 10 (Int × Int)) → (List (Int × Int × Int × Int)) → ((Bool × ((Arr 10 (Int × Int))) × Int × Int × Int)) → Prop) (x2 : (List (Int × Int × Int × Int × Int × Int × (Arr 4 (UInt64)))) × Int) (x3 : List UInt8) (x4 : Int) (x5 : Arr 10 (Int × Int)) (x6 : List (Int × Int × Int × Int)) (f215 : Bool) (f216 : Arr 10 (Int × Int)) (f217 : Int) (f218 : Int) (f219 : Int) (r : (Bool × ((Arr 10 (Int × Int))) × Int × Int × Int)) : Prop :=
 ((f68 ≤ y58.2.2.1 → ∃ y253 : (Bool × ((Arr 10 (Int × Int))) × Int × Int × Int), c_palinoderef11_Ways (f215, f216, f217, f218, f219) x2 x3 x4 x5 (x6.drop (1 : Int).toNat) y253 ∧ r = y253) ∧ (¬ (f68 ≤ y58.2.2.1) → r = (f215, f216, f217, f218, f219)))
def palinoderef11_Ways_j6 (y58 : Int × Int × Int × Int) (x6 : List (Int × Int × Int × Int)) (f66 : Int) (x4 : Int) (c_palinoderef11_Ways : (Bool × ((Arr 10 (Int × Int))) × Int × Int × Int) → ((List (Int × Int × Int × Int × Int × Int × (Arr 4 (UInt64)))) × Int) → (List UInt8) → (Int) → (Arr 10 (Int × Int)) → (List (Int × Int × Int × Int)) → ((Bool × ((Arr 10 (Int × Int))) × Int × Int × Int)) → Prop) (o1 : Bool × ((Arr 10 (Int × Int))) × Int × Int × Int) (x2 : (List (Int × Int × Int × Int × Int × Int × (Arr 4 (UInt64)))) × Int) (x3 : List UInt8) (x5 : Arr 10 (Int × Int)) (f68 : Int) (x223 : Bool) (r : (Bool × ((Arr 10 (Int × Int))) × Int × Int × Int)) : Prop :=
 ((x223 = true → InR (y58.2.2.1 + 1) ∧ ∃ y230 : (List (Int × Int × Int × Int)), palinoderef11_row_R (x6.drop (1 : Int).toNat) ([(0, f66, 0, 0), (2, y58.2.1, (y58.2.2.1 + 1), x4)]) y230 ∧ ∃ y233 : (Bool × ((Arr 10 (Int × Int))) × Int × Int × Int), c_palinoderef11_Ways (o1.1, o1.2.1, (o1.2.2.1 + 1), o1.2.2.2.1, o1.2.2.2.2) x2 x3 x4 x5 y230 y233 ∧ palinoderef11_Ways_j5 f68 y58 c_palinoderef11_Ways x2 x3 x4 x5 x6 y233.1 y233.2.1 y233.2.2.1 y233.2.2.2.1 y233.2.2.2.2 r) ∧ (¬ (x223 = true) → palinoderef11_Ways_j5 f68 y58 c_palinoderef11_Ways x2 x3 x4 x5 x6 o1.1 o1.2.1 (o1.2.2.1 + 1) o1.2.2.2.1 o1.2.2.2.2 r))
def palinoderef11_Ways_j4 (y58 : Int × Int × Int × Int) (f68 : Int) (c_palinoderef11_Ways : (Bool × ((Arr 10 (Int × Int))) × Int × Int × Int) → ((List (Int × Int × Int × Int × Int × Int × (Arr 4 (UInt64)))) × Int) → (List UInt8) → (Int) → (Arr 10 (Int × Int)) → (List (Int × Int × Int × Int)) → ((Bool × ((Arr 10 (Int × Int))) × Int × Int × Int)) → Prop) (o1 : Bool × ((Arr 10 (Int × Int))) × Int × Int × Int) (x2 : (List (Int × Int × Int × Int × Int × Int × (Arr 4 (UInt64)))) × Int) (x3 : List UInt8) (x4 : Int) (x5 : Arr 10 (Int × Int)) (x6 : List (Int × Int × Int × Int)) (f65 : Int) (f66 : Int) (f69 : Int) (c_palinoderef11_node : (Bool × ((Arr 10 (Int × Int))) × Int × Int × Int) → ((List (Int × Int × Int × Int × Int × Int × (Arr 4 (UInt64)))) × Int) → (List UInt8) → (Int) → (Arr 10 (Int × Int)) → (Int × Int × Int × Int × Int × Int × (Arr 4 (UInt64))) → (List (Int × Int × Int × Int)) → ((Bool × ((Arr 10 (Int × Int))) × Int × Int × Int)) → Prop) (f67 : Int) (f70 : Int) (f71 : Arr 4 (UInt64)) (x107 : Bool) (r : (Bool × ((Arr 10 (Int × Int))) × Int × Int × Int)) : Prop :=
 ((x107 = true → ((y58.2.2.1 ≤ f68 → ∃ y119 : (Bool × ((Arr 10 (Int × Int))) × Int × Int × Int), c_palinoderef11_Ways (o1.1, o1.2.1, (o1.2.2.1 + 1), o1.2.2.2.1, o1.2.2.2.2) x2 x3 x4 x5 (x6.drop (1 : Int).toNat) y119 ∧ r = y119) ∧ (¬ (y58.2.2.1 ≤ f68) → r = (o1.1, o1.2.1, (o1.2.2.1 + 1), o1.2.2.2.1, o1.2.2.2.2)))) ∧ (¬ (x107 = true) → ((f65 = 4 → palinoderef11_Ways_j6 y58 x6 f66 x4 c_palinoderef11_Ways o1 x2 x3 x5 f68 ((decide (f69 = (-1))) || (decide (y58.2.2.1 < f69))) r) ∧ (¬ (f65 = 4) → ∃ y255 : (Bool × ((Arr 10 (Int × Int))) × Int × Int × Int), c_palinoderef11_node (o1.1, o1.2.1, (o1.2.2.1 + 1), o1.2.2.2.1, o1.2.2.2.2) x2 x3 x4 x5 (f65, f66, f67, f68, f69, f70, f71) (x6.drop (1 : Int).toNat) y255 ∧ r = y255))))
def palinoderef11_Ways_j3 (y58 : Int × Int × Int × Int) (x5 : Arr 10 (Int × Int)) (c_palinoderef11_Ways : (Bool × ((Arr 10 (Int × Int))) × Int × Int × Int) → ((List (Int × Int × Int × Int × Int × Int × (Arr 4 (UInt64)))) × Int) → (List UInt8) → (Int) → (Arr 10 (Int × Int)) → (List (Int × Int × Int × Int)) → ((Bool × ((Arr 10 (Int × Int))) × Int × Int × Int)) → Prop) (o1 : Bool × ((Arr 10 (Int × Int))) × Int × Int × Int) (x2 : (List (Int × Int × Int × Int × Int × Int × (Arr 4 (UInt64)))) × Int) (x3 : List UInt8) (x4 : Int) (x6 : List (Int × Int × Int × Int)) (c_palinoderef11_node : (Bool × ((Arr 10 (Int × Int))) × Int × Int × Int) → ((List (Int × Int × Int × Int × Int × Int × (Arr 4 (UInt64)))) × Int) → (List UInt8) → (Int) → (Arr 10 (Int × Int)) → (Int × Int × Int × Int × Int × Int × (Arr 4 (UInt64))) → (List (Int × Int × Int × Int)) → ((Bool × ((Arr 10 (Int × Int))) × Int × Int × Int)) → Prop) (f65 : Int) (f66 : Int) (f67 : Int) (f68 : Int) (f69 : Int) (f70 : Int) (f71 : Arr 4 (UInt64)) (r : (Bool × ((Arr 10 (Int × Int))) × Int × Int × Int)) : Prop :=
 ((y58.1 = 1 → (0 ≤ (y58.2.1 : Int) ∧ (y58.2.1 : Int) < 10) ∧ ∃ y85 : Int × Int, x5.l[(y58.2.1 : Int).toNat]? = some y85 ∧ ∃ y87 : (Bool × ((Arr 10 (Int × Int))) × Int × Int × Int), c_palinoderef11_Ways (o1.1, o1.2.1, (o1.2.2.1 + 1), o1.2.2.2.1, o1.2.2.2.2) x2 x3 x4 (Arr.set x5 (y58.2.1 : Int).toNat ((y58.2.2.2, x4))) (x6.drop (1 : Int).toNat) y87 ∧ r = y87) ∧ (¬ (y58.1 = 1) → palinoderef11_Ways_j4 y58 f68 c_palinoderef11_Ways o1 x2 x3 x4 x5 x6 f65 f66 f69 c_palinoderef11_node f67 f70 f71 ((decide (y58.1 = 2)) && (decide (x4 = y58.2.2.2))) r))
def palinoderef11_Ways_B (c_palinoderef11_Ways : (Bool × ((Arr 10 (Int × Int))) × Int × Int × Int) → ((List (Int × Int × Int × Int × Int × Int × (Arr 4 (UInt64)))) × Int) → (List UInt8) → (Int) → (Arr 10 (Int × Int)) → (List (Int × Int × Int × Int)) → ((Bool × ((Arr 10 (Int × Int))) × Int × Int × Int)) → Prop) (c_palinoderef11_node : (Bool × ((Arr 10 (Int × Int))) × Int × Int × Int) → ((List (Int × Int × Int × Int × Int × Int × (Arr 4 (UInt64)))) × Int) → (List UInt8) → (Int) → (Arr 10 (Int × Int)) → (Int × Int × Int × Int × Int × Int × (Arr 4 (UInt64))) → (List (Int × Int × Int × Int)) → ((Bool × ((Arr 10 (Int × Int))) × Int × Int × Int)) → Prop) (o1 : Bool × ((Arr 10 (Int × Int))) × Int × Int × Int) (x2 : (List (Int × Int × Int × Int × Int × Int × (Arr 4 (UInt64)))) × Int) (x3 : List UInt8) (x4 : Int) (x5 : Arr 10 (Int × Int)) (x6 : List (Int × Int × Int × Int)) (r : (Bool × ((Arr 10 (Int × Int))) × Int × Int × Int)) : Prop :=
 (((x6.length : Int) = 0 → (0 ≤ (0 : Int) ∧ (0 : Int) < 10) ∧ ∃ y33 : Int × Int, x5.l[(0 : Int).toNat]? = some y33 ∧ ((¬ (o1.1 = true) → palinoderef11_Ways_j2 o1 x5 x4 true r) ∧ (¬ (¬ (o1.1 = true)) → ∃ y49 : Bool, palinoderef11_Better_R (Arr.set x5 (0 : Int).toNat ((o1.2.2.2.2, x4))) o1.2.1 y49 ∧ palinoderef11_Ways_j2 o1 x5 x4 y49 r))) ∧ (¬ ((x6.length : Int) = 0) → InR (o1.2.2.1 + 1) ∧ ((o1.2.2.2.1 < (o1.2.2.1 + 1) → r = (o1.1, o1.2.1, (o1.2.2.1 + 1), o1.2.2.2.1, o1.2.2.2.2)) ∧ (¬ (o1.2.2.2.1 < (o1.2.2.1 + 1)) → 0 ≤ (0 : Int) ∧ ∃ y58 : Int × Int × Int × Int, x6[(0 : Int).toNat]? = some y58 ∧ (0 ≤ (1 : Int) ∧ (1 : Int) ≤ (x6.length : Int)) ∧ ((¬ (y58.1 = 1) → 0 ≤ (y58.2.1 : Int) ∧ ∃ y74 : Int × Int × Int × Int × Int × Int × (Arr 4 (UInt64)), x2.1[(y58.2.1 : Int).toNat]? = some y74 ∧ palinoderef11_Ways_j3 y58 x5 c_palinoderef11_Ways o1 x2 x3 x4 x6 c_palinoderef11_node y74.1 y74.2.1 y74.2.2.1 y74.2.2.2.1 y74.2.2.2.2.1 y74.2.2.2.2.2.1 y74.2.2.2.2.2.2 r) ∧ (¬ (¬ (y58.1 = 1)) → palinoderef11_Ways_j3 y58 x5 c_palinoderef11_Ways o1 x2 x3 x4 x6 c_palinoderef11_node 0 0 0 0 0 0 (Arr.rep 4 (0 : UInt64)) r))))))
def palinoderef11_node_j1 (x4 : Int) (c_palinoderef11_Ways : (Bool × ((Arr 10 (Int × Int))) × Int × Int × Int) → ((List (Int × Int × Int × Int × Int × Int × (Arr 4 (UInt64)))) × Int) → (List UInt8) → (Int) → (Arr 10 (Int × Int)) → (List (Int × Int × Int × Int)) → ((Bool × ((Arr 10 (Int × Int))) × Int × Int × Int)) → Prop) (o1 : Bool × ((Arr 10 (Int × Int))) × Int × Int × Int) (x2 : (List (Int × Int × Int × Int × Int × Int × (Arr 4 (UInt64)))) × Int) (x3 : List UInt8) (x5 : Arr 10 (Int × Int)) (x7 : List (Int × Int × Int × Int)) (x17 : Bool) (r : (Bool × ((Arr 10 (Int × Int))) × Int × Int × Int)) : Prop :=
 ((x17 = true → InR (x4 + 1) ∧ ∃ y28 : (Bool × ((Arr 10 (Int × Int))) × Int × Int × Int), c_palinoderef11_Ways o1 x2 x3 (x4 + 1) x5 x7 y28 ∧ r = y28) ∧ (¬ (x17 = true) → r = o1))
def palinoderef11_node_B (c_palinoderef11_Ways : (Bool × ((Arr 10 (Int × Int))) × Int × Int × Int) → ((List (Int × Int × Int × Int × Int × Int × (Arr 4 (UInt64)))) × Int) → (List UInt8) → (Int) → (Arr 10 (Int × Int)) → (List (Int × Int × Int × Int)) → ((Bool × ((Arr 10 (Int × Int))) × Int × Int × Int)) → Prop) (c_palinoderef11_node : (Bool × ((Arr 10 (Int × Int))) × Int × Int × Int) → ((List (Int × Int × Int × Int × Int × Int × (Arr 4 (UInt64)))) × Int) → (List UInt8) → (Int) → (Arr 10 (Int × Int)) → (Int × Int × Int × Int × Int × Int × (Arr 4 (UInt64))) → (List (Int × Int × Int × Int)) → ((Bool × ((Arr 10 (Int × Int))) × Int × Int × Int)) → Prop) (o1 : Bool × ((Arr 10 (Int × Int))) × Int × Int × Int) (x2 : (List (Int × Int × Int × Int × Int × Int × (Arr 4 (UInt64)))) × Int) (x3 : List UInt8) (x4 : Int) (x5 : Arr 10 (Int × Int)) (x6 : Int × Int × Int × Int × Int × Int × (Arr 4 (UInt64))) (x7 : List (Int × Int × Int × Int)) (r : (Bool × ((Arr 10 (Int × Int))) × Int × Int × Int)) : Prop :=
 ((x6.1 = 1 → ((x4 < (x3.length : Int) → 0 ≤ (x4 : Int) ∧ ∃ y21 : UInt8, x3[(x4 : Int).toNat]? = some y21 ∧ ∃ y24 : Bool, palinoderef05_Has_R x6.2.2.2.2.2.2 y21 y24 ∧ palinoderef11_node_j1 x4 c_palinoderef11_Ways o1 x2 x3 x5 x7 y24 r) ∧ (¬ (x4 < (x3.length : Int)) → palinoderef11_node_j1 x4 c_palinoderef11_Ways o1 x2 x3 x5 x7 false r))) ∧ (¬ (x6.1 = 1) → ((x6.1 = 2 → ∃ y32 : (List (Int × Int × Int × Int)), palinoderef11_row_R x7 ([(0, x6.2.1, 0, 0), (0, x6.2.2.1, 0, 0)]) y32 ∧ ∃ y35 : (Bool × ((Arr 10 (Int × Int))) × Int × Int × Int), c_palinoderef11_Ways o1 x2 x3 x4 x5 y32 y35 ∧ r = y35) ∧ (¬ (x6.1 = 2) → ((x6.1 = 3 → ∃ y50 : (List (Int × Int × Int × Int)), palinoderef11_row_R x7 ([(0, x6.2.1, 0, 0)]) y50 ∧ ∃ y53 : (Bool × ((Arr 10 (Int × Int))) × Int × Int × Int), c_palinoderef11_Ways o1 x2 x3 x4 x5 y50 y53 ∧ ∃ y55 : (List (Int × Int × Int × Int)), palinoderef11_row_R x7 ([(0, x6.2.2.1, 0, 0)]) y55 ∧ ∃ y58 : (Bool × ((Arr 10 (Int × Int))) × Int × Int × Int), c_palinoderef11_Ways y53 x2 x3 x4 x5 y55 y58 ∧ r = y58) ∧ (¬ (x6.1 = 3) → ((x6.1 = 5 → ∃ y62 : (List (Int × Int × Int × Int)), palinoderef11_row_R x7 ([(0, x6.2.1, 0, 0), (1, x6.2.2.2.2.2.1, 0, x4)]) y62 ∧ ∃ y65 : (Bool × ((Arr 10 (Int × Int))) × Int × Int × Int), c_palinoderef11_Ways o1 x2 x3 x4 x5 y62 y65 ∧ r = y65) ∧ (¬ (x6.1 = 5) → ((x6.1 = 6 → (0 ≤ (x6.2.2.2.2.2.1 : Int) ∧ (x6.2.2.2.2.2.1 : Int) < 10) ∧ ∃ y75 : Int × Int, x5.l[(x6.2.2.2.2.2.1 : Int).toNat]? = some y75 ∧ ∃ y77 : Int, palinoderef11_Same_R x3 y75 x4 y77 ∧ ((0 ≤ y77 → ∃ y81 : (Bool × ((Arr 10 (Int × Int))) × Int × Int × Int), c_palinoderef11_Ways o1 x2 x3 y77 x5 x7 y81 ∧ r = y81) ∧ (¬ (0 ≤ y77) → r = o1))) ∧ (¬ (x6.1 = 6) → ((x6.1 = 7 → ((x4 = 0 → ∃ y87 : (Bool × ((Arr 10 (Int × Int))) × Int × Int × Int), c_palinoderef11_Ways o1 x2 x3 x4 x5 x7 y87 ∧ r = y87) ∧ (¬ (x4 = 0) → r = o1))) ∧ (¬ (x6.1 = 7) → ((x6.1 = 8 → ((x4 = (x3.length : Int) → ∃ y94 : (Bool × ((Arr 10 (Int × Int))) × Int × Int × Int), c_palinoderef11_Ways o1 x2 x3 x4 x5 x7 y94 ∧ r = y94) ∧ (¬ (x4 = (x3.length : Int)) → r = o1))) ∧ (¬ (x6.1 = 8) → ∃ y96 : (Bool × ((Arr 10 (Int × Int))) × Int × Int × Int), c_palinoderef11_Ways o1 x2 x3 x4 x5 x7 y96 ∧ r = y96))))))))))))))
def rec_palinoderef11_Ways_H (S1 : Nat → (Bool × ((Arr 10 (Int × Int))) × Int × Int × Int) → ((List (Int × Int × Int × Int × Int × Int × (Arr 4 (UInt64)))) × Int) → (List UInt8) → (Int) → (Arr 10 (Int × Int)) → (List (Int × Int × Int × Int)) → ((Bool × ((Arr 10 (Int × Int))) × Int × Int × Int)) → Prop) (S2 : Nat → (Bool × ((Arr 10 (Int × Int))) × Int × Int × Int) → ((List (Int × Int × Int × Int × Int × Int × (Arr 4 (UInt64)))) × Int) → (List UInt8) → (Int) → (Arr 10 (Int × Int)) → (Int × Int × Int × Int × Int × Int × (Arr 4 (UInt64))) → (List (Int × Int × Int × Int)) → ((Bool × ((Arr 10 (Int × Int))) × Int × Int × Int)) → Prop) : Prop :=
 (∀ (m : Nat) (o1 : Bool × ((Arr 10 (Int × Int))) × Int × Int × Int) (x2 : (List (Int × Int × Int × Int × Int × Int × (Arr 4 (UInt64)))) × Int) (x3 : List UInt8) (x4 : Int) (x5 : Arr 10 (Int × Int)) (x6 : List (Int × Int × Int × Int)) (r : (Bool × ((Arr 10 (Int × Int))) × Int × Int × Int)), S1 m o1 x2 x3 x4 x5 x6 r → palinoderef11_Ways_B (fun a0 a1 a2 a3 a4 a5 r => ∃ m', m' < m ∧ S1 m' a0 a1 a2 a3 a4 a5 r) (fun a0 a1 a2 a3 a4 a5 a6 r => ∃ m', m' < m ∧ S2 m' a0 a1 a2 a3 a4 a5 a6 r) o1 x2 x3 x4 x5 x6 r) ∧ (∀ (m : Nat) (o1 : Bool × ((Arr 10 (Int × Int))) × Int × Int × Int) (x2 : (List (Int × Int × Int × Int × Int × Int × (Arr 4 (UInt64)))) × Int) (x3 : List UInt8) (x4 : Int) (x5 : Arr 10 (Int × Int)) (x6 : Int × Int × Int × Int × Int × Int × (Arr 4 (UInt64))) (x7 : List (Int × Int × Int × Int)) (r : (Bool × ((Arr 10 (Int × Int))) × Int × Int × Int)), S2 m o1 x2 x3 x4 x5 x6 x7 r → palinoderef11_node_B (fun a0 a1 a2 a3 a4 a5 r => ∃ m', m' < m ∧ S1 m' a0 a1 a2 a3 a4 a5 r) (fun a0 a1 a2 a3 a4 a5 a6 r => ∃ m', m' < m ∧ S2 m' a0 a1 a2 a3 a4 a5 a6 r) o1 x2 x3 x4 x5 x6 x7 r)
def palinoderef11_Ways_R (o1 : Bool × ((Arr 10 (Int × Int))) × Int × Int × Int) (x2 : (List (Int × Int × Int × Int × Int × Int × (Arr 4 (UInt64)))) × Int) (x3 : List UInt8) (x4 : Int) (x5 : Arr 10 (Int × Int)) (x6 : List (Int × Int × Int × Int)) (r : (Bool × ((Arr 10 (Int × Int))) × Int × Int × Int)) : Prop := ∃ (S1 : Nat → (Bool × ((Arr 10 (Int × Int))) × Int × Int × Int) → ((List (Int × Int × Int × Int × Int × Int × (Arr 4 (UInt64)))) × Int) → (List UInt8) → (Int) → (Arr 10 (Int × Int)) → (List (Int × Int × Int × Int)) → ((Bool × ((Arr 10 (Int × Int))) × Int × Int × Int)) → Prop) (S2 : Nat → (Bool × ((Arr 10 (Int × Int))) × Int × Int × Int) → ((List (Int × Int × Int × Int × Int × Int × (Arr 4 (UInt64)))) × Int) → (List UInt8) → (Int) → (Arr 10 (Int × Int)) → (Int × Int × Int × Int × Int × Int × (Arr 4 (UInt64))) → (List (Int × Int × Int × Int)) → ((Bool × ((Arr 10 (Int × Int))) × Int × Int × Int)) → Prop), rec_palinoderef11_Ways_H S1 S2 ∧ ∃ m : Nat, S1 m o1 x2 x3 x4 x5 x6 r
set_option maxRecDepth 100000 in
set_option maxHeartbeats 4000000 in
theorem rec_palinoderef11_Ways_con {S1 : Nat → (Bool × ((Arr 10 (Int × Int))) × Int × Int × Int) → ((List (Int × Int × Int × Int × Int × Int × (Arr 4 (UInt64)))) × Int) → (List UInt8) → (Int) → (Arr 10 (Int × Int)) → (List (Int × Int × Int × Int)) → ((Bool × ((Arr 10 (Int × Int))) × Int × Int × Int)) → Prop} {S2 : Nat → (Bool × ((Arr 10 (Int × Int))) × Int × Int × Int) → ((List (Int × Int × Int × Int × Int × Int × (Arr 4 (UInt64)))) × Int) → (List UInt8) → (Int) → (Arr 10 (Int × Int)) → (Int × Int × Int × Int × Int × Int × (Arr 4 (UInt64))) → (List (Int × Int × Int × Int)) → ((Bool × ((Arr 10 (Int × Int))) × Int × Int × Int)) → Prop} (H : rec_palinoderef11_Ways_H S1 S2) : ∀ m : Nat, (∀ (o1 : Bool × ((Arr 10 (Int × Int))) × Int × Int × Int) (x2 : (List (Int × Int × Int × Int × Int × Int × (Arr 4 (UInt64)))) × Int) (x3 : List UInt8) (x4 : Int) (x5 : Arr 10 (Int × Int)) (x6 : List (Int × Int × Int × Int)) (bx0 : Nat) (r : (Bool × ((Arr 10 (Int × Int))) × Int × Int × Int)), S1 m o1 x2 x3 x4 x5 x6 r → Con Try.prog 31 [.v (.pointer (some ⟨bx0, 0, none⟩)), .agg [.sl 10 none (List.map E_palinode_api_Node x2.1), .v (.int .i64 x2.2)], .sl 1 none (List.map eb x3), .v (.int .i64 x4), .agg ((List.map E_palinode_api_Span x5.l).flatten), .sl 4 none (List.map E_palinode_palinoderef11_Task x6)] [⟨bx0, 85, ([.v (.bool o1.1)] ++ ((List.map E_palinode_api_Span o1.2.1.l).flatten ++ [.v (.int .i64 o1.2.2.1), .v (.int .i64 o1.2.2.2.1), .v (.int .i64 o1.2.2.2.2)]))⟩] [] (fun rr bx tk => rr = .tup [] ∧ bx = [⟨bx0, 85, ([.v (.bool r.1)] ++ ((List.map E_palinode_api_Span r.2.1.l).flatten ++ [.v (.int .i64 r.2.2.1), .v (.int .i64 r.2.2.2.1), .v (.int .i64 r.2.2.2.2)]))⟩] ∧ tk = [])) ∧ (∀ (o1 : Bool × ((Arr 10 (Int × Int))) × Int × Int × Int) (x2 : (List (Int × Int × Int × Int × Int × Int × (Arr 4 (UInt64)))) × Int) (x3 : List UInt8) (x4 : Int) (x5 : Arr 10 (Int × Int)) (x6 : Int × Int × Int × Int × Int × Int × (Arr 4 (UInt64))) (x7 : List (Int × Int × Int × Int)) (bx0 : Nat) (r : (Bool × ((Arr 10 (Int × Int))) × Int × Int × Int)), S2 m o1 x2 x3 x4 x5 x6 x7 r → Con Try.prog 46 [.v (.pointer (some ⟨bx0, 0, none⟩)), .agg [.sl 10 none (List.map E_palinode_api_Node x2.1), .v (.int .i64 x2.2)], .sl 1 none (List.map eb x3), .v (.int .i64 x4), .agg ((List.map E_palinode_api_Span x5.l).flatten), .agg ([.v (.int .i64 x6.1), .v (.int .i64 x6.2.1), .v (.int .i64 x6.2.2.1), .v (.int .i64 x6.2.2.2.1), .v (.int .i64 x6.2.2.2.2.1), .v (.int .i64 x6.2.2.2.2.2.1)] ++ (List.map ew x6.2.2.2.2.2.2.l).flatten), .sl 4 none (List.map E_palinode_palinoderef11_Task x7)] [⟨bx0, 85, ([.v (.bool o1.1)] ++ ((List.map E_palinode_api_Span o1.2.1.l).flatten ++ [.v (.int .i64 o1.2.2.1), .v (.int .i64 o1.2.2.2.1), .v (.int .i64 o1.2.2.2.2)]))⟩] [] (fun rr bx tk => rr = .tup [] ∧ bx = [⟨bx0, 85, ([.v (.bool r.1)] ++ ((List.map E_palinode_api_Span r.2.1.l).flatten ++ [.v (.int .i64 r.2.2.1), .v (.int .i64 r.2.2.2.1), .v (.int .i64 r.2.2.2.2)]))⟩] ∧ tk = [])) := by
 intro m
 induction m using Nat.strongRecOn with
 | _ m ih =>
  refine ⟨?_, ?_⟩
  ·intro o1 x2 x3 x4 x5 x6 bx0 r h
   obtain ⟨c_palinoderef11_Ways, c_palinoderef11_node, hc_palinoderef11_Ways, hc_palinoderef11_node, h⟩ : ∃ (c_palinoderef11_Ways : (Bool × ((Arr 10 (Int × Int))) × Int × Int × Int) → ((List (Int × Int × Int × Int × Int × Int × (Arr 4 (UInt64)))) × Int) → (List UInt8) → (Int) → (Arr 10 (Int × Int)) → (List (Int × Int × Int × Int)) → ((Bool × ((Arr 10 (Int × Int))) × Int × Int × Int)) → Prop) (c_palinoderef11_node : (Bool × ((Arr 10 (Int × Int))) × Int × Int × Int) → ((List (Int × Int × Int × Int × Int × Int × (Arr 4 (UInt64)))) × Int) → (List UInt8) → (Int) → (Arr 10 (Int × Int)) → (Int × Int × Int × Int × Int × Int × (Arr 4 (UInt64))) → (List (Int × Int × Int × Int)) → ((Bool × ((Arr 10 (Int × Int))) × Int × Int × Int)) → Prop), (∀ a0 a1 a2 a3 a4 a5 r, c_palinoderef11_Ways a0 a1 a2 a3 a4 a5 r → ∃ m', m' < m ∧ S1 m' a0 a1 a2 a3 a4 a5 r) ∧ (∀ a0 a1 a2 a3 a4 a5 a6 r, c_palinoderef11_node a0 a1 a2 a3 a4 a5 a6 r → ∃ m', m' < m ∧ S2 m' a0 a1 a2 a3 a4 a5 a6 r) ∧ palinoderef11_Ways_B c_palinoderef11_Ways c_palinoderef11_node o1 x2 x3 x4 x5 x6 r := ⟨_, _, fun _ _ _ _ _ _ _ h => h, fun _ _ _ _ _ _ _ _ h => h, H.1 m o1 x2 x3 x4 x5 x6 r h⟩
   refine xenter Try.func31 rfl rfl fun g hg => ?_
   simp only [Try.ntmps31, slots]
   refine sr_ ?_
   refine xbox rfl rfl rfl rfl fun b7 => ?_
   refine xbox rfl rfl rfl rfl fun b10 => ?_
   refine nt_ ?_
   refine xseq ?_
   refine sr_ ?_
   refine mv_ ?_
   refine vp_ (pv_lenM UndC.h rfl) ?_
   refine vp_ (pv_bin2 rfl rfl rfl) ?_
   refine nt_ ?_
   by_cases hp31 : (x6.length : Int) = 0
   ·replace h := h.1 hp31
    refine xcondT' (decide_eq_true hp31) rfl ?_
    refine sr_ ?_
    refine mv_ ?_
    refine vp_ (pv_nilCheck rfl) ?_
    refine vp_ (qv_fieldAddrB FldC.h rfl) ?_
    refine v_ (qv_loadP 2 ([.v (.bool o1.1)] ++ ((List.map E_palinode_api_Span o1.2.1.l).flatten ++ [.v (.int .i64 o1.2.2.1), .v (.int .i64 o1.2.2.2.1)])) [.v (.int .i64 o1.2.2.2.2)] [] sq_ sl_ sl_ rfl ShpC.h rfl rfl) ?_
    refine mv_ ?_
    refine vp_ (pv_buildC StrC.h rfl rfl) ?_
    obtain ⟨h32, h⟩ := h
    obtain ⟨y33, h32b, h⟩ := h
    refine vp_ (pv_indexAddrBA h32 UndC.h ShpC.h rfl rfl) ?_
    refine xstoreA (f := E_palinode_api_Span) (a := x5) (k := 2) (off := 0) (i := (0 : Int).toNat) 0 [] [] (o1.2.2.2.2, x4) h32b sq_ so_ (by decide) ShpC.h rfl rfl rfl rfl sl_ rfl rfl ?_
    refine xreb 0 ((List.map E_palinode_api_Span ((Arr.set x5 (0 : Int).toNat ((o1.2.2.2.2, x4)))).l).flatten) rfl sq_ ?_
    refine nt_ ?_
    refine sr_ ?_
    refine v_ (qv_loadP 0 [] ((List.map E_palinode_api_Span ((Arr.set x5 (0 : Int).toNat ((o1.2.2.2.2, x4)))).l).flatten) [] sq_ sl_ sl_ (part_all (seg_lenE (by rfl))) ShpC.h rfl rfl) ?_
    refine vp_ (pv_buildC (cs := ((List.map E_palinode_api_Span ((Arr.set x5 (0 : Int).toNat ((o1.2.2.2.2, x4)))).l).flatten)) StrC.h rfl (by refine fill_step [] ((List.map E_palinode_api_Span ((Arr.rep 10 (0, 0))).l).flatten) [] sq_ sl_ sl_ sl_ rfl rfl ?_; exact congrArg some sq_)) ?_
    refine xalloc InfC.h rfl rfl fun b12 => ?_
    refine xreb 0 ((List.map E_palinode_api_Span ((Arr.rep 10 (0, 0))).l).flatten) rfl rfl ?_
    refine xstoreQ 0 [] ((List.map E_palinode_api_Span ((Arr.rep 10 (0, 0))).l).flatten) [] ((List.map E_palinode_api_Span ((Arr.set x5 (0 : Int).toNat ((o1.2.2.2.2, x4)))).l).flatten) ShpC.h rfl rfl rfl rfl rfl ?_
    refine nt_ ?_
    refine xseqM (fun σ => ∃ (f42 : Arr 10 (Int × Int)), palinoderef11_Ways_j1 o1 f42 r ∧ σ = ⟨[(0, .v (.pointer (some ⟨bx0, 0, none⟩)))], [⟨bx0, 85, ([.v (.bool o1.1)] ++ ((List.map E_palinode_api_Span f42.l).flatten ++ [.v (.int .i64 o1.2.2.1), .v (.int .i64 o1.2.2.2.1), .v (.int .i64 o1.2.2.2.2)]))⟩], []⟩) ?_ ?_
    ·refine xseqM (fun σ => ∃ (x46 : Bool), palinoderef11_Ways_j2 o1 x5 x4 x46 r ∧ σ = ⟨[(0, .v (.pointer (some ⟨bx0, 0, none⟩))), (12, .v (.pointer (some ⟨b12, 0, none⟩))), (39, .v (.bool x46))], [⟨b12, 31, ((List.map E_palinode_api_Span ((Arr.set x5 (0 : Int).toNat ((o1.2.2.2.2, x4)))).l).flatten)⟩, ⟨bx0, 85, ([.v (.bool o1.1)] ++ ((List.map E_palinode_api_Span o1.2.1.l).flatten ++ [.v (.int .i64 o1.2.2.1), .v (.int .i64 o1.2.2.2.1), .v (.int .i64 o1.2.2.2.2)]))⟩], []⟩) ?_ ?_
     ·refine xregionD (m := 13) (by kernel_rfl) rfl ?_
      refine pl_ 0 rfl (pv_move rfl) ?_
      refine pl_ 1 rfl (pv_nilCheck rfl) ?_
      refine pl_ 2 rfl (qv_fieldAddrB FldC.h rfl) ?_
      refine xpvalE 3 [] rfl (qv_loadB 3 ShpC.h rfl rfl rfl rfl) rfl rfl (by kernel_rfl) (by kernel_rfl) (by kernel_rfl) (fun _ _ _ _ h => h) ?_
      refine pl_ 4 rfl (pv_not rfl) ?_
      refine pl_ 5 rfl (pv_move rfl) ?_
      by_cases hp47 : ¬ (o1.1 = true)
      ·replace h := h.1 hp47
       refine psetB 32 (not_t (b_f hp47)) rfl ?_
       refine xpskip 6 rfl rfl rfl (by kernel_rfl) (by kernel_rfl) (by kernel_rfl) (fun _ _ _ _ h => h) ?_
       refine xpskip 7 rfl rfl rfl (by kernel_rfl) (by kernel_rfl) (by kernel_rfl) (fun _ _ _ _ h => h) ?_
       refine xpskip 8 rfl rfl rfl (by kernel_rfl) (by kernel_rfl) (by kernel_rfl) (fun _ _ _ _ h => h) ?_
       refine xpskip 9 rfl rfl rfl (by kernel_rfl) (by kernel_rfl) (by kernel_rfl) (fun _ _ _ _ h => h) ?_
       refine xpskip 10 rfl rfl rfl (by kernel_rfl) (by kernel_rfl) (by kernel_rfl) (fun _ _ _ _ h => h) ?_
       refine xpskip 11 rfl rfl rfl (by kernel_rfl) (by kernel_rfl) (by kernel_rfl) (fun _ _ _ _ h => h) ?_
       refine pl_ 12 rfl (pv_pick rfl rfl) ?_
       refine xpdone (by kernel_rfl) ?_
       exact xmeet ⟨true, h, rfl⟩ ⟨lk_, (SubM.of (.keep rfl rfl (.refl _) (.drop (.drop (.keep rfl rfl (.refl _) (.nil _))))) (.nil _))⟩
      ·replace h := h.2 hp47
       refine psetB 32 (not_f (Decidable.of_not_not hp47)) rfl ?_
       obtain ⟨y49, h48, h⟩ := h
       refine pl_ 7 rfl (pv_move rfl) ?_
       refine pl_ 8 rfl (pv_nilCheck rfl) ?_
       refine pl_ 9 rfl (qv_fieldAddrB FldC.h rfl) ?_
       refine xpvalE 6 [10] rfl (qv_loadP 0 [] ((List.map E_palinode_api_Span ((Arr.set x5 (0 : Int).toNat ((o1.2.2.2.2, x4)))).l).flatten) [] sq_ sl_ sl_ (part_all (seg_lenE (by rfl))) ShpC.h rfl rfl) rfl rfl (by kernel_rfl) (by kernel_rfl) (by kernel_rfl) (fun _ _ _ _ h => h) ?_
       refine xpvalE 10 [] rfl (qv_loadP 3 [.v (.bool o1.1)] ((List.map E_palinode_api_Span o1.2.1.l).flatten) [.v (.int .i64 o1.2.2.1), .v (.int .i64 o1.2.2.2.1), .v (.int .i64 o1.2.2.2.2)] sq_ sl_ sl_ (part_all (seg_lenE (by rfl))) ShpC.h rfl rfl) rfl rfl (by kernel_rfl) (by kernel_rfl) (by kernel_rfl) (fun _ _ _ _ h => h) ?_
       refine xpstep (i := 11) (by kernel_rfl) rfl ?_
       refine wcall0 (palinoderef11_Better_con (Arr.set x5 (0 : Int).toNat ((o1.2.2.2.2, x4))) o1.2.1 _ h48) Try.func25 (by kernel_rfl) rfl (.cons rfl (.refl _) (.cons rfl (.refl _) .nil)) rfl rfl ?_
       refine pl_ 12 rfl (pv_pick rfl rfl) ?_
       refine xpdone (by kernel_rfl) ?_
       exact xmeet ⟨y49, h, rfl⟩ ⟨lk_, (SubM.of (.keep rfl rfl (.refl _) (.drop (.drop (.keep rfl rfl (.refl _) (.nil _))))) (.nil _))⟩
     ·clear h
      rintro _ ⟨x46, h, rfl⟩
      by_cases hp50 : x46 = true
      ·replace h := h.1 hp50
       refine xcondT' hp50 rfl ?_
       refine xregion ?_
       refine mv_ ?_
       refine v_ (qv_loadP 0 [] ((List.map E_palinode_api_Span ((Arr.set x5 (0 : Int).toNat ((o1.2.2.2.2, x4)))).l).flatten) [] sq_ sl_ sl_ (part_all (seg_lenE (by rfl))) ShpC.h rfl rfl) ?_
       refine vp_ (pv_nilCheck rfl) ?_
       refine vp_ (qv_fieldAddrB FldC.h rfl) ?_
       refine xstoreQ 1 [.v (.bool o1.1)] ((List.map E_palinode_api_Span o1.2.1.l).flatten) [.v (.int .i64 o1.2.2.1), .v (.int .i64 o1.2.2.2.1), .v (.int .i64 o1.2.2.2.2)] ([.v (.bool o1.1)] ++ ((List.map E_palinode_api_Span ((Arr.set x5 (0 : Int).toNat ((o1.2.2.2.2, x4)))).l).flatten ++ [.v (.int .i64 o1.2.2.1), .v (.int .i64 o1.2.2.2.1), .v (.int .i64 o1.2.2.2.2)])) ShpC.h rfl rfl rfl rfl rfl ?_
       refine xnil ?_
       exact xmeet ⟨(Arr.set x5 (0 : Int).toNat ((o1.2.2.2.2, x4))), h, rfl⟩ ⟨(.cons rfl (.refl _) (.nil _)), (SubM.of (.drop (.keep rfl rfl (.refl _) (.nil _))) (.nil _))⟩
      ·replace h := h.2 hp50
       refine xcondF' (b_f hp50) rfl ?_
       refine xskipc ?_
       exact xmeet ⟨o1.2.1, h, rfl⟩ ⟨(.cons rfl (.refl _) (.nil _)), (SubM.of (.drop (.keep rfl rfl (.refl _) (.nil _))) (.nil _))⟩
    ·clear h
     rintro _ ⟨f42, h, rfl⟩
     refine sr_ ?_
     refine mv_ ?_
     refine vp_ (pv_nilCheck rfl) ?_
     refine vp_ (qv_fieldAddrB FldC.h rfl) ?_
     refine xstore 0 ShpC.h rfl rfl rfl rfl rfl rfl rfl ?_
     refine nt_ ?_
     refine xretc ?_
     refine xthen_ret ?_
     replace h := h.symm
     subst h
     exact xret0 hg rfl (SubM.of (.keep rfl rfl (.refl _) (.nil _)) (.nil _)) ⟨rfl, rfl, rfl⟩ (by simp)
   ·replace h := h.2 hp31
    refine xcondF' (decide_eq_false hp31) rfl ?_
    refine xskipc ?_
    refine xthen ?_
    refine sr_ ?_
    refine mv_ ?_
    refine mv_ ?_
    refine vp_ (pv_nilCheck rfl) ?_
    refine vp_ (qv_fieldAddrB FldC.h rfl) ?_
    refine v_ (qv_loadP 2 ([.v (.bool o1.1)] ++ (List.map E_palinode_api_Span o1.2.1.l).flatten) [.v (.int .i64 o1.2.2.1)] [.v (.int .i64 o1.2.2.2.1), .v (.int .i64 o1.2.2.2.2)] sq_ sl_ sl_ rfl ShpC.h rfl rfl) ?_
    obtain ⟨h51, h⟩ := h
    refine vp_ (pv_addI h51 rfl rfl) ?_
    refine vp_ (pv_nilCheck rfl) ?_
    refine vp_ (qv_fieldAddrB FldC.h rfl) ?_
    refine xstoreQ 2 ([.v (.bool o1.1)] ++ (List.map E_palinode_api_Span o1.2.1.l).flatten) [.v (.int .i64 o1.2.2.1)] [.v (.int .i64 o1.2.2.2.1), .v (.int .i64 o1.2.2.2.2)] ([.v (.bool o1.1)] ++ ((List.map E_palinode_api_Span o1.2.1.l).flatten ++ [.v (.int .i64 ((o1.2.2.1 + 1))), .v (.int .i64 o1.2.2.2.1), .v (.int .i64 o1.2.2.2.2)])) ShpC.h rfl rfl rfl rfl rfl ?_
    refine nt_ ?_
    refine xseq ?_
    refine xseq ?_
    refine xregionD (m := 9) (by kernel_rfl) rfl ?_
    refine pl_ 0 rfl (pv_move rfl) ?_
    refine pl_ 1 rfl (pv_nilCheck rfl) ?_
    refine pl_ 2 rfl (qv_fieldAddrB FldC.h rfl) ?_
    refine pl_ 4 rfl (pv_move rfl) ?_
    refine pl_ 5 rfl (pv_nilCheck rfl) ?_
    refine pl_ 6 rfl (qv_fieldAddrB FldC.h rfl) ?_
    refine xpvalE 3 [7] rfl (qv_loadP 2 ([.v (.bool o1.1)] ++ (List.map E_palinode_api_Span o1.2.1.l).flatten) [.v (.int .i64 ((o1.2.2.1 + 1)))] [.v (.int .i64 o1.2.2.2.1), .v (.int .i64 o1.2.2.2.2)] sq_ sl_ sl_ rfl ShpC.h rfl rfl) rfl rfl (by kernel_rfl) (by kernel_rfl) (by kernel_rfl) (fun _ _ _ _ h => h) ?_
    refine xpvalE 7 [] rfl (qv_loadP 2 ([.v (.bool o1.1)] ++ ((List.map E_palinode_api_Span o1.2.1.l).flatten ++ [.v (.int .i64 ((o1.2.2.1 + 1)))])) [.v (.int .i64 o1.2.2.2.1)] [.v (.int .i64 o1.2.2.2.2)] sq_ sl_ sl_ rfl ShpC.h rfl rfl) rfl rfl (by kernel_rfl) (by kernel_rfl) (by kernel_rfl) (fun _ _ _ _ h => h) ?_
    refine pl_ 8 rfl (pv_bin2 rfl rfl rfl) ?_
    refine xpdone (by kernel_rfl) ?_
    refine xthen ?_
    by_cases hp57 : o1.2.2.2.1 < (o1.2.2.1 + 1)
    ·replace h := h.1 hp57
     refine xcondT' (decide_eq_true hp57) rfl ?_
     refine xretc ?_
     refine xthen_ret ?_
     replace h := h.symm
     subst h
     exact xret0 hg rfl (SubM.of (.drop (.drop (.keep rfl rfl (.refl _) (.nil _)))) (.nil _)) ⟨rfl, rfl, rfl⟩ (by simp)
    ·replace h := h.2 hp57
     refine xcondF' (decide_eq_false hp57) rfl ?_
     refine xskipc ?_
     refine xthen ?_
     refine sr_ ?_
     refine mv_ ?_
     obtain ⟨h59a, h⟩ := h
     obtain ⟨y58, h59b, h⟩ := h
     refine vp_ (pv_indexAddrM h59a h59b UndC.h ShpC.h rfl rfl) ?_
     refine v_ (qv_load ShpC.h rfl rfl rfl) ?_
     refine xalloc InfC.h rfl rfl fun b13 => ?_
     refine xstore 0 ShpC.h rfl rfl rfl rfl rfl rfl rfl ?_
     refine nt_ ?_
     refine sr_ ?_
     refine mv_ ?_
     obtain ⟨h60, h⟩ := h
     refine vp_ (pv_sliceLo h60 UndC.h ShpC.h rfl rfl) ?_
     refine as_ ?_
     refine nt_ ?_
     refine sr_ ?_
     refine vp_ (pv_buildC (cs := ([.v (.int .i64 0), .v (.int .i64 0), .v (.int .i64 0), .v (.int .i64 0), .v (.int .i64 0), .v (.int .i64 0)] ++ (List.map ew ((Arr.rep 4 (0 : UInt64))).l).flatten)) StrC.h rfl (by exact congrArg some sq_)) ?_
     refine xalloc InfC.h rfl rfl fun b14 => ?_
     refine xreb 0 ([.v (.int .i64 0), .v (.int .i64 0), .v (.int .i64 0), .v (.int .i64 0), .v (.int .i64 0), .v (.int .i64 0)] ++ (List.map ew ((Arr.rep 4 (0 : UInt64))).l).flatten) rfl rfl ?_
     refine xstoreQ 0 [] ([.v (.int .i64 0), .v (.int .i64 0), .v (.int .i64 0), .v (.int .i64 0), .v (.int .i64 0), .v (.int .i64 0)] ++ (List.map ew ((Arr.rep 4 (0 : UInt64))).l).flatten) [] ([.v (.int .i64 0), .v (.int .i64 0), .v (.int .i64 0), .v (.int .i64 0), .v (.int .i64 0), .v (.int .i64 0)] ++ (List.map ew ((Arr.rep 4 (0 : UInt64))).l).flatten) ShpC.h rfl rfl rfl rfl rfl ?_
     refine nt_ ?_
     refine xseqM (fun σ => ∃ (f65 : Int), ∃ (f66 : Int), ∃ (f67 : Int), ∃ (f68 : Int), ∃ (f69 : Int), ∃ (f70 : Int), ∃ (f71 : Arr 4 (UInt64)), palinoderef11_Ways_j3 y58 x5 c_palinoderef11_Ways o1 x2 x3 x4 x6 c_palinoderef11_node f65 f66 f67 f68 f69 f70 f71 r ∧ σ = ⟨[(0, .v (.pointer (some ⟨bx0, 0, none⟩))), (2, .sl 1 none (List.map eb x3)), (3, .v (.int .i64 x4)), (5, .sl 4 none (List.map E_palinode_palinoderef11_Task ((x6.drop (1 : Int).toNat)))), (7, .v (.pointer (some ⟨b7, 0, none⟩))), (10, .v (.pointer (some ⟨b10, 0, none⟩))), (13, .v (.pointer (some ⟨b13, 0, none⟩))), (14, .v (.pointer (some ⟨b14, 0, none⟩)))], [⟨b14, 54, ([.v (.int .i64 f65), .v (.int .i64 f66), .v (.int .i64 f67), .v (.int .i64 f68), .v (.int .i64 f69), .v (.int .i64 f70)] ++ (List.map ew f71.l).flatten)⟩, ⟨b13, 88, [.v (.int .i64 y58.1), .v (.int .i64 y58.2.1), .v (.int .i64 y58.2.2.1), .v (.int .i64 y58.2.2.2)]⟩, ⟨b10, 29, ((List.map E_palinode_api_Span x5.l).flatten)⟩, ⟨b7, 24, [.sl 10 none (List.map E_palinode_api_Node x2.1), .v (.int .i64 x2.2)]⟩, ⟨bx0, 85, ([.v (.bool o1.1)] ++ ((List.map E_palinode_api_Span o1.2.1.l).flatten ++ [.v (.int .i64 ((o1.2.2.1 + 1))), .v (.int .i64 o1.2.2.2.1), .v (.int .i64 o1.2.2.2.2)]))⟩], []⟩) ?_ ?_
     ·refine xseq ?_
      refine xregion ?_
      refine vp_ (qv_fieldAddrB FldC.h rfl) ?_
      refine v_ (qv_loadB 1 ShpC.h rfl rfl rfl rfl) ?_
      refine vp_ (pv_bin2 rfl rfl rfl) ?_
      refine nt_ ?_
      by_cases hp73 : ¬ (y58.1 = 1)
      ·replace h := h.1 hp73
       refine xcondT' (not_t (decide_eq_false hp73)) rfl ?_
       refine xregion ?_
       refine vp_ (qv_fieldAddrB FldC.h rfl) ?_
       refine v_ (qv_loadB 3 ShpC.h rfl rfl rfl rfl) ?_
       refine vp_ (qv_fieldAddrB FldC.h rfl) ?_
       refine v_ (qv_loadB 1 ShpC.h rfl rfl rfl rfl) ?_
       obtain ⟨h75a, h⟩ := h
       obtain ⟨y74, h75b, h⟩ := h
       refine vp_ (pv_indexAddrM h75a h75b UndC.h ShpC.h rfl rfl) ?_
       refine v_ (qv_loadEP ([.v (.int .i64 y74.1), .v (.int .i64 y74.2.1), .v (.int .i64 y74.2.2.1), .v (.int .i64 y74.2.2.2.1), .v (.int .i64 y74.2.2.2.2.1), .v (.int .i64 y74.2.2.2.2.2.1)] ++ (List.map ew y74.2.2.2.2.2.2.l).flatten) [] sq_ sl_ (part_all sl_) ShpC.h rfl) ?_
       refine xstoreQ 0 [] ([.v (.int .i64 0), .v (.int .i64 0), .v (.int .i64 0), .v (.int .i64 0), .v (.int .i64 0), .v (.int .i64 0)] ++ (List.map ew ((Arr.rep 4 (0 : UInt64))).l).flatten) [] ([.v (.int .i64 y74.1), .v (.int .i64 y74.2.1), .v (.int .i64 y74.2.2.1), .v (.int .i64 y74.2.2.2.1), .v (.int .i64 y74.2.2.2.2.1), .v (.int .i64 y74.2.2.2.2.2.1)] ++ (List.map ew y74.2.2.2.2.2.2.l).flatten) ShpC.h rfl rfl rfl rfl rfl ?_
       refine xnil ?_
       exact xmeet ⟨y74.1, y74.2.1, y74.2.2.1, y74.2.2.2.1, y74.2.2.2.2.1, y74.2.2.2.2.2.1, y74.2.2.2.2.2.2, h, rfl⟩ ⟨lk_, (SubM.of (.keep rfl rfl (.refl _) (.keep rfl rfl (.refl _) (.keep rfl rfl (.refl _) (.keep rfl rfl (.refl _) (.keep rfl rfl (.refl _) (.nil _)))))) (.nil _))⟩
      ·replace h := h.2 hp73
       refine xcondF' (not_f (decide_eq_true (Decidable.of_not_not hp73))) rfl ?_
       refine xskipc ?_
       exact xmeet ⟨0, 0, 0, 0, 0, 0, (Arr.rep 4 (0 : UInt64)), h, rfl⟩ ⟨lk_, (SubM.of (.keep rfl rfl (.refl _) (.keep rfl rfl (.refl _) (.keep rfl rfl (.refl _) (.keep rfl rfl (.refl _) (.keep rfl rfl (.refl _) (.nil _)))))) (.nil _))⟩
     ·clear h
      rintro _ ⟨f65, f66, f67, f68, f69, f70, f71, h, rfl⟩
      refine xseq ?_
      refine sr_ ?_
      refine vp_ (qv_fieldAddrB FldC.h rfl) ?_
      refine v_ (qv_loadB 1 ShpC.h rfl rfl rfl rfl) ?_
      refine vp_ (pv_bin2 rfl rfl rfl) ?_
      refine nt_ ?_
      by_cases hp83 : y58.1 = 1
      ·replace h := h.1 hp83
       refine xcondT' (decide_eq_true hp83) rfl ?_
       refine sr_ ?_
       refine vp_ (qv_fieldAddrB FldC.h rfl) ?_
       refine v_ (qv_loadB 1 ShpC.h rfl rfl rfl rfl) ?_
       refine vp_ (qv_fieldAddrB FldC.h rfl) ?_
       refine v_ (qv_loadB 1 ShpC.h rfl rfl rfl rfl) ?_
       refine mv_ ?_
       refine vp_ (pv_buildC StrC.h rfl rfl) ?_
       obtain ⟨h84, h⟩ := h
       obtain ⟨y85, h84b, h⟩ := h
       refine vp_ (pv_indexAddrBA h84 UndC.h ShpC.h rfl rfl) ?_
       refine xstoreA (f := E_palinode_api_Span) (a := x5) (k := 2) (off := 0) (i := (y58.2.1 : Int).toNat) 2 [] [] (y58.2.2.2, x4) h84b sq_ so_ (by decide) ShpC.h rfl rfl rfl rfl sl_ rfl rfl ?_
       refine xreb 2 ((List.map E_palinode_api_Span ((Arr.set x5 (y58.2.1 : Int).toNat ((y58.2.2.2, x4)))).l).flatten) rfl sq_ ?_
       refine nt_ ?_
       refine sr_ ?_
       refine mv_ ?_
       refine v_ (qv_loadB 3 ShpC.h rfl rfl rfl rfl) ?_
       refine mv_ ?_
       refine mv_ ?_
       refine v_ (qv_loadP 2 [] ((List.map E_palinode_api_Span ((Arr.set x5 (y58.2.1 : Int).toNat ((y58.2.2.2, x4)))).l).flatten) [] sq_ sl_ sl_ (part_all (seg_lenE (by rfl))) ShpC.h rfl rfl) ?_
       refine mv_ ?_
       obtain ⟨y87, h86, h⟩ := h
       obtain ⟨m86, hm86, h86⟩ := hc_palinoderef11_Ways _ _ _ _ _ _ _ h86
       refine xcallF (Fb := [⟨b14, 54, ([.v (.int .i64 f65), .v (.int .i64 f66), .v (.int .i64 f67), .v (.int .i64 f68), .v (.int .i64 f69), .v (.int .i64 f70)] ++ (List.map ew f71.l).flatten)⟩, ⟨b13, 88, [.v (.int .i64 y58.1), .v (.int .i64 y58.2.1), .v (.int .i64 y58.2.2.1), .v (.int .i64 y58.2.2.2)]⟩, ⟨b10, 29, ((List.map E_palinode_api_Span ((Arr.set x5 (y58.2.1 : Int).toNat ((y58.2.2.2, x4)))).l).flatten)⟩, ⟨b7, 24, [.sl 10 none (List.map E_palinode_api_Node x2.1), .v (.int .i64 x2.2)]⟩]) (Ft := []) ((ih m86 hm86).1 (o1.1, o1.2.1, (o1.2.2.1 + 1), o1.2.2.2.1, o1.2.2.2.2) x2 x3 x4 (Arr.set x5 (y58.2.1 : Int).toNat ((y58.2.2.2, x4))) (x6.drop (1 : Int).toNat) bx0 _ h86) Try.func31 (by kernel_rfl) rfl (.cons rfl (.refl _) (.cons rfl (.refl _) (.cons rfl (.refl _) (.cons rfl (.refl _) (.cons rfl (.refl _) (.cons rfl (.refl _) .nil)))))) (by refine SubM.trans (SubM.mvB 4 rfl) ?_; (simp only [List.eraseIdx]); exact sm_) rfl rfl ?_
       rintro _ _ _ ⟨rfl, rfl, rfl⟩
       simp only [List.nil_append, List.cons_append]
       refine nt_ ?_
       refine xretc ?_
       refine xthen_ret ?_
       replace h := h.symm
       subst h
       exact xret0 hg rfl (SubM.of (.keep rfl rfl (.refl _) (.nil _)) (.nil _)) ⟨rfl, rfl, rfl⟩ (by simp)
      ·replace h := h.2 hp83
       refine xcondF' (decide_eq_false hp83) rfl ?_
       refine xskipc ?_
       refine xthen ?_
       refine xseq ?_
       refine xseqM (fun σ => ∃ (x107 : Bool), palinoderef11_Ways_j4 y58 f68 c_palinoderef11_Ways o1 x2 x3 x4 x5 x6 f65 f66 f69 c_palinoderef11_node f67 f70 f71 x107 r ∧ σ = ⟨[(0, .v (.pointer (some ⟨bx0, 0, none⟩))), (2, .sl 1 none (List.map eb x3)), (3, .v (.int .i64 x4)), (5, .sl 4 none (List.map E_palinode_palinoderef11_Task ((x6.drop (1 : Int).toNat)))), (7, .v (.pointer (some ⟨b7, 0, none⟩))), (10, .v (.pointer (some ⟨b10, 0, none⟩))), (13, .v (.pointer (some ⟨b13, 0, none⟩))), (14, .v (.pointer (some ⟨b14, 0, none⟩))), (104, .v (.bool x107))], [⟨b14, 54, ([.v (.int .i64 f65), .v (.int .i64 f66), .v (.int .i64 f67), .v (.int .i64 f68), .v (.int .i64 f69), .v (.int .i64 f70)] ++ (List.map ew f71.l).flatten)⟩, ⟨b13, 88, [.v (.int .i64 y58.1), .v (.int .i64 y58.2.1), .v (.int .i64 y58.2.2.1), .v (.int .i64 y58.2.2.2)]⟩, ⟨b10, 29, ((List.map E_palinode_api_Span x5.l).flatten)⟩, ⟨b7, 24, [.sl 10 none (List.map E_palinode_api_Node x2.1), .v (.int .i64 x2.2)]⟩, ⟨bx0, 85, ([.v (.bool o1.1)] ++ ((List.map E_palinode_api_Span o1.2.1.l).flatten ++ [.v (.int .i64 ((o1.2.2.1 + 1))), .v (.int .i64 o1.2.2.2.1), .v (.int .i64 o1.2.2.2.2)]))⟩], []⟩) ?_ ?_
       ·refine xregion ?_
        refine vp_ (qv_fieldAddrB FldC.h rfl) ?_
        refine v_ (qv_loadB 1 ShpC.h rfl rfl rfl rfl) ?_
        refine vp_ (pv_bin2 rfl rfl rfl) ?_
        refine mv_ ?_
        by_cases hp109 : y58.1 = 2
        ·rw [and_tt (show (decide (y58.1 = 2)) = true from (decide_eq_true hp109))] at h
         refine xsetB 99 (decide_eq_true hp109) rfl ?_
         refine mv_ ?_
         refine vp_ (qv_fieldAddrB FldC.h rfl) ?_
         refine v_ (qv_loadB 1 ShpC.h rfl rfl rfl rfl) ?_
         refine vp_ (pv_bin2 rfl rfl rfl) ?_
         refine pk_ ?_
         refine xnil ?_
         exact xmeet ⟨(decide (x4 = y58.2.2.2)), h, rfl⟩ ⟨lk_, (SubM.of (.keep rfl rfl (.refl _) (.keep rfl rfl (.refl _) (.keep rfl rfl (.refl _) (.keep rfl rfl (.refl _) (.keep rfl rfl (.refl _) (.nil _)))))) (.nil _))⟩
        ·rw [and_ff (show (decide (y58.1 = 2)) = false from (decide_eq_false hp109))] at h
         refine xsetB 99 (decide_eq_false hp109) rfl ?_
         refine sk_ ?_
         refine sk_ ?_
         refine sk_ ?_
         refine sk_ ?_
         refine pk_ ?_
         refine xnil ?_
         exact xmeet ⟨false, h, rfl⟩ ⟨lk_, (SubM.of (.keep rfl rfl (.refl _) (.keep rfl rfl (.refl _) (.keep rfl rfl (.refl _) (.keep rfl rfl (.refl _) (.keep rfl rfl (.refl _) (.nil _)))))) (.nil _))⟩
       ·clear h
        rintro _ ⟨x107, h, rfl⟩
        by_cases hp111 : x107 = true
        ·replace h := h.1 hp111
         refine xcondT' hp111 rfl ?_
         refine xseq ?_
         refine sr_ ?_
         refine vp_ (qv_fieldAddrB FldC.h rfl) ?_
         refine v_ (qv_loadB 1 ShpC.h rfl rfl rfl rfl) ?_
         refine vp_ (qv_fieldAddrB FldC.h rfl) ?_
         refine v_ (qv_loadB 0 ShpC.h rfl rfl rfl rfl) ?_
         refine vp_ (pv_bin2 rfl rfl rfl) ?_
         refine nt_ ?_
         by_cases hp117 : y58.2.2.1 ≤ f68
         ·replace h := h.1 hp117
          refine xcondT' (decide_eq_true hp117) rfl ?_
          refine xregion ?_
          refine mv_ ?_
          refine v_ (qv_loadB 3 ShpC.h rfl rfl rfl rfl) ?_
          refine mv_ ?_
          refine mv_ ?_
          refine v_ (qv_loadP 2 [] ((List.map E_palinode_api_Span x5.l).flatten) [] sq_ sl_ sl_ (part_all (seg_lenE (by rfl))) ShpC.h rfl rfl) ?_
          refine mv_ ?_
          obtain ⟨y119, h118, h⟩ := h
          obtain ⟨m118, hm118, h118⟩ := hc_palinoderef11_Ways _ _ _ _ _ _ _ h118
          refine xcallF (Fb := [⟨b14, 54, ([.v (.int .i64 f65), .v (.int .i64 f66), .v (.int .i64 f67), .v (.int .i64 f68), .v (.int .i64 f69), .v (.int .i64 f70)] ++ (List.map ew f71.l).flatten)⟩, ⟨b13, 88, [.v (.int .i64 y58.1), .v (.int .i64 y58.2.1), .v (.int .i64 y58.2.2.1), .v (.int .i64 y58.2.2.2)]⟩, ⟨b10, 29, ((List.map E_palinode_api_Span x5.l).flatten)⟩, ⟨b7, 24, [.sl 10 none (List.map E_palinode_api_Node x2.1), .v (.int .i64 x2.2)]⟩]) (Ft := []) ((ih m118 hm118).1 (o1.1, o1.2.1, (o1.2.2.1 + 1), o1.2.2.2.1, o1.2.2.2.2) x2 x3 x4 x5 (x6.drop (1 : Int).toNat) bx0 _ h118) Try.func31 (by kernel_rfl) rfl (.cons rfl (.refl _) (.cons rfl (.refl _) (.cons rfl (.refl _) (.cons rfl (.refl _) (.cons rfl (.refl _) (.cons rfl (.refl _) .nil)))))) (by refine SubM.trans (SubM.mvB 4 rfl) ?_; (simp only [List.eraseIdx]); exact sm_) rfl rfl ?_
          rintro _ _ _ ⟨rfl, rfl, rfl⟩
          simp only [List.nil_append, List.cons_append]
          refine nt_ ?_
          refine xretc ?_
          refine xthen_ret ?_
          replace h := h.symm
          subst h
          exact xret0 hg rfl (SubM.of (.keep rfl rfl (.refl _) (.nil _)) (.nil _)) ⟨rfl, rfl, rfl⟩ (by simp)
         ·replace h := h.2 hp117
          refine xcondF' (decide_eq_false hp117) rfl ?_
          refine xskipc ?_
          refine xthen ?_
          refine xretc ?_
          refine xthen_ret ?_
          replace h := h.symm
          subst h
          exact xret0 hg rfl (SubM.of (.drop (.drop (.drop (.drop (.keep rfl rfl (.refl _) (.nil _)))))) (.nil _)) ⟨rfl, rfl, rfl⟩ (by simp)
        ·replace h := h.2 hp111
         refine xcondF' (b_f hp111) rfl ?_
         refine xskipc ?_
         refine xthen ?_
         refine xseq ?_
         refine sr_ ?_
         refine vp_ (qv_fieldAddrB FldC.h rfl) ?_
         refine v_ (qv_loadB 0 ShpC.h rfl rfl rfl rfl) ?_
         refine vp_ (pv_bin2 rfl rfl rfl) ?_
         refine nt_ ?_
         by_cases hp188 : f65 = 4
         ·replace h := h.1 hp188
          refine xcondT' (decide_eq_true hp188) rfl ?_
          refine xseqM (fun σ => ∃ (f215 : Bool), ∃ (f216 : Arr 10 (Int × Int)), ∃ (f217 : Int), ∃ (f218 : Int), ∃ (f219 : Int), palinoderef11_Ways_j5 f68 y58 c_palinoderef11_Ways x2 x3 x4 x5 x6 f215 f216 f217 f218 f219 r ∧ σ = ⟨[(0, .v (.pointer (some ⟨bx0, 0, none⟩))), (2, .sl 1 none (List.map eb x3)), (3, .v (.int .i64 x4)), (5, .sl 4 none (List.map E_palinode_palinoderef11_Task ((x6.drop (1 : Int).toNat)))), (7, .v (.pointer (some ⟨b7, 0, none⟩))), (10, .v (.pointer (some ⟨b10, 0, none⟩))), (13, .v (.pointer (some ⟨b13, 0, none⟩))), (14, .v (.pointer (some ⟨b14, 0, none⟩)))], [⟨bx0, 85, ([.v (.bool f215)] ++ ((List.map E_palinode_api_Span f216.l).flatten ++ [.v (.int .i64 f217), .v (.int .i64 f218), .v (.int .i64 f219)]))⟩, ⟨b14, 54, ([.v (.int .i64 f65), .v (.int .i64 f66), .v (.int .i64 f67), .v (.int .i64 f68), .v (.int .i64 f69), .v (.int .i64 f70)] ++ (List.map ew f71.l).flatten)⟩, ⟨b13, 88, [.v (.int .i64 y58.1), .v (.int .i64 y58.2.1), .v (.int .i64 y58.2.2.1), .v (.int .i64 y58.2.2.2)]⟩, ⟨b10, 29, ((List.map E_palinode_api_Span x5.l).flatten)⟩, ⟨b7, 24, [.sl 10 none (List.map E_palinode_api_Node x2.1), .v (.int .i64 x2.2)]⟩], []⟩) ?_ ?_
          ·refine xseqM (fun σ => ∃ (x223 : Bool), palinoderef11_Ways_j6 y58 x6 f66 x4 c_palinoderef11_Ways o1 x2 x3 x5 f68 x223 r ∧ σ = ⟨[(0, .v (.pointer (some ⟨bx0, 0, none⟩))), (2, .sl 1 none (List.map eb x3)), (3, .v (.int .i64 x4)), (5, .sl 4 none (List.map E_palinode_palinoderef11_Task ((x6.drop (1 : Int).toNat)))), (7, .v (.pointer (some ⟨b7, 0, none⟩))), (10, .v (.pointer (some ⟨b10, 0, none⟩))), (13, .v (.pointer (some ⟨b13, 0, none⟩))), (14, .v (.pointer (some ⟨b14, 0, none⟩))), (129, .v (.bool x223))], [⟨b14, 54, ([.v (.int .i64 f65), .v (.int .i64 f66), .v (.int .i64 f67), .v (.int .i64 f68), .v (.int .i64 f69), .v (.int .i64 f70)] ++ (List.map ew f71.l).flatten)⟩, ⟨b13, 88, [.v (.int .i64 y58.1), .v (.int .i64 y58.2.1), .v (.int .i64 y58.2.2.1), .v (.int .i64 y58.2.2.2)]⟩, ⟨b10, 29, ((List.map E_palinode_api_Span x5.l).flatten)⟩, ⟨b7, 24, [.sl 10 none (List.map E_palinode_api_Node x2.1), .v (.int .i64 x2.2)]⟩, ⟨bx0, 85, ([.v (.bool o1.1)] ++ ((List.map E_palinode_api_Span o1.2.1.l).flatten ++ [.v (.int .i64 ((o1.2.2.1 + 1))), .v (.int .i64 o1.2.2.2.1), .v (.int .i64 o1.2.2.2.2)]))⟩], []⟩) ?_ ?_
           ·refine xregion ?_
            refine vp_ (qv_fieldAddrB FldC.h rfl) ?_
            refine v_ (qv_loadB 0 ShpC.h rfl rfl rfl rfl) ?_
            refine vp_ (pv_bin2 rfl rfl rfl) ?_
            refine mv_ ?_
            by_cases hp225 : f69 = (-1)
            ·rw [or_tt (show (decide (f69 = (-1))) = true from (decide_eq_true hp225))] at h
             refine xsetB 123 (decide_eq_true hp225) rfl ?_
             refine sk_ ?_
             refine sk_ ?_
             refine sk_ ?_
             refine sk_ ?_
             refine sk_ ?_
             refine pk_ ?_
             refine xnil ?_
             exact xmeet ⟨true, h, rfl⟩ ⟨lk_, (SubM.of (.keep rfl rfl (.refl _) (.keep rfl rfl (.refl _) (.keep rfl rfl (.refl _) (.keep rfl rfl (.refl _) (.keep rfl rfl (.refl _) (.nil _)))))) (.nil _))⟩
            ·rw [or_ff (show (decide (f69 = (-1))) = false from (decide_eq_false hp225))] at h
             refine xsetB 123 (decide_eq_false hp225) rfl ?_
             refine vp_ (qv_fieldAddrB FldC.h rfl) ?_
             refine v_ (qv_loadB 1 ShpC.h rfl rfl rfl rfl) ?_
             refine vp_ (qv_fieldAddrB FldC.h rfl) ?_
             refine v_ (qv_loadB 0 ShpC.h rfl rfl rfl rfl) ?_
             refine vp_ (pv_bin2 rfl rfl rfl) ?_
             refine pk_ ?_
             refine xnil ?_
             exact xmeet ⟨(decide (y58.2.2.1 < f69)), h, rfl⟩ ⟨lk_, (SubM.of (.keep rfl rfl (.refl _) (.keep rfl rfl (.refl _) (.keep rfl rfl (.refl _) (.keep rfl rfl (.refl _) (.keep rfl rfl (.refl _) (.nil _)))))) (.nil _))⟩
           ·clear h
            rintro _ ⟨x223, h, rfl⟩
            by_cases hp227 : x223 = true
            ·replace h := h.1 hp227
             refine xcondT' hp227 rfl ?_
             refine xregionD (m := 19) (by kernel_rfl) rfl ?_
             obtain ⟨h228, h⟩ := h
             obtain ⟨y230, h229, h⟩ := h
             obtain ⟨y233, h232, h⟩ := h
             refine xpcut 1 #[true, true, true, true, true, true, true, true, true, true, true, true, true, true, true, true, true, true, false] (fun σ => ∃ (i231 : Option (Nat × Nat)), σ = ⟨[(0, .v (.pointer (some ⟨bx0, 0, none⟩))), (2, .sl 1 none (List.map eb x3)), (3, .v (.int .i64 x4)), (5, .sl 4 none (List.map E_palinode_palinoderef11_Task ((x6.drop (1 : Int).toNat)))), (7, .v (.pointer (some ⟨b7, 0, none⟩))), (10, .v (.pointer (some ⟨b10, 0, none⟩))), (13, .v (.pointer (some ⟨b13, 0, none⟩))), (14, .v (.pointer (some ⟨b14, 0, none⟩))), (130, .v (.pointer (some ⟨bx0, 0, none⟩))), (131, .agg [.sl 10 none (List.map E_palinode_api_Node x2.1), .v (.int .i64 x2.2)]), (132, .sl 1 none (List.map eb x3)), (133, .v (.int .i64 x4)), (134, .agg ((List.map E_palinode_api_Span x5.l).flatten)), (147, .sl 4 (some i231) (List.map E_palinode_palinoderef11_Task y230))], [⟨b14, 54, ([.v (.int .i64 f65), .v (.int .i64 f66), .v (.int .i64 f67), .v (.int .i64 f68), .v (.int .i64 f69), .v (.int .i64 f70)] ++ (List.map ew f71.l).flatten)⟩, ⟨b13, 88, [.v (.int .i64 y58.1), .v (.int .i64 y58.2.1), .v (.int .i64 y58.2.2.1), .v (.int .i64 y58.2.2.2)]⟩, ⟨b10, 29, ((List.map E_palinode_api_Span x5.l).flatten)⟩, ⟨b7, 24, [.sl 10 none (List.map E_palinode_api_Node x2.1), .v (.int .i64 x2.2)]⟩, ⟨bx0, 85, ([.v (.bool o1.1)] ++ ((List.map E_palinode_api_Span o1.2.1.l).flatten ++ [.v (.int .i64 ((o1.2.2.1 + 1))), .v (.int .i64 o1.2.2.2.1), .v (.int .i64 o1.2.2.2.2)]))⟩], [⟨i231, 88, 4, y230.length⟩]⟩) ?_ (fun key234 => ?_)
             ·rintro _ ⟨i231, rfl⟩
              refine xpstep (i := 18) (by kernel_rfl) rfl ?_
              obtain ⟨m232, hm232, h232⟩ := hc_palinoderef11_Ways _ _ _ _ _ _ _ h232
              refine wcallF (Fb := [⟨b14, 54, ([.v (.int .i64 f65), .v (.int .i64 f66), .v (.int .i64 f67), .v (.int .i64 f68), .v (.int .i64 f69), .v (.int .i64 f70)] ++ (List.map ew f71.l).flatten)⟩, ⟨b13, 88, [.v (.int .i64 y58.1), .v (.int .i64 y58.2.1), .v (.int .i64 y58.2.2.1), .v (.int .i64 y58.2.2.2)]⟩, ⟨b10, 29, ((List.map E_palinode_api_Span x5.l).flatten)⟩, ⟨b7, 24, [.sl 10 none (List.map E_palinode_api_Node x2.1), .v (.int .i64 x2.2)]⟩]) (Ft := [⟨i231, 88, 4, y230.length⟩]) ((ih m232 hm232).1 (o1.1, o1.2.1, (o1.2.2.1 + 1), o1.2.2.2.1, o1.2.2.2.2) x2 x3 x4 x5 y230 bx0 _ h232) Try.func31 (by kernel_rfl) rfl (.cons rfl (.refl _) (.cons rfl (.refl _) (.cons rfl (.refl _) (.cons rfl (.refl _) (.cons rfl (.refl _) (.cons rfl (.tok _ _ _) .nil)))))) (by refine SubM.trans (SubM.mvB 4 rfl) ?_; (simp only [List.eraseIdx]); exact sm_) rfl rfl ?_
              rintro _ _ _ ⟨rfl, rfl, rfl⟩
              simp only [List.nil_append, List.cons_append]
              refine xpdone (by kernel_rfl) ?_
              exact xmeet ⟨y233.1, y233.2.1, y233.2.2.1, y233.2.2.2.1, y233.2.2.2.2, h, rfl⟩ ⟨lk_, (SubM.of (.keep rfl rfl (.refl _) (.keep rfl rfl (.refl _) (.keep rfl rfl (.refl _) (.keep rfl rfl (.refl _) (.keep rfl rfl (.refl _) (.nil _)))))) (.nil _))⟩
             refine xpcut 3 #[true, true, true, true, true, true, true, true, true, true, true, true, true, true, true, true, false, false, false] (fun σ => σ = ⟨[(0, .v (.pointer (some ⟨bx0, 0, none⟩))), (2, .sl 1 none (List.map eb x3)), (3, .v (.int .i64 x4)), (5, .sl 4 none (List.map E_palinode_palinoderef11_Task ((x6.drop (1 : Int).toNat)))), (7, .v (.pointer (some ⟨b7, 0, none⟩))), (10, .v (.pointer (some ⟨b10, 0, none⟩))), (13, .v (.pointer (some ⟨b13, 0, none⟩))), (14, .v (.pointer (some ⟨b14, 0, none⟩))), (130, .v (.pointer (some ⟨bx0, 0, none⟩))), (131, .agg [.sl 10 none (List.map E_palinode_api_Node x2.1), .v (.int .i64 x2.2)]), (132, .sl 1 none (List.map eb x3)), (133, .v (.int .i64 x4)), (134, .agg ((List.map E_palinode_api_Span x5.l).flatten)), (135, .sl 4 none (List.map E_palinode_palinoderef11_Task ((x6.drop (1 : Int).toNat)))), (138, .agg [.v (.int .i64 0), .v (.int .i64 f66), .v (.int .i64 0), .v (.int .i64 0)]), (145, .agg [.v (.int .i64 2), .v (.int .i64 y58.2.1), .v (.int .i64 ((y58.2.2.1 + 1))), .v (.int .i64 x4)])], [⟨b14, 54, ([.v (.int .i64 f65), .v (.int .i64 f66), .v (.int .i64 f67), .v (.int .i64 f68), .v (.int .i64 f69), .v (.int .i64 f70)] ++ (List.map ew f71.l).flatten)⟩, ⟨b13, 88, [.v (.int .i64 y58.1), .v (.int .i64 y58.2.1), .v (.int .i64 y58.2.2.1), .v (.int .i64 y58.2.2.2)]⟩, ⟨b10, 29, ((List.map E_palinode_api_Span x5.l).flatten)⟩, ⟨b7, 24, [.sl 10 none (List.map E_palinode_api_Node x2.1), .v (.int .i64 x2.2)]⟩, ⟨bx0, 85, ([.v (.bool o1.1)] ++ ((List.map E_palinode_api_Span o1.2.1.l).flatten ++ [.v (.int .i64 ((o1.2.2.1 + 1))), .v (.int .i64 o1.2.2.2.1), .v (.int .i64 o1.2.2.2.2)]))⟩], []⟩) ?_ (fun key235 => ?_)
             ·rintro _ rfl
              refine xpstep (i := 16) (by kernel_rfl) rfl ?_
              refine wbuildSliceM (f := E_palinode_palinoderef11_Task) [(0, f66, 0, 0), (2, y58.2.1, (y58.2.2.1 + 1), x4)] UndC.h InfC.h rfl rfl wr_ rfl rfl rfl rfl fun s146 => ?_
              refine xpstep (i := 17) (by kernel_rfl) rfl ?_
              refine wcallM (palinoderef11_row_con (x6.drop (1 : Int).toNat) ([(0, f66, 0, 0), (2, y58.2.1, (y58.2.2.1 + 1), x4)]) _ h229) Try.func45 (by kernel_rfl) rfl (.cons rfl (.refl _) (.cons rfl (.tok _ _ _) .nil)) rfl rfl fun i231 => ?_
              exact xpuse key234 ⟨i231, rfl⟩ ⟨lk_, (SubM.of (.keep rfl rfl (.refl _) (.keep rfl rfl (.refl _) (.keep rfl rfl (.refl _) (.keep rfl rfl (.refl _) (.keep rfl rfl (.refl _) (.nil _)))))) (.keep rfl (.nil _)))⟩ rfl (by kernel_rfl)
             refine xpcut 4 #[true, true, true, true, false, true, true, true, true, true, true, true, true, true, true, true, false, false, false] (fun σ => σ = ⟨[(0, .v (.pointer (some ⟨bx0, 0, none⟩))), (2, .sl 1 none (List.map eb x3)), (3, .v (.int .i64 x4)), (5, .sl 4 none (List.map E_palinode_palinoderef11_Task ((x6.drop (1 : Int).toNat)))), (7, .v (.pointer (some ⟨b7, 0, none⟩))), (10, .v (.pointer (some ⟨b10, 0, none⟩))), (13, .v (.pointer (some ⟨b13, 0, none⟩))), (14, .v (.pointer (some ⟨b14, 0, none⟩))), (130, .v (.pointer (some ⟨bx0, 0, none⟩))), (131, .agg [.sl 10 none (List.map E_palinode_api_Node x2.1), .v (.int .i64 x2.2)]), (132, .sl 1 none (List.map eb x3)), (133, .v (.int .i64 x4)), (135, .sl 4 none (List.map E_palinode_palinoderef11_Task ((x6.drop (1 : Int).toNat)))), (138, .agg [.v (.int .i64 0), .v (.int .i64 f66), .v (.int .i64 0), .v (.int .i64 0)]), (145, .agg [.v (.int .i64 2), .v (.int .i64 y58.2.1), .v (.int .i64 ((y58.2.2.1 + 1))), .v (.int .i64 x4)])], [⟨b14, 54, ([.v (.int .i64 f65), .v (.int .i64 f66), .v (.int .i64 f67), .v (.int .i64 f68), .v (.int .i64 f69), .v (.int .i64 f70)] ++ (List.map ew f71.l).flatten)⟩, ⟨b13, 88, [.v (.int .i64 y58.1), .v (.int .i64 y58.2.1), .v (.int .i64 y58.2.2.1), .v (.int .i64 y58.2.2.2)]⟩, ⟨b10, 29, ((List.map E_palinode_api_Span x5.l).flatten)⟩, ⟨b7, 24, [.sl 10 none (List.map E_palinode_api_Node x2.1), .v (.int .i64 x2.2)]⟩, ⟨bx0, 85, ([.v (.bool o1.1)] ++ ((List.map E_palinode_api_Span o1.2.1.l).flatten ++ [.v (.int .i64 ((o1.2.2.1 + 1))), .v (.int .i64 o1.2.2.2.1), .v (.int .i64 o1.2.2.2.2)]))⟩], []⟩) ?_ (fun key236 => ?_)
             ·rintro _ rfl
              refine xfl0 [⟨4, 134, .agg ((List.map E_palinode_api_Span x5.l).flatten)⟩] 3 ?_
              refine xflstep 16 (by kernel_rfl) rfl (.cons rfl rfl rfl (fun _ => rfl) (fun _ => qv_loadP 2 [] ((List.map E_palinode_api_Span x5.l).flatten) [] sq_ sl_ sl_ (part_all (seg_lenE (by rfl))) ShpC.h rfl rfl) .nil) fun D l td hR => ?_
              refine wbuildSliceM (f := E_palinode_palinoderef11_Task) [(0, f66, 0, 0), (2, y58.2.1, (y58.2.2.1 + 1), x4)] UndC.h InfC.h rfl rfl wr_ rfl rfl rfl rfl fun s146 => ?_
              refine xflgo1 hR ?_
              refine xflstep 17 (by kernel_rfl) rfl (.cons rfl rfl rfl (fun _ => rfl) (fun _ => qv_loadP 2 [] ((List.map E_palinode_api_Span x5.l).flatten) [] sq_ sl_ sl_ (part_all (seg_lenE (by rfl))) ShpC.h rfl rfl) .nil) fun D l td hR => ?_
              refine wcallM (palinoderef11_row_con (x6.drop (1 : Int).toNat) ([(0, f66, 0, 0), (2, y58.2.1, (y58.2.2.1 + 1), x4)]) _ h229) Try.func45 (by kernel_rfl) rfl (.cons rfl (.refl _) (.cons rfl (.tok _ _ _) .nil)) rfl rfl fun i231 => ?_
              refine xflgo1 hR ?_
              refine xflend (l' := #[true, true, true, true, true, true, true, true, true, true, true, true, true, true, true, true, true, true, false]) (by kernel_rfl) (.cons rfl rfl rfl (fun _ => rfl) (fun _ => qv_loadP 2 [] ((List.map E_palinode_api_Span x5.l).flatten) [] sq_ sl_ sl_ (part_all (seg_lenE (by rfl))) ShpC.h rfl rfl) .nil) (by kernel_rfl) rfl (by kernel_rfl) (by kernel_rfl) ?_
              simp only [List.nil_append, List.cons_append, List.map_cons, List.map_nil]
              exact xpuse key234 ⟨i231, rfl⟩ ⟨lk_, (SubM.of (.keep rfl rfl (.refl _) (.keep rfl rfl (.refl _) (.keep rfl rfl (.refl _) (.keep rfl rfl (.refl _) (.keep rfl rfl (.refl _) (.nil _)))))) (.keep rfl (.nil _)))⟩ rfl (by kernel_rfl)
             refine xpcut 4 #[true, false, true, true, true, true, true, true, true, true, true, true, true, true, true, true, false, false, false] (fun σ => σ = ⟨[(0, .v (.pointer (some ⟨bx0, 0, none⟩))), (2, .sl 1 none (List.map eb x3)), (3, .v (.int .i64 x4)), (5, .sl 4 none (List.map E_palinode_palinoderef11_Task ((x6.drop (1 : Int).toNat)))), (7, .v (.pointer (some ⟨b7, 0, none⟩))), (10, .v (.pointer (some ⟨b10, 0, none⟩))), (13, .v (.pointer (some ⟨b13, 0, none⟩))), (14, .v (.pointer (some ⟨b14, 0, none⟩))), (130, .v (.pointer (some ⟨bx0, 0, none⟩))), (132, .sl 1 none (List.map eb x3)), (133, .v (.int .i64 x4)), (134, .agg ((List.map E_palinode_api_Span x5.l).flatten)), (135, .sl 4 none (List.map E_palinode_palinoderef11_Task ((x6.drop (1 : Int).toNat)))), (138, .agg [.v (.int .i64 0), .v (.int .i64 f66), .v (.int .i64 0), .v (.int .i64 0)]), (145, .agg [.v (.int .i64 2), .v (.int .i64 y58.2.1), .v (.int .i64 ((y58.2.2.1 + 1))), .v (.int .i64 x4)])], [⟨b14, 54, ([.v (.int .i64 f65), .v (.int .i64 f66), .v (.int .i64 f67), .v (.int .i64 f68), .v (.int .i64 f69), .v (.int .i64 f70)] ++ (List.map ew f71.l).flatten)⟩, ⟨b13, 88, [.v (.int .i64 y58.1), .v (.int .i64 y58.2.1), .v (.int .i64 y58.2.2.1), .v (.int .i64 y58.2.2.2)]⟩, ⟨b10, 29, ((List.map E_palinode_api_Span x5.l).flatten)⟩, ⟨b7, 24, [.sl 10 none (List.map E_palinode_api_Node x2.1), .v (.int .i64 x2.2)]⟩, ⟨bx0, 85, ([.v (.bool o1.1)] ++ ((List.map E_palinode_api_Span o1.2.1.l).flatten ++ [.v (.int .i64 ((o1.2.2.1 + 1))), .v (.int .i64 o1.2.2.2.1), .v (.int .i64 o1.2.2.2.2)]))⟩], []⟩) ?_ (fun key237 => ?_)
             ·rintro _ rfl
              refine xfl0 [⟨1, 131, .agg [.sl 10 none (List.map E_palinode_api_Node x2.1), .v (.int .i64 x2.2)]⟩] 3 ?_
              refine xflstep 16 (by kernel_rfl) rfl (.cons rfl rfl rfl (fun _ => rfl) (fun _ => qv_loadB 3 ShpC.h rfl rfl rfl rfl) .nil) fun D l td hR => ?_
              refine wbuildSliceM (f := E_palinode_palinoderef11_Task) [(0, f66, 0, 0), (2, y58.2.1, (y58.2.2.1 + 1), x4)] UndC.h InfC.h rfl rfl wr_ rfl rfl rfl rfl fun s146 => ?_
              refine xflgo1 hR ?_
              refine xflstep 17 (by kernel_rfl) rfl (.cons rfl rfl rfl (fun _ => rfl) (fun _ => qv_loadB 3 ShpC.h rfl rfl rfl rfl) .nil) fun D l td hR => ?_
              refine wcallM (palinoderef11_row_con (x6.drop (1 : Int).toNat) ([(0, f66, 0, 0), (2, y58.2.1, (y58.2.2.1 + 1), x4)]) _ h229) Try.func45 (by kernel_rfl) rfl (.cons rfl (.refl _) (.cons rfl (.tok _ _ _) .nil)) rfl rfl fun i231 => ?_
              refine xflgo1 hR ?_
              refine xflend (l' := #[true, true, true, true, true, true, true, true, true, true, true, true, true, true, true, true, true, true, false]) (by kernel_rfl) (.cons rfl rfl rfl (fun _ => rfl) (fun _ => qv_loadB 3 ShpC.h rfl rfl rfl rfl) .nil) (by kernel_rfl) rfl (by kernel_rfl) (by kernel_rfl) ?_
              simp only [List.nil_append, List.cons_append, List.map_cons, List.map_nil]
              exact xpuse key234 ⟨i231, rfl⟩ ⟨lk_, (SubM.of (.keep rfl rfl (.refl _) (.keep rfl rfl (.refl _) (.keep rfl rfl (.refl _) (.keep rfl rfl (.refl _) (.keep rfl rfl (.refl _) (.nil _)))))) (.keep rfl (.nil _)))⟩ rfl (by kernel_rfl)
             refine xpcut 5 #[true, false, true, true, false, true, true, true, true, true, true, true, true, true, true, true, false, false, false] (fun σ => σ = ⟨[(0, .v (.pointer (some ⟨bx0, 0, none⟩))), (2, .sl 1 none (List.map eb x3)), (3, .v (.int .i64 x4)), (5, .sl 4 none (List.map E_palinode_palinoderef11_Task ((x6.drop (1 : Int).toNat)))), (7, .v (.pointer (some ⟨b7, 0, none⟩))), (10, .v (.pointer (some ⟨b10, 0, none⟩))), (13, .v (.pointer (some ⟨b13, 0, none⟩))), (14, .v (.pointer (some ⟨b14, 0, none⟩))), (130, .v (.pointer (some ⟨bx0, 0, none⟩))), (132, .sl 1 none (List.map eb x3)), (133, .v (.int .i64 x4)), (135, .sl 4 none (List.map E_palinode_palinoderef11_Task ((x6.drop (1 : Int).toNat)))), (138, .agg [.v (.int .i64 0), .v (.int .i64 f66), .v (.int .i64 0), .v (.int .i64 0)]), (145, .agg [.v (.int .i64 2), .v (.int .i64 y58.2.1), .v (.int .i64 ((y58.2.2.1 + 1))), .v (.int .i64 x4)])], [⟨b14, 54, ([.v (.int .i64 f65), .v (.int .i64 f66), .v (.int .i64 f67), .v (.int .i64 f68), .v (.int .i64 f69), .v (.int .i64 f70)] ++ (List.map ew f71.l).flatten)⟩, ⟨b13, 88, [.v (.int .i64 y58.1), .v (.int .i64 y58.2.1), .v (.int .i64 y58.2.2.1), .v (.int .i64 y58.2.2.2)]⟩, ⟨b10, 29, ((List.map E_palinode_api_Span x5.l).flatten)⟩, ⟨b7, 24, [.sl 10 none (List.map E_palinode_api_Node x2.1), .v (.int .i64 x2.2)]⟩, ⟨bx0, 85, ([.v (.bool o1.1)] ++ ((List.map E_palinode_api_Span o1.2.1.l).flatten ++ [.v (.int .i64 ((o1.2.2.1 + 1))), .v (.int .i64 o1.2.2.2.1), .v (.int .i64 o1.2.2.2.2)]))⟩], []⟩) ?_ (fun key238 => ?_)
             ·rintro _ rfl
              refine xfl0 [⟨1, 131, .agg [.sl 10 none (List.map E_palinode_api_Node x2.1), .v (.int .i64 x2.2)]⟩, ⟨4, 134, .agg ((List.map E_palinode_api_Span x5.l).flatten)⟩] 3 ?_
              refine xflstep 16 (by kernel_rfl) rfl (.cons rfl rfl rfl (fun _ => rfl) (fun _ => qv_loadB 3 ShpC.h rfl rfl rfl rfl) (.cons rfl rfl rfl (fun _ => rfl) (fun _ => qv_loadP 2 [] ((List.map E_palinode_api_Span x5.l).flatten) [] sq_ sl_ sl_ (part_all (seg_lenE (by rfl))) ShpC.h rfl rfl) .nil)) fun D l td hR => ?_
              refine wbuildSliceM (f := E_palinode_palinoderef11_Task) [(0, f66, 0, 0), (2, y58.2.1, (y58.2.2.1 + 1), x4)] UndC.h InfC.h rfl rfl wr_ rfl rfl rfl rfl fun s146 => ?_
              refine xflgo1 hR ?_
              refine xflstep 17 (by kernel_rfl) rfl (.cons rfl rfl rfl (fun _ => rfl) (fun _ => qv_loadB 3 ShpC.h rfl rfl rfl rfl) (.cons rfl rfl rfl (fun _ => rfl) (fun _ => qv_loadP 2 [] ((List.map E_palinode_api_Span x5.l).flatten) [] sq_ sl_ sl_ (part_all (seg_lenE (by rfl))) ShpC.h rfl rfl) .nil)) fun D l td hR => ?_
              refine wcallM (palinoderef11_row_con (x6.drop (1 : Int).toNat) ([(0, f66, 0, 0), (2, y58.2.1, (y58.2.2.1 + 1), x4)]) _ h229) Try.func45 (by kernel_rfl) rfl (.cons rfl (.refl _) (.cons rfl (.tok _ _ _) .nil)) rfl rfl fun i231 => ?_
              refine xflgo1 hR ?_
              refine xflend (l' := #[true, true, true, true, true, true, true, true, true, true, true, true, true, true, true, true, true, true, false]) (by kernel_rfl) (.cons rfl rfl rfl (fun _ => rfl) (fun _ => qv_loadB 3 ShpC.h rfl rfl rfl rfl) (.cons rfl rfl rfl (fun _ => rfl) (fun _ => qv_loadP 2 [] ((List.map E_palinode_api_Span x5.l).flatten) [] sq_ sl_ sl_ (part_all (seg_lenE (by rfl))) ShpC.h rfl rfl) .nil)) (by kernel_rfl) rfl (by kernel_rfl) (by kernel_rfl) ?_
              simp only [List.nil_append, List.cons_append, List.map_cons, List.map_nil]
              exact xpuse key234 ⟨i231, rfl⟩ ⟨lk_, (SubM.of (.keep rfl rfl (.refl _) (.keep rfl rfl (.refl _) (.keep rfl rfl (.refl _) (.keep rfl rfl (.refl _) (.keep rfl rfl (.refl _) (.nil _)))))) (.keep rfl (.nil _)))⟩ rfl (by kernel_rfl)
             refine xpcut 7 #[true, true, true, true, true, true, true, false, false, true, false, true, true, true, true, false, false, false, false] (fun σ => σ = ⟨[(0, .v (.pointer (some ⟨bx0, 0, none⟩))), (2, .sl 1 none (List.map eb x3)), (3, .v (.int .i64 x4)), (5, .sl 4 none (List.map E_palinode_palinoderef11_Task ((x6.drop (1 : Int).toNat)))), (7, .v (.pointer (some ⟨b7, 0, none⟩))), (10, .v (.pointer (some ⟨b10, 0, none⟩))), (13, .v (.pointer (some ⟨b13, 0, none⟩))), (14, .v (.pointer (some ⟨b14, 0, none⟩))), (130, .v (.pointer (some ⟨bx0, 0, none⟩))), (131, .agg [.sl 10 none (List.map E_palinode_api_Node x2.1), .v (.int .i64 x2.2)]), (132, .sl 1 none (List.map eb x3)), (133, .v (.int .i64 x4)), (134, .agg ((List.map E_palinode_api_Span x5.l).flatten)), (135, .sl 4 none (List.map E_palinode_palinoderef11_Task ((x6.drop (1 : Int).toNat)))), (136, .v (.pointer (some ⟨b14, 1, none⟩))), (139, .v (.pointer (some ⟨b13, 1, none⟩))), (143, .v (.int .i64 ((y58.2.2.1 + 1)))), (144, .v (.int .i64 x4))], [⟨b14, 54, ([.v (.int .i64 f65), .v (.int .i64 f66), .v (.int .i64 f67), .v (.int .i64 f68), .v (.int .i64 f69), .v (.int .i64 f70)] ++ (List.map ew f71.l).flatten)⟩, ⟨b13, 88, [.v (.int .i64 y58.1), .v (.int .i64 y58.2.1), .v (.int .i64 y58.2.2.1), .v (.int .i64 y58.2.2.2)]⟩, ⟨b10, 29, ((List.map E_palinode_api_Span x5.l).flatten)⟩, ⟨b7, 24, [.sl 10 none (List.map E_palinode_api_Node x2.1), .v (.int .i64 x2.2)]⟩, ⟨bx0, 85, ([.v (.bool o1.1)] ++ ((List.map E_palinode_api_Span o1.2.1.l).flatten ++ [.v (.int .i64 ((o1.2.2.1 + 1))), .v (.int .i64 o1.2.2.2.1), .v (.int .i64 o1.2.2.2.2)]))⟩], []⟩) ?_ (fun key239 => ?_)
             ·rintro _ rfl
              refine xpstepN (is := [7, 10]) (by kernel_rfl) (by simp) ?_
              intro i hi; simp only [List.mem_cons, List.not_mem_nil, or_false] at hi; rcases hi with rfl | rfl
              ·refine ⟨_, rfl, ?_⟩
               refine wv_ (qv_loadB 0 ShpC.h rfl rfl rfl rfl) ?_
               refine pl_ 8 rfl (pv_buildC StrC.h rfl rfl) ?_
               refine xpvalE 10 [] rfl (qv_loadB 1 ShpC.h rfl rfl rfl rfl) rfl rfl (by kernel_rfl) (by kernel_rfl) (by kernel_rfl) (fun _ _ _ _ h => h) ?_
               refine pl_ 15 rfl (pv_buildC StrC.h rfl rfl) ?_
               exact xpuse key235 rfl ⟨lk_, (SubM.of (.keep rfl rfl (.refl _) (.keep rfl rfl (.refl _) (.keep rfl rfl (.refl _) (.keep rfl rfl (.refl _) (.keep rfl rfl (.refl _) (.nil _)))))) (.nil _))⟩ rfl (by kernel_rfl)
              ·refine ⟨_, rfl, ?_⟩
               refine wv_ (qv_loadB 1 ShpC.h rfl rfl rfl rfl) ?_
               refine pl_ 15 rfl (pv_buildC StrC.h rfl rfl) ?_
               refine xpvalE 7 [] rfl (qv_loadB 0 ShpC.h rfl rfl rfl rfl) rfl rfl (by kernel_rfl) (by kernel_rfl) (by kernel_rfl) (fun _ _ _ _ h => h) ?_
               refine pl_ 8 rfl (pv_buildC StrC.h rfl rfl) ?_
               exact xpuse key235 rfl ⟨lk_, (SubM.of (.keep rfl rfl (.refl _) (.keep rfl rfl (.refl _) (.keep rfl rfl (.refl _) (.keep rfl rfl (.refl _) (.keep rfl rfl (.refl _) (.nil _)))))) (.nil _))⟩ rfl (by kernel_rfl)
             refine xpcut 8 #[true, true, true, true, true, true, true, false, false, true, true, true, false, false, true, false, false, false, false] (fun σ => σ = ⟨[(0, .v (.pointer (some ⟨bx0, 0, none⟩))), (2, .sl 1 none (List.map eb x3)), (3, .v (.int .i64 x4)), (5, .sl 4 none (List.map E_palinode_palinoderef11_Task ((x6.drop (1 : Int).toNat)))), (7, .v (.pointer (some ⟨b7, 0, none⟩))), (10, .v (.pointer (some ⟨b10, 0, none⟩))), (13, .v (.pointer (some ⟨b13, 0, none⟩))), (14, .v (.pointer (some ⟨b14, 0, none⟩))), (130, .v (.pointer (some ⟨bx0, 0, none⟩))), (131, .agg [.sl 10 none (List.map E_palinode_api_Node x2.1), .v (.int .i64 x2.2)]), (132, .sl 1 none (List.map eb x3)), (133, .v (.int .i64 x4)), (134, .agg ((List.map E_palinode_api_Span x5.l).flatten)), (135, .sl 4 none (List.map E_palinode_palinoderef11_Task ((x6.drop (1 : Int).toNat)))), (136, .v (.pointer (some ⟨b14, 1, none⟩))), (140, .v (.int .i64 y58.2.1)), (141, .v (.pointer (some ⟨b13, 2, none⟩))), (144, .v (.int .i64 x4))], [⟨b14, 54, ([.v (.int .i64 f65), .v (.int .i64 f66), .v (.int .i64 f67), .v (.int .i64 f68), .v (.int .i64 f69), .v (.int .i64 f70)] ++ (List.map ew f71.l).flatten)⟩, ⟨b13, 88, [.v (.int .i64 y58.1), .v (.int .i64 y58.2.1), .v (.int .i64 y58.2.2.1), .v (.int .i64 y58.2.2.2)]⟩, ⟨b10, 29, ((List.map E_palinode_api_Span x5.l).flatten)⟩, ⟨b7, 24, [.sl 10 none (List.map E_palinode_api_Node x2.1), .v (.int .i64 x2.2)]⟩, ⟨bx0, 85, ([.v (.bool o1.1)] ++ ((List.map E_palinode_api_Span o1.2.1.l).flatten ++ [.v (.int .i64 ((o1.2.2.1 + 1))), .v (.int .i64 o1.2.2.2.1), .v (.int .i64 o1.2.2.2.2)]))⟩], []⟩) ?_ (fun key240 => ?_)
             ·rintro _ rfl
              refine xpstepN (is := [7, 12]) (by kernel_rfl) (by simp) ?_
              intro i hi; simp only [List.mem_cons, List.not_mem_nil, or_false] at hi; rcases hi with rfl | rfl
              ·refine ⟨_, rfl, ?_⟩
               refine wv_ (qv_loadB 0 ShpC.h rfl rfl rfl rfl) ?_
               refine pl_ 8 rfl (pv_buildC StrC.h rfl rfl) ?_
               refine xpvalE 12 [] rfl (qv_loadB 1 ShpC.h rfl rfl rfl rfl) rfl rfl (by kernel_rfl) (by kernel_rfl) (by kernel_rfl) (fun _ _ _ _ h => h) ?_
               refine pl_ 13 rfl (pv_addI h228 rfl rfl) ?_
               refine pl_ 15 rfl (pv_buildC StrC.h rfl rfl) ?_
               exact xpuse key235 rfl ⟨lk_, (SubM.of (.keep rfl rfl (.refl _) (.keep rfl rfl (.refl _) (.keep rfl rfl (.refl _) (.keep rfl rfl (.refl _) (.keep rfl rfl (.refl _) (.nil _)))))) (.nil _))⟩ rfl (by kernel_rfl)
              ·refine ⟨_, rfl, ?_⟩
               refine wv_ (qv_loadB 1 ShpC.h rfl rfl rfl rfl) ?_
               refine pl_ 13 rfl (pv_addI h228 rfl rfl) ?_
               refine pl_ 15 rfl (pv_buildC StrC.h rfl rfl) ?_
               refine xpvalE 7 [] rfl (qv_loadB 0 ShpC.h rfl rfl rfl rfl) rfl rfl (by kernel_rfl) (by kernel_rfl) (by kernel_rfl) (fun _ _ _ _ h => h) ?_
               refine pl_ 8 rfl (pv_buildC StrC.h rfl rfl) ?_
               exact xpuse key235 rfl ⟨lk_, (SubM.of (.keep rfl rfl (.refl _) (.keep rfl rfl (.refl _) (.keep rfl rfl (.refl _) (.keep rfl rfl (.refl _) (.keep rfl rfl (.refl _) (.nil _)))))) (.nil _))⟩ rfl (by kernel_rfl)
             refine xpcut 8 #[true, true, true, true, false, true, true, false, false, true, false, true, true, true, true, false, false, false, false] (fun σ => σ = ⟨[(0, .v (.pointer (some ⟨bx0, 0, none⟩))), (2, .sl 1 none (List.map eb x3)), (3, .v (.int .i64 x4)), (5, .sl 4 none (List.map E_palinode_palinoderef11_Task ((x6.drop (1 : Int).toNat)))), (7, .v (.pointer (some ⟨b7, 0, none⟩))), (10, .v (.pointer (some ⟨b10, 0, none⟩))), (13, .v (.pointer (some ⟨b13, 0, none⟩))), (14, .v (.pointer (some ⟨b14, 0, none⟩))), (130, .v (.pointer (some ⟨bx0, 0, none⟩))), (131, .agg [.sl 10 none (List.map E_palinode_api_Node x2.1), .v (.int .i64 x2.2)]), (132, .sl 1 none (List.map eb x3)), (133, .v (.int .i64 x4)), (135, .sl 4 none (List.map E_palinode_palinoderef11_Task ((x6.drop (1 : Int).toNat)))), (136, .v (.pointer (some ⟨b14, 1, none⟩))), (139, .v (.pointer (some ⟨b13, 1, none⟩))), (143, .v (.int .i64 ((y58.2.2.1 + 1)))), (144, .v (.int .i64 x4))], [⟨b14, 54, ([.v (.int .i64 f65), .v (.int .i64 f66), .v (.int .i64 f67), .v (.int .i64 f68), .v (.int .i64 f69), .v (.int .i64 f70)] ++ (List.map ew f71.l).flatten)⟩, ⟨b13, 88, [.v (.int .i64 y58.1), .v (.int .i64 y58.2.1), .v (.int .i64 y58.2.2.1), .v (.int .i64 y58.2.2.2)]⟩, ⟨b10, 29, ((List.map E_palinode_api_Span x5.l).flatten)⟩, ⟨b7, 24, [.sl 10 none (List.map E_palinode_api_Node x2.1), .v (.int .i64 x2.2)]⟩, ⟨bx0, 85, ([.v (.bool o1.1)] ++ ((List.map E_palinode_api_Span o1.2.1.l).flatten ++ [.v (.int .i64 ((o1.2.2.1 + 1))), .v (.int .i64 o1.2.2.2.1), .v (.int .i64 o1.2.2.2.2)]))⟩], []⟩) ?_ (fun key241 => ?_)
             ·rintro _ rfl
              refine xpstepN (is := [4, 7, 10]) (by kernel_rfl) (by simp) ?_
              intro i hi; simp only [List.mem_cons, List.not_mem_nil, or_false] at hi; rcases hi with rfl | rfl | rfl
              ·refine ⟨_, rfl, ?_⟩
               refine wv_ (qv_loadP 2 [] ((List.map E_palinode_api_Span x5.l).flatten) [] sq_ sl_ sl_ (part_all (seg_lenE (by rfl))) ShpC.h rfl rfl) ?_
               exact xpuse key239 rfl ⟨lk_, (SubM.of (.keep rfl rfl (.refl _) (.keep rfl rfl (.refl _) (.keep rfl rfl (.refl _) (.keep rfl rfl (.refl _) (.keep rfl rfl (.refl _) (.nil _)))))) (.nil _))⟩ rfl (by kernel_rfl)
              ·refine ⟨_, rfl, ?_⟩
               refine wv_ (qv_loadB 0 ShpC.h rfl rfl rfl rfl) ?_
               refine pl_ 8 rfl (pv_buildC StrC.h rfl rfl) ?_
               refine xpvalE 10 [4] rfl (qv_loadB 1 ShpC.h rfl rfl rfl rfl) rfl rfl (by kernel_rfl) (by kernel_rfl) (by kernel_rfl) (fun _ _ _ _ h => h) ?_
               refine pl_ 15 rfl (pv_buildC StrC.h rfl rfl) ?_
               exact xpuse key236 rfl ⟨lk_, (SubM.of (.keep rfl rfl (.refl _) (.keep rfl rfl (.refl _) (.keep rfl rfl (.refl _) (.keep rfl rfl (.refl _) (.keep rfl rfl (.refl _) (.nil _)))))) (.nil _))⟩ rfl (by kernel_rfl)
              ·refine ⟨_, rfl, ?_⟩
               refine wv_ (qv_loadB 1 ShpC.h rfl rfl rfl rfl) ?_
               refine pl_ 15 rfl (pv_buildC StrC.h rfl rfl) ?_
               refine xpvalE 7 [4] rfl (qv_loadB 0 ShpC.h rfl rfl rfl rfl) rfl rfl (by kernel_rfl) (by kernel_rfl) (by kernel_rfl) (fun _ _ _ _ h => h) ?_
               refine pl_ 8 rfl (pv_buildC StrC.h rfl rfl) ?_
               exact xpuse key236 rfl ⟨lk_, (SubM.of (.keep rfl rfl (.refl _) (.keep rfl rfl (.refl _) (.keep rfl rfl (.refl _) (.keep rfl rfl (.refl _) (.keep rfl rfl (.refl _) (.nil _)))))) (.nil _))⟩ rfl (by kernel_rfl)
             refine xpcut 8 #[true, false, true, true, true, true, true, false, false, true, false, true, true, true, true, false, false, false, false] (fun σ => σ = ⟨[(0, .v (.pointer (some ⟨bx0, 0, none⟩))), (2, .sl 1 none (List.map eb x3)), (3, .v (.int .i64 x4)), (5, .sl 4 none (List.map E_palinode_palinoderef11_Task ((x6.drop (1 : Int).toNat)))), (7, .v (.pointer (some ⟨b7, 0, none⟩))), (10, .v (.pointer (some ⟨b10, 0, none⟩))), (13, .v (.pointer (some ⟨b13, 0, none⟩))), (14, .v (.pointer (some ⟨b14, 0, none⟩))), (130, .v (.pointer (some ⟨bx0, 0, none⟩))), (132, .sl 1 none (List.map eb x3)), (133, .v (.int .i64 x4)), (134, .agg ((List.map E_palinode_api_Span x5.l).flatten)), (135, .sl 4 none (List.map E_palinode_palinoderef11_Task ((x6.drop (1 : Int).toNat)))), (136, .v (.pointer (some ⟨b14, 1, none⟩))), (139, .v (.pointer (some ⟨b13, 1, none⟩))), (143, .v (.int .i64 ((y58.2.2.1 + 1)))), (144, .v (.int .i64 x4))], [⟨b14, 54, ([.v (.int .i64 f65), .v (.int .i64 f66), .v (.int .i64 f67), .v (.int .i64 f68), .v (.int .i64 f69), .v (.int .i64 f70)] ++ (List.map ew f71.l).flatten)⟩, ⟨b13, 88, [.v (.int .i64 y58.1), .v (.int .i64 y58.2.1), .v (.int .i64 y58.2.2.1), .v (.int .i64 y58.2.2.2)]⟩, ⟨b10, 29, ((List.map E_palinode_api_Span x5.l).flatten)⟩, ⟨b7, 24, [.sl 10 none (List.map E_palinode_api_Node x2.1), .v (.int .i64 x2.2)]⟩, ⟨bx0, 85, ([.v (.bool o1.1)] ++ ((List.map E_palinode_api_Span o1.2.1.l).flatten ++ [.v (.int .i64 ((o1.2.2.1 + 1))), .v (.int .i64 o1.2.2.2.1), .v (.int .i64 o1.2.2.2.2)]))⟩], []⟩) ?_ (fun key242 => ?_)
             ·rintro _ rfl
              refine xpstepN (is := [1, 7, 10]) (by kernel_rfl) (by simp) ?_
              intro i hi; simp only [List.mem_cons, List.not_mem_nil, or_false] at hi; rcases hi with rfl | rfl | rfl
              ·refine ⟨_, rfl, ?_⟩
               refine wv_ (qv_loadB 3 ShpC.h rfl rfl rfl rfl) ?_
               exact xpuse key239 rfl ⟨lk_, (SubM.of (.keep rfl rfl (.refl _) (.keep rfl rfl (.refl _) (.keep rfl rfl (.refl _) (.keep rfl rfl (.refl _) (.keep rfl rfl (.refl _) (.nil _)))))) (.nil _))⟩ rfl (by kernel_rfl)
              ·refine ⟨_, rfl, ?_⟩
               refine wv_ (qv_loadB 0 ShpC.h rfl rfl rfl rfl) ?_
               refine pl_ 8 rfl (pv_buildC StrC.h rfl rfl) ?_
               refine xpvalE 10 [1] rfl (qv_loadB 1 ShpC.h rfl rfl rfl rfl) rfl rfl (by kernel_rfl) (by kernel_rfl) (by kernel_rfl) (fun _ _ _ _ h => h) ?_
               refine pl_ 15 rfl (pv_buildC StrC.h rfl rfl) ?_
               exact xpuse key237 rfl ⟨lk_, (SubM.of (.keep rfl rfl (.refl _) (.keep rfl rfl (.refl _) (.keep rfl rfl (.refl _) (.keep rfl rfl (.refl _) (.keep rfl rfl (.refl _) (.nil _)))))) (.nil _))⟩ rfl (by kernel_rfl)
              ·refine ⟨_, rfl, ?_⟩
               refine wv_ (qv_loadB 1 ShpC.h rfl rfl rfl rfl) ?_
               refine pl_ 15 rfl (pv_buildC StrC.h rfl rfl) ?_
               refine xpvalE 7 [1] rfl (qv_loadB 0 ShpC.h rfl rfl rfl rfl) rfl rfl (by kernel_rfl) (by kernel_rfl) (by kernel_rfl) (fun _ _ _ _ h => h) ?_
               refine pl_ 8 rfl (pv_buildC StrC.h rfl rfl) ?_
               exact xpuse key237 rfl ⟨lk_, (SubM.of (.keep rfl rfl (.refl _) (.keep rfl rfl (.refl _) (.keep rfl rfl (.refl _) (.keep rfl rfl (.refl _) (.keep rfl rfl (.refl _) (.nil _)))))) (.nil _))⟩ rfl (by kernel_rfl)
             refine xpcut 9 #[true, true, true, true, true, true, true, false, false, true, false, true, false, false, true, false, false, false, false] (fun σ => σ = ⟨[(0, .v (.pointer (some ⟨bx0, 0, none⟩))), (2, .sl 1 none (List.map eb x3)), (3, .v (.int .i64 x4)), (5, .sl 4 none (List.map E_palinode_palinoderef11_Task ((x6.drop (1 : Int).toNat)))), (7, .v (.pointer (some ⟨b7, 0, none⟩))), (10, .v (.pointer (some ⟨b10, 0, none⟩))), (13, .v (.pointer (some ⟨b13, 0, none⟩))), (14, .v (.pointer (some ⟨b14, 0, none⟩))), (130, .v (.pointer (some ⟨bx0, 0, none⟩))), (131, .agg [.sl 10 none (List.map E_palinode_api_Node x2.1), .v (.int .i64 x2.2)]), (132, .sl 1 none (List.map eb x3)), (133, .v (.int .i64 x4)), (134, .agg ((List.map E_palinode_api_Span x5.l).flatten)), (135, .sl 4 none (List.map E_palinode_palinoderef11_Task ((x6.drop (1 : Int).toNat)))), (136, .v (.pointer (some ⟨b14, 1, none⟩))), (139, .v (.pointer (some ⟨b13, 1, none⟩))), (141, .v (.pointer (some ⟨b13, 2, none⟩))), (144, .v (.int .i64 x4))], [⟨b14, 54, ([.v (.int .i64 f65), .v (.int .i64 f66), .v (.int .i64 f67), .v (.int .i64 f68), .v (.int .i64 f69), .v (.int .i64 f70)] ++ (List.map ew f71.l).flatten)⟩, ⟨b13, 88, [.v (.int .i64 y58.1), .v (.int .i64 y58.2.1), .v (.int .i64 y58.2.2.1), .v (.int .i64 y58.2.2.2)]⟩, ⟨b10, 29, ((List.map E_palinode_api_Span x5.l).flatten)⟩, ⟨b7, 24, [.sl 10 none (List.map E_palinode_api_Node x2.1), .v (.int .i64 x2.2)]⟩, ⟨bx0, 85, ([.v (.bool o1.1)] ++ ((List.map E_palinode_api_Span o1.2.1.l).flatten ++ [.v (.int .i64 ((o1.2.2.1 + 1))), .v (.int .i64 o1.2.2.2.1), .v (.int .i64 o1.2.2.2.2)]))⟩], []⟩) ?_ (fun key243 => ?_)
             ·rintro _ rfl
              refine xpstepN (is := [7, 10, 12]) (by kernel_rfl) (by simp) ?_
              intro i hi; simp only [List.mem_cons, List.not_mem_nil, or_false] at hi; rcases hi with rfl | rfl | rfl
              ·refine ⟨_, rfl, ?_⟩
               refine wv_ (qv_loadB 0 ShpC.h rfl rfl rfl rfl) ?_
               refine pl_ 8 rfl (pv_buildC StrC.h rfl rfl) ?_
               refine xpvalE 12 [10] rfl (qv_loadB 1 ShpC.h rfl rfl rfl rfl) rfl rfl (by kernel_rfl) (by kernel_rfl) (by kernel_rfl) (fun _ _ _ _ h => h) ?_
               refine pl_ 13 rfl (pv_addI h228 rfl rfl) ?_
               refine xpvalE 10 [] rfl (qv_loadB 1 ShpC.h rfl rfl rfl rfl) rfl rfl (by kernel_rfl) (by kernel_rfl) (by kernel_rfl) (fun _ _ _ _ h => h) ?_
               refine pl_ 15 rfl (pv_buildC StrC.h rfl rfl) ?_
               exact xpuse key235 rfl ⟨lk_, (SubM.of (.keep rfl rfl (.refl _) (.keep rfl rfl (.refl _) (.keep rfl rfl (.refl _) (.keep rfl rfl (.refl _) (.keep rfl rfl (.refl _) (.nil _)))))) (.nil _))⟩ rfl (by kernel_rfl)
              ·refine ⟨_, rfl, ?_⟩
               refine wv_ (qv_loadB 1 ShpC.h rfl rfl rfl rfl) ?_
               exact xpuse key240 rfl ⟨lk_, (SubM.of (.keep rfl rfl (.refl _) (.keep rfl rfl (.refl _) (.keep rfl rfl (.refl _) (.keep rfl rfl (.refl _) (.keep rfl rfl (.refl _) (.nil _)))))) (.nil _))⟩ rfl (by kernel_rfl)
              ·refine ⟨_, rfl, ?_⟩
               refine wv_ (qv_loadB 1 ShpC.h rfl rfl rfl rfl) ?_
               refine pl_ 13 rfl (pv_addI h228 rfl rfl) ?_
               exact xpuse key239 rfl ⟨lk_, (SubM.of (.keep rfl rfl (.refl _) (.keep rfl rfl (.refl _) (.keep rfl rfl (.refl _) (.keep rfl rfl (.refl _) (.keep rfl rfl (.refl _) (.nil _)))))) (.nil _))⟩ rfl (by kernel_rfl)
             refine xpcut 9 #[true, true, true, true, false, true, true, false, false, true, true, true, false, false, true, false, false, false, false] (fun σ => σ = ⟨[(0, .v (.pointer (some ⟨bx0, 0, none⟩))), (2, .sl 1 none (List.map eb x3)), (3, .v (.int .i64 x4)), (5, .sl 4 none (List.map E_palinode_palinoderef11_Task ((x6.drop (1 : Int).toNat)))), (7, .v (.pointer (some ⟨b7, 0, none⟩))), (10, .v (.pointer (some ⟨b10, 0, none⟩))), (13, .v (.pointer (some ⟨b13, 0, none⟩))), (14, .v (.pointer (some ⟨b14, 0, none⟩))), (130, .v (.pointer (some ⟨bx0, 0, none⟩))), (131, .agg [.sl 10 none (List.map E_palinode_api_Node x2.1), .v (.int .i64 x2.2)]), (132, .sl 1 none (List.map eb x3)), (133, .v (.int .i64 x4)), (135, .sl 4 none (List.map E_palinode_palinoderef11_Task ((x6.drop (1 : Int).toNat)))), (136, .v (.pointer (some ⟨b14, 1, none⟩))), (140, .v (.int .i64 y58.2.1)), (141, .v (.pointer (some ⟨b13, 2, none⟩))), (144, .v (.int .i64 x4))], [⟨b14, 54, ([.v (.int .i64 f65), .v (.int .i64 f66), .v (.int .i64 f67), .v (.int .i64 f68), .v (.int .i64 f69), .v (.int .i64 f70)] ++ (List.map ew f71.l).flatten)⟩, ⟨b13, 88, [.v (.int .i64 y58.1), .v (.int .i64 y58.2.1), .v (.int .i64 y58.2.2.1), .v (.int .i64 y58.2.2.2)]⟩, ⟨b10, 29, ((List.map E_palinode_api_Span x5.l).flatten)⟩, ⟨b7, 24, [.sl 10 none (List.map E_palinode_api_Node x2.1), .v (.int .i64 x2.2)]⟩, ⟨bx0, 85, ([.v (.bool o1.1)] ++ ((List.map E_palinode_api_Span o1.2.1.l).flatten ++ [.v (.int .i64 ((o1.2.2.1 + 1))), .v (.int .i64 o1.2.2.2.1), .v (.int .i64 o1.2.2.2.2)]))⟩], []⟩) ?_ (fun key244 => ?_)
             ·rintro _ rfl
              refine xpstepN (is := [4, 7, 12]) (by kernel_rfl) (by simp) ?_
              intro i hi; simp only [List.mem_cons, List.not_mem_nil, or_false] at hi; rcases hi with rfl | rfl | rfl
              ·refine ⟨_, rfl, ?_⟩
               refine wv_ (qv_loadP 2 [] ((List.map E_palinode_api_Span x5.l).flatten) [] sq_ sl_ sl_ (part_all (seg_lenE (by rfl))) ShpC.h rfl rfl) ?_
               exact xpuse key240 rfl ⟨lk_, (SubM.of (.keep rfl rfl (.refl _) (.keep rfl rfl (.refl _) (.keep rfl rfl (.refl _) (.keep rfl rfl (.refl _) (.keep rfl rfl (.refl _) (.nil _)))))) (.nil _))⟩ rfl (by kernel_rfl)
              ·refine ⟨_, rfl, ?_⟩
               refine wv_ (qv_loadB 0 ShpC.h rfl rfl rfl rfl) ?_
               refine pl_ 8 rfl (pv_buildC StrC.h rfl rfl) ?_
               refine xpvalE 12 [4] rfl (qv_loadB 1 ShpC.h rfl rfl rfl rfl) rfl rfl (by kernel_rfl) (by kernel_rfl) (by kernel_rfl) (fun _ _ _ _ h => h) ?_
               refine pl_ 13 rfl (pv_addI h228 rfl rfl) ?_
               refine pl_ 15 rfl (pv_buildC StrC.h rfl rfl) ?_
               exact xpuse key236 rfl ⟨lk_, (SubM.of (.keep rfl rfl (.refl _) (.keep rfl rfl (.refl _) (.keep rfl rfl (.refl _) (.keep rfl rfl (.refl _) (.keep rfl rfl (.refl _) (.nil _)))))) (.nil _))⟩ rfl (by kernel_rfl)
              ·refine ⟨_, rfl, ?_⟩
               refine wv_ (qv_loadB 1 ShpC.h rfl rfl rfl rfl) ?_
               refine pl_ 13 rfl (pv_addI h228 rfl rfl) ?_
               refine pl_ 15 rfl (pv_buildC StrC.h rfl rfl) ?_
               refine xpvalE 7 [4] rfl (qv_loadB 0 ShpC.h rfl rfl rfl rfl) rfl rfl (by kernel_rfl) (by kernel_rfl) (by kernel_rfl) (fun _ _ _ _ h => h) ?_
               refine pl_ 8 rfl (pv_buildC StrC.h rfl rfl) ?_
               exact xpuse key236 rfl ⟨lk_, (SubM.of (.keep rfl rfl (.refl _) (.keep rfl rfl (.refl _) (.keep rfl rfl (.refl _) (.keep rfl rfl (.refl _) (.keep rfl rfl (.refl _) (.nil _)))))) (.nil _))⟩ rfl (by kernel_rfl)
             refine xpcut 9 #[true, false, true, true, true, true, true, false, false, true, true, true, false, false, true, false, false, false, false] (fun σ => σ = ⟨[(0, .v (.pointer (some ⟨bx0, 0, none⟩))), (2, .sl 1 none (List.map eb x3)), (3, .v (.int .i64 x4)), (5, .sl 4 none (List.map E_palinode_palinoderef11_Task ((x6.drop (1 : Int).toNat)))), (7, .v (.pointer (some ⟨b7, 0, none⟩))), (10, .v (.pointer (some ⟨b10, 0, none⟩))), (13, .v (.pointer (some ⟨b13, 0, none⟩))), (14, .v (.pointer (some ⟨b14, 0, none⟩))), (130, .v (.pointer (some ⟨bx0, 0, none⟩))), (132, .sl 1 none (List.map eb x3)), (133, .v (.int .i64 x4)), (134, .agg ((List.map E_palinode_api_Span x5.l).flatten)), (135, .sl 4 none (List.map E_palinode_palinoderef11_Task ((x6.drop (1 : Int).toNat)))), (136, .v (.pointer (some ⟨b14, 1, none⟩))), (140, .v (.int .i64 y58.2.1)), (141, .v (.pointer (some ⟨b13, 2, none⟩))), (144, .v (.int .i64 x4))], [⟨b14, 54, ([.v (.int .i64 f65), .v (.int .i64 f66), .v (.int .i64 f67), .v (.int .i64 f68), .v (.int .i64 f69), .v (.int .i64 f70)] ++ (List.map ew f71.l).flatten)⟩, ⟨b13, 88, [.v (.int .i64 y58.1), .v (.int .i64 y58.2.1), .v (.int .i64 y58.2.2.1), .v (.int .i64 y58.2.2.2)]⟩, ⟨b10, 29, ((List.map E_palinode_api_Span x5.l).flatten)⟩, ⟨b7, 24, [.sl 10 none (List.map E_palinode_api_Node x2.1), .v (.int .i64 x2.2)]⟩, ⟨bx0, 85, ([.v (.bool o1.1)] ++ ((List.map E_palinode_api_Span o1.2.1.l).flatten ++ [.v (.int .i64 ((o1.2.2.1 + 1))), .v (.int .i64 o1.2.2.2.1), .v (.int .i64 o1.2.2.2.2)]))⟩], []⟩) ?_ (fun key245 => ?_)
             ·rintro _ rfl
              refine xpstepN (is := [1, 7, 12]) (by kernel_rfl) (by simp) ?_
              intro i hi; simp only [List.mem_cons, List.not_mem_nil, or_false] at hi; rcases hi with rfl | rfl | rfl
              ·refine ⟨_, rfl, ?_⟩
               refine wv_ (qv_loadB 3 ShpC.h rfl rfl rfl rfl) ?_
               exact xpuse key240 rfl ⟨lk_, (SubM.of (.keep rfl rfl (.refl _) (.keep rfl rfl (.refl _) (.keep rfl rfl (.refl _) (.keep rfl rfl (.refl _) (.keep rfl rfl (.refl _) (.nil _)))))) (.nil _))⟩ rfl (by kernel_rfl)
              ·refine ⟨_, rfl, ?_⟩
               refine wv_ (qv_loadB 0 ShpC.h rfl rfl rfl rfl) ?_
               refine pl_ 8 rfl (pv_buildC StrC.h rfl rfl) ?_
               refine xpvalE 12 [1] rfl (qv_loadB 1 ShpC.h rfl rfl rfl rfl) rfl rfl (by kernel_rfl) (by kernel_rfl) (by kernel_rfl) (fun _ _ _ _ h => h) ?_
               refine pl_ 13 rfl (pv_addI h228 rfl rfl) ?_
               refine pl_ 15 rfl (pv_buildC StrC.h rfl rfl) ?_
               exact xpuse key237 rfl ⟨lk_, (SubM.of (.keep rfl rfl (.refl _) (.keep rfl rfl (.refl _) (.keep rfl rfl (.refl _) (.keep rfl rfl (.refl _) (.keep rfl rfl (.refl _) (.nil _)))))) (.nil _))⟩ rfl (by kernel_rfl)
              ·refine ⟨_, rfl, ?_⟩
               refine wv_ (qv_loadB 1 ShpC.h rfl rfl rfl rfl) ?_
               refine pl_ 13 rfl (pv_addI h228 rfl rfl) ?_
               refine pl_ 15 rfl (pv_buildC StrC.h rfl rfl) ?_
               refine xpvalE 7 [1] rfl (qv_loadB 0 ShpC.h rfl rfl rfl rfl) rfl rfl (by kernel_rfl) (by kernel_rfl) (by kernel_rfl) (fun _ _ _ _ h => h) ?_
               refine pl_ 8 rfl (pv_buildC StrC.h rfl rfl) ?_
               exact xpuse key237 rfl ⟨lk_, (SubM.of (.keep rfl rfl (.refl _) (.keep rfl rfl (.refl _) (.keep rfl rfl (.refl _) (.keep rfl rfl (.refl _) (.keep rfl rfl (.refl _) (.nil _)))))) (.nil _))⟩ rfl (by kernel_rfl)
             refine pl_ 0 rfl (pv_move rfl) ?_
             refine pl_ 2 rfl (pv_move rfl) ?_
             refine pl_ 3 rfl (pv_move rfl) ?_
             refine pl_ 5 rfl (pv_move rfl) ?_
             refine pl_ 6 rfl (qv_fieldAddrB FldC.h rfl) ?_
             refine pl_ 9 rfl (qv_fieldAddrB FldC.h rfl) ?_
             refine pl_ 11 rfl (qv_fieldAddrB FldC.h rfl) ?_
             refine pl_ 14 rfl (pv_move rfl) ?_
             refine xpstepN (is := [1, 4, 7, 10, 12]) (by kernel_rfl) (by simp) ?_
             intro i hi; simp only [List.mem_cons, List.not_mem_nil, or_false] at hi; rcases hi with rfl | rfl | rfl | rfl | rfl
             ·refine ⟨_, rfl, ?_⟩
              refine wv_ (qv_loadB 3 ShpC.h rfl rfl rfl rfl) ?_
              refine xpstepN (is := [4, 7, 10, 12]) (by kernel_rfl) (by simp) ?_
              intro i hi; simp only [List.mem_cons, List.not_mem_nil, or_false] at hi; rcases hi with rfl | rfl | rfl | rfl
              ·refine ⟨_, rfl, ?_⟩
               refine wv_ (qv_loadP 2 [] ((List.map E_palinode_api_Span x5.l).flatten) [] sq_ sl_ sl_ (part_all (seg_lenE (by rfl))) ShpC.h rfl rfl) ?_
               exact xpuse key243 rfl ⟨lk_, (SubM.of (.keep rfl rfl (.refl _) (.keep rfl rfl (.refl _) (.keep rfl rfl (.refl _) (.keep rfl rfl (.refl _) (.keep rfl rfl (.refl _) (.nil _)))))) (.nil _))⟩ rfl (by kernel_rfl)
              ·refine ⟨_, rfl, ?_⟩
               refine wv_ (qv_loadB 0 ShpC.h rfl rfl rfl rfl) ?_
               refine pl_ 8 rfl (pv_buildC StrC.h rfl rfl) ?_
               refine xpvalE 12 [4, 10] rfl (qv_loadB 1 ShpC.h rfl rfl rfl rfl) rfl rfl (by kernel_rfl) (by kernel_rfl) (by kernel_rfl) (fun _ _ _ _ h => h) ?_
               refine pl_ 13 rfl (pv_addI h228 rfl rfl) ?_
               refine xpvalE 10 [4] rfl (qv_loadB 1 ShpC.h rfl rfl rfl rfl) rfl rfl (by kernel_rfl) (by kernel_rfl) (by kernel_rfl) (fun _ _ _ _ h => h) ?_
               refine pl_ 15 rfl (pv_buildC StrC.h rfl rfl) ?_
               exact xpuse key236 rfl ⟨lk_, (SubM.of (.keep rfl rfl (.refl _) (.keep rfl rfl (.refl _) (.keep rfl rfl (.refl _) (.keep rfl rfl (.refl _) (.keep rfl rfl (.refl _) (.nil _)))))) (.nil _))⟩ rfl (by kernel_rfl)
              ·refine ⟨_, rfl, ?_⟩
               refine wv_ (qv_loadB 1 ShpC.h rfl rfl rfl rfl) ?_
               exact xpuse key244 rfl ⟨lk_, (SubM.of (.keep rfl rfl (.refl _) (.keep rfl rfl (.refl _) (.keep rfl rfl (.refl _) (.keep rfl rfl (.refl _) (.keep rfl rfl (.refl _) (.nil _)))))) (.nil _))⟩ rfl (by kernel_rfl)
              ·refine ⟨_, rfl, ?_⟩
               refine wv_ (qv_loadB 1 ShpC.h rfl rfl rfl rfl) ?_
               refine pl_ 13 rfl (pv_addI h228 rfl rfl) ?_
               exact xpuse key241 rfl ⟨lk_, (SubM.of (.keep rfl rfl (.refl _) (.keep rfl rfl (.refl _) (.keep rfl rfl (.refl _) (.keep rfl rfl (.refl _) (.keep rfl rfl (.refl _) (.nil _)))))) (.nil _))⟩ rfl (by kernel_rfl)
             ·refine ⟨_, rfl, ?_⟩
              refine wv_ (qv_loadP 2 [] ((List.map E_palinode_api_Span x5.l).flatten) [] sq_ sl_ sl_ (part_all (seg_lenE (by rfl))) ShpC.h rfl rfl) ?_
              refine xpstepN (is := [1, 7, 10, 12]) (by kernel_rfl) (by simp) ?_
              intro i hi; simp only [List.mem_cons, List.not_mem_nil, or_false] at hi; rcases hi with rfl | rfl | rfl | rfl
              ·refine ⟨_, rfl, ?_⟩
               refine wv_ (qv_loadB 3 ShpC.h rfl rfl rfl rfl) ?_
               exact xpuse key243 rfl ⟨lk_, (SubM.of (.keep rfl rfl (.refl _) (.keep rfl rfl (.refl _) (.keep rfl rfl (.refl _) (.keep rfl rfl (.refl _) (.keep rfl rfl (.refl _) (.nil _)))))) (.nil _))⟩ rfl (by kernel_rfl)
              ·refine ⟨_, rfl, ?_⟩
               refine wv_ (qv_loadB 0 ShpC.h rfl rfl rfl rfl) ?_
               refine pl_ 8 rfl (pv_buildC StrC.h rfl rfl) ?_
               refine xpvalE 12 [1, 10] rfl (qv_loadB 1 ShpC.h rfl rfl rfl rfl) rfl rfl (by kernel_rfl) (by kernel_rfl) (by kernel_rfl) (fun _ _ _ _ h => h) ?_
               refine pl_ 13 rfl (pv_addI h228 rfl rfl) ?_
               refine xpvalE 10 [1] rfl (qv_loadB 1 ShpC.h rfl rfl rfl rfl) rfl rfl (by kernel_rfl) (by kernel_rfl) (by kernel_rfl) (fun _ _ _ _ h => h) ?_
               refine pl_ 15 rfl (pv_buildC StrC.h rfl rfl) ?_
               exact xpuse key237 rfl ⟨lk_, (SubM.of (.keep rfl rfl (.refl _) (.keep rfl rfl (.refl _) (.keep rfl rfl (.refl _) (.keep rfl rfl (.refl _) (.keep rfl rfl (.refl _) (.nil _)))))) (.nil _))⟩ rfl (by kernel_rfl)
              ·refine ⟨_, rfl, ?_⟩
               refine wv_ (qv_loadB 1 ShpC.h rfl rfl rfl rfl) ?_
               exact xpuse key245 rfl ⟨lk_, (SubM.of (.keep rfl rfl (.refl _) (.keep rfl rfl (.refl _) (.keep rfl rfl (.refl _) (.keep rfl rfl (.refl _) (.keep rfl rfl (.refl _) (.nil _)))))) (.nil _))⟩ rfl (by kernel_rfl)
              ·refine ⟨_, rfl, ?_⟩
               refine wv_ (qv_loadB 1 ShpC.h rfl rfl rfl rfl) ?_
               refine pl_ 13 rfl (pv_addI h228 rfl rfl) ?_
               exact xpuse key242 rfl ⟨lk_, (SubM.of (.keep rfl rfl (.refl _) (.keep rfl rfl (.refl _) (.keep rfl rfl (.refl _) (.keep rfl rfl (.refl _) (.keep rfl rfl (.refl _) (.nil _)))))) (.nil _))⟩ rfl (by kernel_rfl)
             ·refine ⟨_, rfl, ?_⟩
              refine wv_ (qv_loadB 0 ShpC.h rfl rfl rfl rfl) ?_
              refine pl_ 8 rfl (pv_buildC StrC.h rfl rfl) ?_
              refine xpvalE 12 [1, 4, 10] rfl (qv_loadB 1 ShpC.h rfl rfl rfl rfl) rfl rfl (by kernel_rfl) (by kernel_rfl) (by kernel_rfl) (fun _ _ _ _ h => h) ?_
              refine pl_ 13 rfl (pv_addI h228 rfl rfl) ?_
              refine xpvalE 10 [1, 4] rfl (qv_loadB 1 ShpC.h rfl rfl rfl rfl) rfl rfl (by kernel_rfl) (by kernel_rfl) (by kernel_rfl) (fun _ _ _ _ h => h) ?_
              refine pl_ 15 rfl (pv_buildC StrC.h rfl rfl) ?_
              exact xpuse key238 rfl ⟨lk_, (SubM.of (.keep rfl rfl (.refl _) (.keep rfl rfl (.refl _) (.keep rfl rfl (.refl _) (.keep rfl rfl (.refl _) (.keep rfl rfl (.refl _) (.nil _)))))) (.nil _))⟩ rfl (by kernel_rfl)
             ·refine ⟨_, rfl, ?_⟩
              refine wv_ (qv_loadB 1 ShpC.h rfl rfl rfl rfl) ?_
              refine xpstepN (is := [1, 4, 7, 12]) (by kernel_rfl) (by simp) ?_
              intro i hi; simp only [List.mem_cons, List.not_mem_nil, or_false] at hi; rcases hi with rfl | rfl | rfl | rfl
              ·refine ⟨_, rfl, ?_⟩
               refine wv_ (qv_loadB 3 ShpC.h rfl rfl rfl rfl) ?_
               exact xpuse key244 rfl ⟨lk_, (SubM.of (.keep rfl rfl (.refl _) (.keep rfl rfl (.refl _) (.keep rfl rfl (.refl _) (.keep rfl rfl (.refl _) (.keep rfl rfl (.refl _) (.nil _)))))) (.nil _))⟩ rfl (by kernel_rfl)
              ·refine ⟨_, rfl, ?_⟩
               refine wv_ (qv_loadP 2 [] ((List.map E_palinode_api_Span x5.l).flatten) [] sq_ sl_ sl_ (part_all (seg_lenE (by rfl))) ShpC.h rfl rfl) ?_
               exact xpuse key245 rfl ⟨lk_, (SubM.of (.keep rfl rfl (.refl _) (.keep rfl rfl (.refl _) (.keep rfl rfl (.refl _) (.keep rfl rfl (.refl _) (.keep rfl rfl (.refl _) (.nil _)))))) (.nil _))⟩ rfl (by kernel_rfl)
              ·refine ⟨_, rfl, ?_⟩
               refine wv_ (qv_loadB 0 ShpC.h rfl rfl rfl rfl) ?_
               refine pl_ 8 rfl (pv_buildC StrC.h rfl rfl) ?_
               refine xpvalE 12 [1, 4] rfl (qv_loadB 1 ShpC.h rfl rfl rfl rfl) rfl rfl (by kernel_rfl) (by kernel_rfl) (by kernel_rfl) (fun _ _ _ _ h => h) ?_
               refine pl_ 13 rfl (pv_addI h228 rfl rfl) ?_
               refine pl_ 15 rfl (pv_buildC StrC.h rfl rfl) ?_
               exact xpuse key238 rfl ⟨lk_, (SubM.of (.keep rfl rfl (.refl _) (.keep rfl rfl (.refl _) (.keep rfl rfl (.refl _) (.keep rfl rfl (.refl _) (.keep rfl rfl (.refl _) (.nil _)))))) (.nil _))⟩ rfl (by kernel_rfl)
              ·refine ⟨_, rfl, ?_⟩
               refine wv_ (qv_loadB 1 ShpC.h rfl rfl rfl rfl) ?_
               refine pl_ 13 rfl (pv_addI h228 rfl rfl) ?_
               refine pl_ 15 rfl (pv_buildC StrC.h rfl rfl) ?_
               refine xpvalE 7 [1, 4] rfl (qv_loadB 0 ShpC.h rfl rfl rfl rfl) rfl rfl (by kernel_rfl) (by kernel_rfl) (by kernel_rfl) (fun _ _ _ _ h => h) ?_
               refine pl_ 8 rfl (pv_buildC StrC.h rfl rfl) ?_
               exact xpuse key238 rfl ⟨lk_, (SubM.of (.keep rfl rfl (.refl _) (.keep rfl rfl (.refl _) (.keep rfl rfl (.refl _) (.keep rfl rfl (.refl _) (.keep rfl rfl (.refl _) (.nil _)))))) (.nil _))⟩ rfl (by kernel_rfl)
             ·refine ⟨_, rfl, ?_⟩
              refine wv_ (qv_loadB 1 ShpC.h rfl rfl rfl rfl) ?_
              refine pl_ 13 rfl (pv_addI h228 rfl rfl) ?_
              refine xpstepN (is := [1, 4, 7, 10]) (by kernel_rfl) (by simp) ?_
              intro i hi; simp only [List.mem_cons, List.not_mem_nil, or_false] at hi; rcases hi with rfl | rfl | rfl | rfl
              ·refine ⟨_, rfl, ?_⟩
               refine wv_ (qv_loadB 3 ShpC.h rfl rfl rfl rfl) ?_
               exact xpuse key241 rfl ⟨lk_, (SubM.of (.keep rfl rfl (.refl _) (.keep rfl rfl (.refl _) (.keep rfl rfl (.refl _) (.keep rfl rfl (.refl _) (.keep rfl rfl (.refl _) (.nil _)))))) (.nil _))⟩ rfl (by kernel_rfl)
              ·refine ⟨_, rfl, ?_⟩
               refine wv_ (qv_loadP 2 [] ((List.map E_palinode_api_Span x5.l).flatten) [] sq_ sl_ sl_ (part_all (seg_lenE (by rfl))) ShpC.h rfl rfl) ?_
               exact xpuse key242 rfl ⟨lk_, (SubM.of (.keep rfl rfl (.refl _) (.keep rfl rfl (.refl _) (.keep rfl rfl (.refl _) (.keep rfl rfl (.refl _) (.keep rfl rfl (.refl _) (.nil _)))))) (.nil _))⟩ rfl (by kernel_rfl)
              ·refine ⟨_, rfl, ?_⟩
               refine wv_ (qv_loadB 0 ShpC.h rfl rfl rfl rfl) ?_
               refine pl_ 8 rfl (pv_buildC StrC.h rfl rfl) ?_
               refine xpvalE 10 [1, 4] rfl (qv_loadB 1 ShpC.h rfl rfl rfl rfl) rfl rfl (by kernel_rfl) (by kernel_rfl) (by kernel_rfl) (fun _ _ _ _ h => h) ?_
               refine pl_ 15 rfl (pv_buildC StrC.h rfl rfl) ?_
               exact xpuse key238 rfl ⟨lk_, (SubM.of (.keep rfl rfl (.refl _) (.keep rfl rfl (.refl _) (.keep rfl rfl (.refl _) (.keep rfl rfl (.refl _) (.keep rfl rfl (.refl _) (.nil _)))))) (.nil _))⟩ rfl (by kernel_rfl)
              ·refine ⟨_, rfl, ?_⟩
               refine wv_ (qv_loadB 1 ShpC.h rfl rfl rfl rfl) ?_
               refine pl_ 15 rfl (pv_buildC StrC.h rfl rfl) ?_
               refine xpvalE 7 [1, 4] rfl (qv_loadB 0 ShpC.h rfl rfl rfl rfl) rfl rfl (by kernel_rfl) (by kernel_rfl) (by kernel_rfl) (fun _ _ _ _ h => h) ?_
               refine pl_ 8 rfl (pv_buildC StrC.h rfl rfl) ?_
               exact xpuse key238 rfl ⟨lk_, (SubM.of (.keep rfl rfl (.refl _) (.keep rfl rfl (.refl _) (.keep rfl rfl (.refl _) (.keep rfl rfl (.refl _) (.keep rfl rfl (.refl _) (.nil _)))))) (.nil _))⟩ rfl (by kernel_rfl)
            ·replace h := h.2 hp227
             refine xcondF' (b_f hp227) rfl ?_
             refine xskipc ?_
             exact xmeet ⟨o1.1, o1.2.1, (o1.2.2.1 + 1), o1.2.2.2.1, o1.2.2.2.2, h, rfl⟩ ⟨lk_, by refine SubM.trans (SubM.mvB 3 rfl) ?_; refine SubM.trans (SubM.mvB 3 rfl) ?_; refine SubM.trans (SubM.mvB 3 rfl) ?_; refine SubM.trans (SubM.mvB 3 rfl) ?_; refine SubM.trans (SubM.mvB 4 rfl) ?_; (simp only [List.eraseIdx]); exact sm_⟩
          ·clear h
           rintro _ ⟨f215, f216, f217, f218, f219, h, rfl⟩
           refine xseq ?_
           refine sr_ ?_
           refine vp_ (qv_fieldAddrB FldC.h rfl) ?_
           refine v_ (qv_loadB 2 ShpC.h rfl rfl rfl rfl) ?_
           refine vp_ (qv_fieldAddrB FldC.h rfl) ?_
           refine v_ (qv_loadB 1 ShpC.h rfl rfl rfl rfl) ?_
           refine vp_ (pv_bin2 rfl rfl rfl) ?_
           refine nt_ ?_
           by_cases hp251 : f68 ≤ y58.2.2.1
           ·replace h := h.1 hp251
            refine xcondT' (decide_eq_true hp251) rfl ?_
            refine xregion ?_
            refine mv_ ?_
            refine v_ (qv_loadB 4 ShpC.h rfl rfl rfl rfl) ?_
            refine mv_ ?_
            refine mv_ ?_
            refine v_ (qv_loadP 3 [] ((List.map E_palinode_api_Span x5.l).flatten) [] sq_ sl_ sl_ (part_all (seg_lenE (by rfl))) ShpC.h rfl rfl) ?_
            refine mv_ ?_
            obtain ⟨y253, h252, h⟩ := h
            obtain ⟨m252, hm252, h252⟩ := hc_palinoderef11_Ways _ _ _ _ _ _ _ h252
            refine xcallF (Fb := [⟨b14, 54, ([.v (.int .i64 f65), .v (.int .i64 f66), .v (.int .i64 f67), .v (.int .i64 f68), .v (.int .i64 f69), .v (.int .i64 f70)] ++ (List.map ew f71.l).flatten)⟩, ⟨b13, 88, [.v (.int .i64 y58.1), .v (.int .i64 y58.2.1), .v (.int .i64 y58.2.2.1), .v (.int .i64 y58.2.2.2)]⟩, ⟨b10, 29, ((List.map E_palinode_api_Span x5.l).flatten)⟩, ⟨b7, 24, [.sl 10 none (List.map E_palinode_api_Node x2.1), .v (.int .i64 x2.2)]⟩]) (Ft := []) ((ih m252 hm252).1 (f215, f216, f217, f218, f219) x2 x3 x4 x5 (x6.drop (1 : Int).toNat) bx0 _ h252) Try.func31 (by kernel_rfl) rfl (.cons rfl (.refl _) (.cons rfl (.refl _) (.cons rfl (.refl _) (.cons rfl (.refl _) (.cons rfl (.refl _) (.cons rfl (.refl _) .nil)))))) (by exact sm_) rfl rfl ?_
            rintro _ _ _ ⟨rfl, rfl, rfl⟩
            simp only [List.nil_append, List.cons_append]
            refine nt_ ?_
            refine xretc ?_
            refine xthen_ret ?_
            replace h := h.symm
            subst h
            exact xret0 hg rfl (SubM.of (.keep rfl rfl (.refl _) (.nil _)) (.nil _)) ⟨rfl, rfl, rfl⟩ (by simp)
           ·replace h := h.2 hp251
            refine xcondF' (decide_eq_false hp251) rfl ?_
            refine xskipc ?_
            refine xthen ?_
            refine xretc ?_
            refine xthen_ret ?_
            replace h := h.symm
            subst h
            exact xret0 hg rfl (SubM.of (.keep rfl rfl (.refl _) (.nil _)) (.nil _)) ⟨rfl, rfl, rfl⟩ (by simp)
         ·replace h := h.2 hp188
          refine xcondF' (decide_eq_false hp188) rfl ?_
          refine xskipc ?_
          refine xthen ?_
          refine xregion ?_
          refine mv_ ?_
          refine v_ (qv_loadB 3 ShpC.h rfl rfl rfl rfl) ?_
          refine mv_ ?_
          refine mv_ ?_
          refine v_ (qv_loadP 2 [] ((List.map E_palinode_api_Span x5.l).flatten) [] sq_ sl_ sl_ (part_all (seg_lenE (by rfl))) ShpC.h rfl rfl) ?_
          refine v_ (qv_loadP 0 [] ([.v (.int .i64 f65), .v (.int .i64 f66), .v (.int .i64 f67), .v (.int .i64 f68), .v (.int .i64 f69), .v (.int .i64 f70)] ++ (List.map ew f71.l).flatten) [] sq_ sl_ sl_ (part_all sl_) ShpC.h rfl rfl) ?_
          refine mv_ ?_
          obtain ⟨y255, h254, h⟩ := h
          obtain ⟨m254, hm254, h254⟩ := hc_palinoderef11_node _ _ _ _ _ _ _ _ h254
          refine xcallF (Fb := [⟨b14, 54, ([.v (.int .i64 f65), .v (.int .i64 f66), .v (.int .i64 f67), .v (.int .i64 f68), .v (.int .i64 f69), .v (.int .i64 f70)] ++ (List.map ew f71.l).flatten)⟩, ⟨b13, 88, [.v (.int .i64 y58.1), .v (.int .i64 y58.2.1), .v (.int .i64 y58.2.2.1), .v (.int .i64 y58.2.2.2)]⟩, ⟨b10, 29, ((List.map E_palinode_api_Span x5.l).flatten)⟩, ⟨b7, 24, [.sl 10 none (List.map E_palinode_api_Node x2.1), .v (.int .i64 x2.2)]⟩]) (Ft := []) ((ih m254 hm254).2 (o1.1, o1.2.1, (o1.2.2.1 + 1), o1.2.2.2.1, o1.2.2.2.2) x2 x3 x4 x5 (f65, f66, f67, f68, f69, f70, f71) (x6.drop (1 : Int).toNat) bx0 _ h254) Try.func46 (by kernel_rfl) rfl (.cons rfl (.refl _) (.cons rfl (.refl _) (.cons rfl (.refl _) (.cons rfl (.refl _) (.cons rfl (.refl _) (.cons rfl (.refl _) (.cons rfl (.refl _) .nil))))))) (by refine SubM.trans (SubM.mvB 4 rfl) ?_; (simp only [List.eraseIdx]); exact sm_) rfl rfl ?_
          rintro _ _ _ ⟨rfl, rfl, rfl⟩
          simp only [List.nil_append, List.cons_append]
          refine xnil ?_
          replace h := h.symm
          subst h
          exact xret0 hg rfl (SubM.of (.keep rfl rfl (.refl _) (.nil _)) (.nil _)) ⟨rfl, rfl, rfl⟩ (by simp)
  ·intro o1 x2 x3 x4 x5 x6 x7 bx0 r h
   obtain ⟨c_palinoderef11_Ways, c_palinoderef11_node, hc_palinoderef11_Ways, hc_palinoderef11_node, h⟩ : ∃ (c_palinoderef11_Ways : (Bool × ((Arr 10 (Int × Int))) × Int × Int × Int) → ((List (Int × Int × Int × Int × Int × Int × (Arr 4 (UInt64)))) × Int) → (List UInt8) → (Int) → (Arr 10 (Int × Int)) → (List (Int × Int × Int × Int)) → ((Bool × ((Arr 10 (Int × Int))) × Int × Int × Int)) → Prop) (c_palinoderef11_node : (Bool × ((Arr 10 (Int × Int))) × Int × Int × Int) → ((List (Int × Int × Int × Int × Int × Int × (Arr 4 (UInt64)))) × Int) → (List UInt8) → (Int) → (Arr 10 (Int × Int)) → (Int × Int × Int × Int × Int × Int × (Arr 4 (UInt64))) → (List (Int × Int × Int × Int)) → ((Bool × ((Arr 10 (Int × Int))) × Int × Int × Int)) → Prop), (∀ a0 a1 a2 a3 a4 a5 r, c_palinoderef11_Ways a0 a1 a2 a3 a4 a5 r → ∃ m', m' < m ∧ S1 m' a0 a1 a2 a3 a4 a5 r) ∧ (∀ a0 a1 a2 a3 a4 a5 a6 r, c_palinoderef11_node a0 a1 a2 a3 a4 a5 a6 r → ∃ m', m' < m ∧ S2 m' a0 a1 a2 a3 a4 a5 a6 r) ∧ palinoderef11_node_B c_palinoderef11_Ways c_palinoderef11_node o1 x2 x3 x4 x5 x6 x7 r := ⟨_, _, fun _ _ _ _ _ _ _ h => h, fun _ _ _ _ _ _ _ _ h => h, H.2 m o1 x2 x3 x4 x5 x6 x7 r h⟩
   refine xenter Try.func46 rfl rfl fun g hg => ?_
   simp only [Try.ntmps46, slots]
   refine sr_ ?_
   refine xbox rfl rfl rfl rfl fun b8 => ?_
   refine xbox rfl rfl rfl rfl fun b11 => ?_
   refine xbox rfl rfl rfl rfl fun b12 => ?_
   refine nt_ ?_
   refine sr_ ?_
   refine vp_ (qv_fieldAddrB FldC.h rfl) ?_
   refine v_ (qv_loadB 0 ShpC.h rfl rfl rfl rfl) ?_
   refine nt_ ?_
   refine xblock ?_
   refine sr_ ?_
   refine vp_ (pv_bin2 rfl rfl rfl) ?_
   refine as_ ?_
   refine nt_ ?_
   by_cases hp9 : x6.1 = 1
   ·replace h := h.1 hp9
    refine xcondT' (decide_eq_true hp9) rfl ?_
    refine xseqM (fun σ => ∃ (x17 : Bool), palinoderef11_node_j1 x4 c_palinoderef11_Ways o1 x2 x3 x5 x7 x17 r ∧ σ = ⟨[(0, .v (.pointer (some ⟨bx0, 0, none⟩))), (2, .sl 1 none (List.map eb x3)), (3, .v (.int .i64 x4)), (6, .sl 4 none (List.map E_palinode_palinoderef11_Task x7)), (8, .v (.pointer (some ⟨b8, 0, none⟩))), (11, .v (.pointer (some ⟨b11, 0, none⟩))), (38, .v (.bool x17))], [⟨b11, 29, ((List.map E_palinode_api_Span x5.l).flatten)⟩, ⟨b8, 24, [.sl 10 none (List.map E_palinode_api_Node x2.1), .v (.int .i64 x2.2)]⟩, ⟨bx0, 85, ([.v (.bool o1.1)] ++ ((List.map E_palinode_api_Span o1.2.1.l).flatten ++ [.v (.int .i64 o1.2.2.1), .v (.int .i64 o1.2.2.2.1), .v (.int .i64 o1.2.2.2.2)]))⟩], []⟩) ?_ ?_
    ·refine xregionD (m := 13) (by kernel_rfl) rfl ?_
     refine pl_ 0 rfl (pv_move rfl) ?_
     refine pl_ 1 rfl (pv_move rfl) ?_
     refine pl_ 2 rfl (pv_lenM UndC.h rfl) ?_
     refine pl_ 3 rfl (pv_bin2 rfl rfl rfl) ?_
     refine pl_ 4 rfl (pv_move rfl) ?_
     by_cases hp20 : x4 < (x3.length : Int)
     ·replace h := h.1 hp20
      refine psetB 30 (decide_eq_true hp20) rfl ?_
      obtain ⟨h22a, h⟩ := h
      obtain ⟨y21, h22b, h⟩ := h
      obtain ⟨y24, h23, h⟩ := h
      refine pl_ 5 rfl (qv_fieldAddrB FldC.h rfl) ?_
      refine pl_ 7 rfl (pv_move rfl) ?_
      refine pl_ 8 rfl (pv_move rfl) ?_
      refine pl_ 9 rfl (pv_indexAddrM h22a h22b UndC.h ShpC.h rfl rfl) ?_
      refine xpvalE 6 [10] rfl (qv_loadP 0 [.v (.int .i64 x6.1), .v (.int .i64 x6.2.1), .v (.int .i64 x6.2.2.1), .v (.int .i64 x6.2.2.2.1), .v (.int .i64 x6.2.2.2.2.1), .v (.int .i64 x6.2.2.2.2.2.1)] ((List.map ew x6.2.2.2.2.2.2.l).flatten) [] sq_ sl_ sl_ (part_all (seg_lenE (by rfl))) ShpC.h rfl rfl) rfl rfl (by kernel_rfl) (by kernel_rfl) (by kernel_rfl) (fun _ _ _ _ h => h) ?_
      refine xpvalE 10 [] rfl (qv_load ShpC.h rfl rfl rfl) rfl rfl (by kernel_rfl) (by kernel_rfl) (by kernel_rfl) (fun _ _ _ _ h => h) ?_
      refine xpstep (i := 11) (by kernel_rfl) rfl ?_
      refine wcall0 (palinoderef05_Has_con x6.2.2.2.2.2.2 y21 _ h23) Try.func34 (by kernel_rfl) rfl (.cons rfl (.refl _) (.cons rfl (.refl _) .nil)) rfl rfl ?_
      refine pl_ 12 rfl (pv_pick rfl rfl) ?_
      refine xpdone (by kernel_rfl) ?_
      exact xmeet ⟨y24, h, rfl⟩ ⟨lk_, (SubM.of (.drop (.keep rfl rfl (.refl _) (.keep rfl rfl (.refl _) (.keep rfl rfl (.refl _) (.nil _))))) (.nil _))⟩
     ·replace h := h.2 hp20
      refine psetB 30 (decide_eq_false hp20) rfl ?_
      refine xpskip 5 rfl rfl rfl (by kernel_rfl) (by kernel_rfl) (by kernel_rfl) (fun _ _ _ _ h => h) ?_
      refine xpskip 6 rfl rfl rfl (by kernel_rfl) (by kernel_rfl) (by kernel_rfl) (fun _ _ _ _ h => h) ?_
      refine xpskip 7 rfl rfl rfl (by kernel_rfl) (by kernel_rfl) (by kernel_rfl) (fun _ _ _ _ h => h) ?_
      refine xpskip 8 rfl rfl rfl (by kernel_rfl) (by kernel_rfl) (by kernel_rfl) (fun _ _ _ _ h => h) ?_
      refine xpskip 9 rfl rfl rfl (by kernel_rfl) (by kernel_rfl) (by kernel_rfl) (fun _ _ _ _ h => h) ?_
      refine xpskip 10 rfl rfl rfl (by kernel_rfl) (by kernel_rfl) (by kernel_rfl) (fun _ _ _ _ h => h) ?_
      refine xpskip 11 rfl rfl rfl (by kernel_rfl) (by kernel_rfl) (by kernel_rfl) (fun _ _ _ _ h => h) ?_
      refine pl_ 12 rfl (pv_pick rfl rfl) ?_
      refine xpdone (by kernel_rfl) ?_
      exact xmeet ⟨false, h, rfl⟩ ⟨lk_, (SubM.of (.drop (.keep rfl rfl (.refl _) (.keep rfl rfl (.refl _) (.keep rfl rfl (.refl _) (.nil _))))) (.nil _))⟩
    ·clear h
     rintro _ ⟨x17, h, rfl⟩
     by_cases hp25 : x17 = true
     ·replace h := h.1 hp25
      refine xcondT' hp25 rfl ?_
      refine xregion ?_
      refine mv_ ?_
      refine v_ (qv_loadB 1 ShpC.h rfl rfl rfl rfl) ?_
      refine mv_ ?_
      refine mv_ ?_
      obtain ⟨h26, h⟩ := h
      refine vp_ (pv_addI h26 rfl rfl) ?_
      refine v_ (qv_loadP 0 [] ((List.map E_palinode_api_Span x5.l).flatten) [] sq_ sl_ sl_ (part_all (seg_lenE (by rfl))) ShpC.h rfl rfl) ?_
      refine mv_ ?_
      obtain ⟨y28, h27, h⟩ := h
      obtain ⟨m27, hm27, h27⟩ := hc_palinoderef11_Ways _ _ _ _ _ _ _ h27
      refine xcallF (Fb := [⟨b11, 29, ((List.map E_palinode_api_Span x5.l).flatten)⟩, ⟨b8, 24, [.sl 10 none (List.map E_palinode_api_Node x2.1), .v (.int .i64 x2.2)]⟩]) (Ft := []) ((ih m27 hm27).1 o1 x2 x3 (x4 + 1) x5 x7 bx0 _ h27) Try.func31 (by kernel_rfl) rfl (.cons rfl (.refl _) (.cons rfl (.refl _) (.cons rfl (.refl _) (.cons rfl (.refl _) (.cons rfl (.refl _) (.cons rfl (.refl _) .nil)))))) (by refine SubM.trans (SubM.mvB 2 rfl) ?_; (simp only [List.eraseIdx]); exact sm_) rfl rfl ?_
      rintro _ _ _ ⟨rfl, rfl, rfl⟩
      simp only [List.nil_append, List.cons_append]
      refine xnil ?_
      refine xin_normal ?_
      replace h := h.symm
      subst h
      exact xret0 hg rfl (SubM.of (.keep rfl rfl (.refl _) (.nil _)) (.nil _)) ⟨rfl, rfl, rfl⟩ (by simp)
     ·replace h := h.2 hp25
      refine xcondF' (b_f hp25) rfl ?_
      refine xskipc ?_
      refine xin_normal ?_
      replace h := h.symm
      subst h
      exact xret0 hg rfl (SubM.of (.drop (.drop (.keep rfl rfl (.refl _) (.nil _)))) (.nil _)) ⟨rfl, rfl, rfl⟩ (by simp)
   ·replace h := h.2 hp9
    refine xcondF' (decide_eq_false hp9) rfl ?_
    refine sr_ ?_
    refine vp_ (pv_bin2 rfl rfl rfl) ?_
    refine as_ ?_
    refine nt_ ?_
    by_cases hp30 : x6.1 = 2
    ·replace h := h.1 hp30
     refine xcondT' (decide_eq_true hp30) rfl ?_
     refine xregionD (m := 15) (by kernel_rfl) rfl ?_
     obtain ⟨y32, h31, h⟩ := h
     obtain ⟨y35, h34, h⟩ := h
     refine xpcut 1 #[true, true, true, true, true, true, true, true, true, true, true, true, true, true, false] (fun σ => ∃ (i33 : Option (Nat × Nat)), σ = ⟨[(49, .v (.pointer (some ⟨bx0, 0, none⟩))), (50, .agg [.sl 10 none (List.map E_palinode_api_Node x2.1), .v (.int .i64 x2.2)]), (51, .sl 1 none (List.map eb x3)), (52, .v (.int .i64 x4)), (53, .agg ((List.map E_palinode_api_Span x5.l).flatten)), (62, .sl 4 (some i33) (List.map E_palinode_palinoderef11_Task y32))], [⟨bx0, 85, ([.v (.bool o1.1)] ++ ((List.map E_palinode_api_Span o1.2.1.l).flatten ++ [.v (.int .i64 o1.2.2.1), .v (.int .i64 o1.2.2.2.1), .v (.int .i64 o1.2.2.2.2)]))⟩], [⟨i33, 88, 4, y32.length⟩]⟩) ?_ (fun key36 => ?_)
     ·rintro _ ⟨i33, rfl⟩
      refine xpstep (i := 14) (by kernel_rfl) rfl ?_
      obtain ⟨m34, hm34, h34⟩ := hc_palinoderef11_Ways _ _ _ _ _ _ _ h34
      refine wcallF (Fb := []) (Ft := [⟨i33, 88, 4, y32.length⟩]) ((ih m34 hm34).1 o1 x2 x3 x4 x5 y32 bx0 _ h34) Try.func31 (by kernel_rfl) rfl (.cons rfl (.refl _) (.cons rfl (.refl _) (.cons rfl (.refl _) (.cons rfl (.refl _) (.cons rfl (.refl _) (.cons rfl (.tok _ _ _) .nil)))))) (by exact sm_) rfl rfl ?_
      rintro _ _ _ ⟨rfl, rfl, rfl⟩
      simp only [List.nil_append, List.cons_append]
      refine xpdone (by kernel_rfl) ?_
      refine xin_normal ?_
      replace h := h.symm
      subst h
      exact xret0 hg rfl (SubM.of (.keep rfl rfl (.refl _) (.nil _)) (.nil _)) ⟨rfl, rfl, rfl⟩ (by simp)
     refine xpcut 3 #[true, true, true, true, true, true, true, true, true, true, true, true, false, false, false] (fun σ => σ = ⟨[(49, .v (.pointer (some ⟨bx0, 0, none⟩))), (50, .agg [.sl 10 none (List.map E_palinode_api_Node x2.1), .v (.int .i64 x2.2)]), (51, .sl 1 none (List.map eb x3)), (52, .v (.int .i64 x4)), (53, .agg ((List.map E_palinode_api_Span x5.l).flatten)), (54, .sl 4 none (List.map E_palinode_palinoderef11_Task x7)), (57, .agg [.v (.int .i64 0), .v (.int .i64 x6.2.1), .v (.int .i64 0), .v (.int .i64 0)]), (60, .agg [.v (.int .i64 0), .v (.int .i64 x6.2.2.1), .v (.int .i64 0), .v (.int .i64 0)])], [⟨bx0, 85, ([.v (.bool o1.1)] ++ ((List.map E_palinode_api_Span o1.2.1.l).flatten ++ [.v (.int .i64 o1.2.2.1), .v (.int .i64 o1.2.2.2.1), .v (.int .i64 o1.2.2.2.2)]))⟩], []⟩) ?_ (fun key37 => ?_)
     ·rintro _ rfl
      refine xpstep (i := 12) (by kernel_rfl) rfl ?_
      refine wbuildSliceM (f := E_palinode_palinoderef11_Task) [(0, x6.2.1, 0, 0), (0, x6.2.2.1, 0, 0)] UndC.h InfC.h rfl rfl wr_ rfl rfl rfl rfl fun s61 => ?_
      refine xpstep (i := 13) (by kernel_rfl) rfl ?_
      refine wcallM (palinoderef11_row_con x7 ([(0, x6.2.1, 0, 0), (0, x6.2.2.1, 0, 0)]) _ h31) Try.func45 (by kernel_rfl) rfl (.cons rfl (.refl _) (.cons rfl (.tok _ _ _) .nil)) rfl rfl fun i33 => ?_
      exact xpuse key36 ⟨i33, rfl⟩ ⟨lk_, (SubM.of (.keep rfl rfl (.refl _) (.nil _)) (.keep rfl (.nil _)))⟩ rfl (by kernel_rfl)
     refine xpcut 4 #[true, true, true, true, false, true, true, true, true, true, true, true, false, false, false] (fun σ => σ = ⟨[(11, .v (.pointer (some ⟨b11, 0, none⟩))), (49, .v (.pointer (some ⟨bx0, 0, none⟩))), (50, .agg [.sl 10 none (List.map E_palinode_api_Node x2.1), .v (.int .i64 x2.2)]), (51, .sl 1 none (List.map eb x3)), (52, .v (.int .i64 x4)), (54, .sl 4 none (List.map E_palinode_palinoderef11_Task x7)), (57, .agg [.v (.int .i64 0), .v (.int .i64 x6.2.1), .v (.int .i64 0), .v (.int .i64 0)]), (60, .agg [.v (.int .i64 0), .v (.int .i64 x6.2.2.1), .v (.int .i64 0), .v (.int .i64 0)])], [⟨b11, 29, ((List.map E_palinode_api_Span x5.l).flatten)⟩, ⟨bx0, 85, ([.v (.bool o1.1)] ++ ((List.map E_palinode_api_Span o1.2.1.l).flatten ++ [.v (.int .i64 o1.2.2.1), .v (.int .i64 o1.2.2.2.1), .v (.int .i64 o1.2.2.2.2)]))⟩], []⟩) ?_ (fun key38 => ?_)
     ·rintro _ rfl
      refine xfl0 [⟨4, 53, .agg ((List.map E_palinode_api_Span x5.l).flatten)⟩] 3 ?_
      refine xflstep 12 (by kernel_rfl) rfl (.cons rfl rfl rfl (fun _ => rfl) (fun _ => qv_loadP 0 [] ((List.map E_palinode_api_Span x5.l).flatten) [] sq_ sl_ sl_ (part_all (seg_lenE (by rfl))) ShpC.h rfl rfl) .nil) fun D l td hR => ?_
      refine wbuildSliceM (f := E_palinode_palinoderef11_Task) [(0, x6.2.1, 0, 0), (0, x6.2.2.1, 0, 0)] UndC.h InfC.h rfl rfl wr_ rfl rfl rfl rfl fun s61 => ?_
      refine xflgo1 hR ?_
      refine xflstep 13 (by kernel_rfl) rfl (.cons rfl rfl rfl (fun _ => rfl) (fun _ => qv_loadP 0 [] ((List.map E_palinode_api_Span x5.l).flatten) [] sq_ sl_ sl_ (part_all (seg_lenE (by rfl))) ShpC.h rfl rfl) .nil) fun D l td hR => ?_
      refine wcallM (palinoderef11_row_con x7 ([(0, x6.2.1, 0, 0), (0, x6.2.2.1, 0, 0)]) _ h31) Try.func45 (by kernel_rfl) rfl (.cons rfl (.refl _) (.cons rfl (.tok _ _ _) .nil)) rfl rfl fun i33 => ?_
      refine xflgo1 hR ?_
      refine xflend (l' := #[true, true, true, true, true, true, true, true, true, true, true, true, true, true, false]) (by kernel_rfl) (.cons rfl rfl rfl (fun _ => rfl) (fun _ => qv_loadP 0 [] ((List.map E_palinode_api_Span x5.l).flatten) [] sq_ sl_ sl_ (part_all (seg_lenE (by rfl))) ShpC.h rfl rfl) .nil) (by kernel_rfl) rfl (by kernel_rfl) (by kernel_rfl) ?_
      simp only [List.nil_append, List.cons_append, List.map_cons, List.map_nil]
      exact xpuse key36 ⟨i33, rfl⟩ ⟨lk_, (SubM.of (.drop (.keep rfl rfl (.refl _) (.nil _))) (.keep rfl (.nil _)))⟩ rfl (by kernel_rfl)
     refine xpcut 4 #[true, false, true, true, true, true, true, true, true, true, true, true, false, false, false] (fun σ => σ = ⟨[(8, .v (.pointer (some ⟨b8, 0, none⟩))), (49, .v (.pointer (some ⟨bx0, 0, none⟩))), (51, .sl 1 none (List.map eb x3)), (52, .v (.int .i64 x4)), (53, .agg ((List.map E_palinode_api_Span x5.l).flatten)), (54, .sl 4 none (List.map E_palinode_palinoderef11_Task x7)), (57, .agg [.v (.int .i64 0), .v (.int .i64 x6.2.1), .v (.int .i64 0), .v (.int .i64 0)]), (60, .agg [.v (.int .i64 0), .v (.int .i64 x6.2.2.1), .v (.int .i64 0), .v (.int .i64 0)])], [⟨b8, 24, [.sl 10 none (List.map E_palinode_api_Node x2.1), .v (.int .i64 x2.2)]⟩, ⟨bx0, 85, ([.v (.bool o1.1)] ++ ((List.map E_palinode_api_Span o1.2.1.l).flatten ++ [.v (.int .i64 o1.2.2.1), .v (.int .i64 o1.2.2.2.1), .v (.int .i64 o1.2.2.2.2)]))⟩], []⟩) ?_ (fun key39 => ?_)
     ·rintro _ rfl
      refine xfl0 [⟨1, 50, .agg [.sl 10 none (List.map E_palinode_api_Node x2.1), .v (.int .i64 x2.2)]⟩] 3 ?_
      refine xflstep 12 (by kernel_rfl) rfl (.cons rfl rfl rfl (fun _ => rfl) (fun _ => qv_loadB 0 ShpC.h rfl rfl rfl rfl) .nil) fun D l td hR => ?_
      refine wbuildSliceM (f := E_palinode_palinoderef11_Task) [(0, x6.2.1, 0, 0), (0, x6.2.2.1, 0, 0)] UndC.h InfC.h rfl rfl wr_ rfl rfl rfl rfl fun s61 => ?_
      refine xflgo1 hR ?_
      refine xflstep 13 (by kernel_rfl) rfl (.cons rfl rfl rfl (fun _ => rfl) (fun _ => qv_loadB 0 ShpC.h rfl rfl rfl rfl) .nil) fun D l td hR => ?_
      refine wcallM (palinoderef11_row_con x7 ([(0, x6.2.1, 0, 0), (0, x6.2.2.1, 0, 0)]) _ h31) Try.func45 (by kernel_rfl) rfl (.cons rfl (.refl _) (.cons rfl (.tok _ _ _) .nil)) rfl rfl fun i33 => ?_
      refine xflgo1 hR ?_
      refine xflend (l' := #[true, true, true, true, true, true, true, true, true, true, true, true, true, true, false]) (by kernel_rfl) (.cons rfl rfl rfl (fun _ => rfl) (fun _ => qv_loadB 0 ShpC.h rfl rfl rfl rfl) .nil) (by kernel_rfl) rfl (by kernel_rfl) (by kernel_rfl) ?_
      simp only [List.nil_append, List.cons_append, List.map_cons, List.map_nil]
      exact xpuse key36 ⟨i33, rfl⟩ ⟨lk_, (SubM.of (.drop (.keep rfl rfl (.refl _) (.nil _))) (.keep rfl (.nil _)))⟩ rfl (by kernel_rfl)
     refine xpcut 5 #[true, false, true, true, false, true, true, true, true, true, true, true, false, false, false] (fun σ => σ = ⟨[(8, .v (.pointer (some ⟨b8, 0, none⟩))), (11, .v (.pointer (some ⟨b11, 0, none⟩))), (49, .v (.pointer (some ⟨bx0, 0, none⟩))), (51, .sl 1 none (List.map eb x3)), (52, .v (.int .i64 x4)), (54, .sl 4 none (List.map E_palinode_palinoderef11_Task x7)), (57, .agg [.v (.int .i64 0), .v (.int .i64 x6.2.1), .v (.int .i64 0), .v (.int .i64 0)]), (60, .agg [.v (.int .i64 0), .v (.int .i64 x6.2.2.1), .v (.int .i64 0), .v (.int .i64 0)])], [⟨b11, 29, ((List.map E_palinode_api_Span x5.l).flatten)⟩, ⟨b8, 24, [.sl 10 none (List.map E_palinode_api_Node x2.1), .v (.int .i64 x2.2)]⟩, ⟨bx0, 85, ([.v (.bool o1.1)] ++ ((List.map E_palinode_api_Span o1.2.1.l).flatten ++ [.v (.int .i64 o1.2.2.1), .v (.int .i64 o1.2.2.2.1), .v (.int .i64 o1.2.2.2.2)]))⟩], []⟩) ?_ (fun key40 => ?_)
     ·rintro _ rfl
      refine xfl0 [⟨1, 50, .agg [.sl 10 none (List.map E_palinode_api_Node x2.1), .v (.int .i64 x2.2)]⟩, ⟨4, 53, .agg ((List.map E_palinode_api_Span x5.l).flatten)⟩] 3 ?_
      refine xflstep 12 (by kernel_rfl) rfl (.cons rfl rfl rfl (fun _ => rfl) (fun _ => qv_loadB 1 ShpC.h rfl rfl rfl rfl) (.cons rfl rfl rfl (fun _ => rfl) (fun _ => qv_loadP 0 [] ((List.map E_palinode_api_Span x5.l).flatten) [] sq_ sl_ sl_ (part_all (seg_lenE (by rfl))) ShpC.h rfl rfl) .nil)) fun D l td hR => ?_
      refine wbuildSliceM (f := E_palinode_palinoderef11_Task) [(0, x6.2.1, 0, 0), (0, x6.2.2.1, 0, 0)] UndC.h InfC.h rfl rfl wr_ rfl rfl rfl rfl fun s61 => ?_
      refine xflgo1 hR ?_
      refine xflstep 13 (by kernel_rfl) rfl (.cons rfl rfl rfl (fun _ => rfl) (fun _ => qv_loadB 1 ShpC.h rfl rfl rfl rfl) (.cons rfl rfl rfl (fun _ => rfl) (fun _ => qv_loadP 0 [] ((List.map E_palinode_api_Span x5.l).flatten) [] sq_ sl_ sl_ (part_all (seg_lenE (by rfl))) ShpC.h rfl rfl) .nil)) fun D l td hR => ?_
      refine wcallM (palinoderef11_row_con x7 ([(0, x6.2.1, 0, 0), (0, x6.2.2.1, 0, 0)]) _ h31) Try.func45 (by kernel_rfl) rfl (.cons rfl (.refl _) (.cons rfl (.tok _ _ _) .nil)) rfl rfl fun i33 => ?_
      refine xflgo1 hR ?_
      refine xflend (l' := #[true, true, true, true, true, true, true, true, true, true, true, true, true, true, false]) (by kernel_rfl) (.cons rfl rfl rfl (fun _ => rfl) (fun _ => qv_loadB 1 ShpC.h rfl rfl rfl rfl) (.cons rfl rfl rfl (fun _ => rfl) (fun _ => qv_loadP 0 [] ((List.map E_palinode_api_Span x5.l).flatten) [] sq_ sl_ sl_ (part_all (seg_lenE (by rfl))) ShpC.h rfl rfl) .nil)) (by kernel_rfl) rfl (by kernel_rfl) (by kernel_rfl) ?_
      simp only [List.nil_append, List.cons_append, List.map_cons, List.map_nil]
      exact xpuse key36 ⟨i33, rfl⟩ ⟨lk_, (SubM.of (.drop (.drop (.keep rfl rfl (.refl _) (.nil _)))) (.keep rfl (.nil _)))⟩ rfl (by kernel_rfl)
     refine xpcut 7 #[true, true, true, true, true, true, true, false, false, true, false, false, false, false, false] (fun σ => σ = ⟨[(49, .v (.pointer (some ⟨bx0, 0, none⟩))), (50, .agg [.sl 10 none (List.map E_palinode_api_Node x2.1), .v (.int .i64 x2.2)]), (51, .sl 1 none (List.map eb x3)), (52, .v (.int .i64 x4)), (53, .agg ((List.map E_palinode_api_Span x5.l).flatten)), (54, .sl 4 none (List.map E_palinode_palinoderef11_Task x7)), (55, .v (.pointer (some ⟨b12, 1, none⟩))), (58, .v (.pointer (some ⟨b12, 2, none⟩)))], [⟨b12, 54, ([.v (.int .i64 x6.1), .v (.int .i64 x6.2.1), .v (.int .i64 x6.2.2.1), .v (.int .i64 x6.2.2.2.1), .v (.int .i64 x6.2.2.2.2.1), .v (.int .i64 x6.2.2.2.2.2.1)] ++ (List.map ew x6.2.2.2.2.2.2.l).flatten)⟩, ⟨bx0, 85, ([.v (.bool o1.1)] ++ ((List.map E_palinode_api_Span o1.2.1.l).flatten ++ [.v (.int .i64 o1.2.2.1), .v (.int .i64 o1.2.2.2.1), .v (.int .i64 o1.2.2.2.2)]))⟩], []⟩) ?_ (fun key41 => ?_)
     ·rintro _ rfl
      refine xpstepN (is := [7, 10]) (by kernel_rfl) (by simp) ?_
      intro i hi; simp only [List.mem_cons, List.not_mem_nil, or_false] at hi; rcases hi with rfl | rfl
      ·refine ⟨_, rfl, ?_⟩
       refine wv_ (qv_loadB 0 ShpC.h rfl rfl rfl rfl) ?_
       refine pl_ 8 rfl (pv_buildC StrC.h rfl rfl) ?_
       refine xpvalE 10 [] rfl (qv_loadB 0 ShpC.h rfl rfl rfl rfl) rfl rfl (by kernel_rfl) (by kernel_rfl) (by kernel_rfl) (fun _ _ _ _ h => h) ?_
       refine pl_ 11 rfl (pv_buildC StrC.h rfl rfl) ?_
       exact xpuse key37 rfl ⟨lk_, (SubM.of (.drop (.keep rfl rfl (.refl _) (.nil _))) (.nil _))⟩ rfl (by kernel_rfl)
      ·refine ⟨_, rfl, ?_⟩
       refine wv_ (qv_loadB 0 ShpC.h rfl rfl rfl rfl) ?_
       refine pl_ 11 rfl (pv_buildC StrC.h rfl rfl) ?_
       refine xpvalE 7 [] rfl (qv_loadB 0 ShpC.h rfl rfl rfl rfl) rfl rfl (by kernel_rfl) (by kernel_rfl) (by kernel_rfl) (fun _ _ _ _ h => h) ?_
       refine pl_ 8 rfl (pv_buildC StrC.h rfl rfl) ?_
       exact xpuse key37 rfl ⟨lk_, (SubM.of (.drop (.keep rfl rfl (.refl _) (.nil _))) (.nil _))⟩ rfl (by kernel_rfl)
     refine pl_ 0 rfl (pv_move rfl) ?_
     refine pl_ 2 rfl (pv_move rfl) ?_
     refine pl_ 3 rfl (pv_move rfl) ?_
     refine pl_ 5 rfl (pv_move rfl) ?_
     refine pl_ 6 rfl (qv_fieldAddrB FldC.h rfl) ?_
     refine pl_ 9 rfl (qv_fieldAddrB FldC.h rfl) ?_
     refine xpstepN (is := [1, 4, 7, 10]) (by kernel_rfl) (by simp) ?_
     intro i hi; simp only [List.mem_cons, List.not_mem_nil, or_false] at hi; rcases hi with rfl | rfl | rfl | rfl
     ·refine ⟨_, rfl, ?_⟩
      refine wv_ (qv_loadB 2 ShpC.h rfl rfl rfl rfl) ?_
      refine xpstepN (is := [4, 7, 10]) (by kernel_rfl) (by simp) ?_
      intro i hi; simp only [List.mem_cons, List.not_mem_nil, or_false] at hi; rcases hi with rfl | rfl | rfl
      ·refine ⟨_, rfl, ?_⟩
       refine wv_ (qv_loadP 1 [] ((List.map E_palinode_api_Span x5.l).flatten) [] sq_ sl_ sl_ (part_all (seg_lenE (by rfl))) ShpC.h rfl rfl) ?_
       exact xpuse key41 rfl ⟨lk_, (SubM.of (.keep rfl rfl (.refl _) (.drop (.drop (.keep rfl rfl (.refl _) (.nil _))))) (.nil _))⟩ rfl (by kernel_rfl)
      ·refine ⟨_, rfl, ?_⟩
       refine wv_ (qv_loadB 0 ShpC.h rfl rfl rfl rfl) ?_
       refine pl_ 8 rfl (pv_buildC StrC.h rfl rfl) ?_
       refine xpvalE 10 [4] rfl (qv_loadB 0 ShpC.h rfl rfl rfl rfl) rfl rfl (by kernel_rfl) (by kernel_rfl) (by kernel_rfl) (fun _ _ _ _ h => h) ?_
       refine pl_ 11 rfl (pv_buildC StrC.h rfl rfl) ?_
       exact xpuse key38 rfl ⟨lk_, (SubM.of (.drop (.keep rfl rfl (.refl _) (.drop (.keep rfl rfl (.refl _) (.nil _))))) (.nil _))⟩ rfl (by kernel_rfl)
      ·refine ⟨_, rfl, ?_⟩
       refine wv_ (qv_loadB 0 ShpC.h rfl rfl rfl rfl) ?_
       refine pl_ 11 rfl (pv_buildC StrC.h rfl rfl) ?_
       refine xpvalE 7 [4] rfl (qv_loadB 0 ShpC.h rfl rfl rfl rfl) rfl rfl (by kernel_rfl) (by kernel_rfl) (by kernel_rfl) (fun _ _ _ _ h => h) ?_
       refine pl_ 8 rfl (pv_buildC StrC.h rfl rfl) ?_
       exact xpuse key38 rfl ⟨lk_, (SubM.of (.drop (.keep rfl rfl (.refl _) (.drop (.keep rfl rfl (.refl _) (.nil _))))) (.nil _))⟩ rfl (by kernel_rfl)
     ·refine ⟨_, rfl, ?_⟩
      refine wv_ (qv_loadP 1 [] ((List.map E_palinode_api_Span x5.l).flatten) [] sq_ sl_ sl_ (part_all (seg_lenE (by rfl))) ShpC.h rfl rfl) ?_
      refine xpstepN (is := [1, 7, 10]) (by kernel_rfl) (by simp) ?_
      intro i hi; simp only [List.mem_cons, List.not_mem_nil, or_false] at hi; rcases hi with rfl | rfl | rfl
      ·refine ⟨_, rfl, ?_⟩
       refine wv_ (qv_loadB 2 ShpC.h rfl rfl rfl rfl) ?_
       exact xpuse key41 rfl ⟨lk_, (SubM.of (.keep rfl rfl (.refl _) (.drop (.drop (.keep rfl rfl (.refl _) (.nil _))))) (.nil _))⟩ rfl (by kernel_rfl)
      ·refine ⟨_, rfl, ?_⟩
       refine wv_ (qv_loadB 0 ShpC.h rfl rfl rfl rfl) ?_
       refine pl_ 8 rfl (pv_buildC StrC.h rfl rfl) ?_
       refine xpvalE 10 [1] rfl (qv_loadB 0 ShpC.h rfl rfl rfl rfl) rfl rfl (by kernel_rfl) (by kernel_rfl) (by kernel_rfl) (fun _ _ _ _ h => h) ?_
       refine pl_ 11 rfl (pv_buildC StrC.h rfl rfl) ?_
       exact xpuse key39 rfl ⟨lk_, (SubM.of (.drop (.drop (.keep rfl rfl (.refl _) (.keep rfl rfl (.refl _) (.nil _))))) (.nil _))⟩ rfl (by kernel_rfl)
      ·refine ⟨_, rfl, ?_⟩
       refine wv_ (qv_loadB 0 ShpC.h rfl rfl rfl rfl) ?_
       refine pl_ 11 rfl (pv_buildC StrC.h rfl rfl) ?_
       refine xpvalE 7 [1] rfl (qv_loadB 0 ShpC.h rfl rfl rfl rfl) rfl rfl (by kernel_rfl) (by kernel_rfl) (by kernel_rfl) (fun _ _ _ _ h => h) ?_
       refine pl_ 8 rfl (pv_buildC StrC.h rfl rfl) ?_
       exact xpuse key39 rfl ⟨lk_, (SubM.of (.drop (.drop (.keep rfl rfl (.refl _) (.keep rfl rfl (.refl _) (.nil _))))) (.nil _))⟩ rfl (by kernel_rfl)
     ·refine ⟨_, rfl, ?_⟩
      refine wv_ (qv_loadB 0 ShpC.h rfl rfl rfl rfl) ?_
      refine pl_ 8 rfl (pv_buildC StrC.h rfl rfl) ?_
      refine xpvalE 10 [1, 4] rfl (qv_loadB 0 ShpC.h rfl rfl rfl rfl) rfl rfl (by kernel_rfl) (by kernel_rfl) (by kernel_rfl) (fun _ _ _ _ h => h) ?_
      refine pl_ 11 rfl (pv_buildC StrC.h rfl rfl) ?_
      exact xpuse key40 rfl ⟨lk_, (SubM.of (.drop (.keep rfl rfl (.refl _) (.keep rfl rfl (.refl _) (.keep rfl rfl (.refl _) (.nil _))))) (.nil _))⟩ rfl (by kernel_rfl)
     ·refine ⟨_, rfl, ?_⟩
      refine wv_ (qv_loadB 0 ShpC.h rfl rfl rfl rfl) ?_
      refine pl_ 11 rfl (pv_buildC StrC.h rfl rfl) ?_
      refine xpvalE 7 [1, 4] rfl (qv_loadB 0 ShpC.h rfl rfl rfl rfl) rfl rfl (by kernel_rfl) (by kernel_rfl) (by kernel_rfl) (fun _ _ _ _ h => h) ?_
      refine pl_ 8 rfl (pv_buildC StrC.h rfl rfl) ?_
      exact xpuse key40 rfl ⟨lk_, (SubM.of (.drop (.keep rfl rfl (.refl _) (.keep rfl rfl (.refl _) (.keep rfl rfl (.refl _) (.nil _))))) (.nil _))⟩ rfl (by kernel_rfl)
    ·replace h := h.2 hp30
     refine xcondF' (decide_eq_false hp30) rfl ?_
     refine sr_ ?_
     refine vp_ (pv_bin2 rfl rfl rfl) ?_
     refine as_ ?_
     refine nt_ ?_
     by_cases hp43 : x6.1 = 3
     ·replace h := h.1 hp43
      refine xcondT' (decide_eq_true hp43) rfl ?_
      refine xseq ?_
      refine xregionD (m := 12) (by kernel_rfl) rfl ?_
      obtain ⟨y50, h49, h⟩ := h
      obtain ⟨y53, h52, h⟩ := h
      refine pl_ 0 rfl (pv_move rfl) ?_
      refine pl_ 2 rfl (pv_move rfl) ?_
      refine pl_ 3 rfl (pv_move rfl) ?_
      refine pl_ 5 rfl (pv_move rfl) ?_
      refine pl_ 6 rfl (qv_fieldAddrB FldC.h rfl) ?_
      refine xpvalE 7 [1, 4] rfl (qv_loadB 0 ShpC.h rfl rfl rfl rfl) rfl rfl (by kernel_rfl) (by kernel_rfl) (by kernel_rfl) (fun _ _ _ _ h => h) ?_
      refine pl_ 8 rfl (pv_buildC StrC.h rfl rfl) ?_
      refine xfl0 [⟨1, 67, .agg [.sl 10 none (List.map E_palinode_api_Node x2.1), .v (.int .i64 x2.2)]⟩, ⟨4, 70, .agg ((List.map E_palinode_api_Span x5.l).flatten)⟩] 3 ?_
      refine xflstep 9 (by kernel_rfl) rfl (.cons rfl rfl rfl (fun _ => rfl) (fun _ => qv_loadB 2 ShpC.h rfl rfl rfl rfl) (.cons rfl rfl rfl (fun _ => rfl) (fun _ => qv_loadP 1 [] ((List.map E_palinode_api_Span x5.l).flatten) [] sq_ sl_ sl_ (part_all (seg_lenE (by rfl))) ShpC.h rfl rfl) .nil)) fun D l td hR => ?_
      refine wbuildSliceM (f := E_palinode_palinoderef11_Task) [(0, x6.2.1, 0, 0)] UndC.h InfC.h rfl rfl wr_ rfl rfl rfl rfl fun s75 => ?_
      refine xflgo1 hR ?_
      refine xflstep 10 (by kernel_rfl) rfl (.cons rfl rfl rfl (fun _ => rfl) (fun _ => qv_loadB 2 ShpC.h rfl rfl rfl rfl) (.cons rfl rfl rfl (fun _ => rfl) (fun _ => qv_loadP 1 [] ((List.map E_palinode_api_Span x5.l).flatten) [] sq_ sl_ sl_ (part_all (seg_lenE (by rfl))) ShpC.h rfl rfl) .nil)) fun D l td hR => ?_
      refine wcallM (palinoderef11_row_con x7 ([(0, x6.2.1, 0, 0)]) _ h49) Try.func45 (by kernel_rfl) rfl (.cons rfl (.refl _) (.cons rfl (.tok _ _ _) .nil)) rfl rfl fun i51 => ?_
      refine xflgo1 hR ?_
      refine xflend (l' := #[true, true, true, true, true, true, true, true, true, true, true, false]) (by kernel_rfl) (.cons rfl rfl rfl (fun _ => rfl) (fun _ => qv_loadB 2 ShpC.h rfl rfl rfl rfl) (.cons rfl rfl rfl (fun _ => rfl) (fun _ => qv_loadP 1 [] ((List.map E_palinode_api_Span x5.l).flatten) [] sq_ sl_ sl_ (part_all (seg_lenE (by rfl))) ShpC.h rfl rfl) .nil)) (by kernel_rfl) rfl (by kernel_rfl) (by kernel_rfl) ?_
      simp only [List.nil_append, List.cons_append, List.map_cons, List.map_nil]
      refine xpstep (i := 11) (by kernel_rfl) rfl ?_
      obtain ⟨m52, hm52, h52⟩ := hc_palinoderef11_Ways _ _ _ _ _ _ _ h52
      refine wcallF (Fb := [⟨b12, 54, ([.v (.int .i64 x6.1), .v (.int .i64 x6.2.1), .v (.int .i64 x6.2.2.1), .v (.int .i64 x6.2.2.2.1), .v (.int .i64 x6.2.2.2.2.1), .v (.int .i64 x6.2.2.2.2.2.1)] ++ (List.map ew x6.2.2.2.2.2.2.l).flatten)⟩, ⟨b11, 29, ((List.map E_palinode_api_Span x5.l).flatten)⟩, ⟨b8, 24, [.sl 10 none (List.map E_palinode_api_Node x2.1), .v (.int .i64 x2.2)]⟩]) (Ft := [⟨i51, 88, 4, y50.length⟩, ⟨(some (s75, 1)), 88, 4, ([(0, x6.2.1, 0, 0)]).length⟩]) ((ih m52 hm52).1 o1 x2 x3 x4 x5 y50 bx0 _ h52) Try.func31 (by kernel_rfl) rfl (.cons rfl (.refl _) (.cons rfl (.refl _) (.cons rfl (.refl _) (.cons rfl (.refl _) (.cons rfl (.refl _) (.cons rfl (.tok _ _ _) .nil)))))) (by refine SubM.trans (SubM.mvB 3 rfl) ?_; (simp only [List.eraseIdx]); exact sm_) rfl rfl ?_
      rintro _ _ _ ⟨rfl, rfl, rfl⟩
      simp only [List.nil_append, List.cons_append]
      refine xpdone (by kernel_rfl) ?_
      refine xthen ?_
      refine xregionD (m := 12) (by kernel_rfl) rfl ?_
      obtain ⟨y55, h54, h⟩ := h
      obtain ⟨y58, h57, h⟩ := h
      refine pl_ 0 rfl (pv_move rfl) ?_
      refine pl_ 2 rfl (pv_move rfl) ?_
      refine pl_ 3 rfl (pv_move rfl) ?_
      refine pl_ 5 rfl (pv_move rfl) ?_
      refine pl_ 6 rfl (qv_fieldAddrB FldC.h rfl) ?_
      refine xpvalE 7 [1, 4] rfl (qv_loadB 1 ShpC.h rfl rfl rfl rfl) rfl rfl (by kernel_rfl) (by kernel_rfl) (by kernel_rfl) (fun _ _ _ _ h => h) ?_
      refine pl_ 8 rfl (pv_buildC StrC.h rfl rfl) ?_
      refine xfl0 [⟨1, 79, .agg [.sl 10 none (List.map E_palinode_api_Node x2.1), .v (.int .i64 x2.2)]⟩, ⟨4, 82, .agg ((List.map E_palinode_api_Span x5.l).flatten)⟩] 3 ?_
      refine xflstep 9 (by kernel_rfl) rfl (.cons rfl rfl rfl (fun _ => rfl) (fun _ => qv_loadB 3 ShpC.h rfl rfl rfl rfl) (.cons rfl rfl rfl (fun _ => rfl) (fun _ => qv_loadP 2 [] ((List.map E_palinode_api_Span x5.l).flatten) [] sq_ sl_ sl_ (part_all (seg_lenE (by rfl))) ShpC.h rfl rfl) .nil)) fun D l td hR => ?_
      refine wbuildSliceM (f := E_palinode_palinoderef11_Task) [(0, x6.2.2.1, 0, 0)] UndC.h InfC.h rfl rfl wr_ rfl rfl rfl rfl fun s87 => ?_
      refine xflgo1 hR ?_
      refine xflstep 10 (by kernel_rfl) rfl (.cons rfl rfl rfl (fun _ => rfl) (fun _ => qv_loadB 3 ShpC.h rfl rfl rfl rfl) (.cons rfl rfl rfl (fun _ => rfl) (fun _ => qv_loadP 2 [] ((List.map E_palinode_api_Span x5.l).flatten) [] sq_ sl_ sl_ (part_all (seg_lenE (by rfl))) ShpC.h rfl rfl) .nil)) fun D l td hR => ?_
      refine wcallM (palinoderef11_row_con x7 ([(0, x6.2.2.1, 0, 0)]) _ h54) Try.func45 (by kernel_rfl) rfl (.cons rfl (.refl _) (.cons rfl (.tok _ _ _) .nil)) rfl rfl fun i56 => ?_
      refine xflgo1 hR ?_
      refine xflend (l' := #[true, true, true, true, true, true, true, true, true, true, true, false]) (by kernel_rfl) (.cons rfl rfl rfl (fun _ => rfl) (fun _ => qv_loadB 3 ShpC.h rfl rfl rfl rfl) (.cons rfl rfl rfl (fun _ => rfl) (fun _ => qv_loadP 2 [] ((List.map E_palinode_api_Span x5.l).flatten) [] sq_ sl_ sl_ (part_all (seg_lenE (by rfl))) ShpC.h rfl rfl) .nil)) (by kernel_rfl) rfl (by kernel_rfl) (by kernel_rfl) ?_
      simp only [List.nil_append, List.cons_append, List.map_cons, List.map_nil]
      refine xpstep (i := 11) (by kernel_rfl) rfl ?_
      obtain ⟨m57, hm57, h57⟩ := hc_palinoderef11_Ways _ _ _ _ _ _ _ h57
      refine wcallF (Fb := [⟨b12, 54, ([.v (.int .i64 x6.1), .v (.int .i64 x6.2.1), .v (.int .i64 x6.2.2.1), .v (.int .i64 x6.2.2.2.1), .v (.int .i64 x6.2.2.2.2.1), .v (.int .i64 x6.2.2.2.2.2.1)] ++ (List.map ew x6.2.2.2.2.2.2.l).flatten)⟩, ⟨b11, 29, ((List.map E_palinode_api_Span x5.l).flatten)⟩, ⟨b8, 24, [.sl 10 none (List.map E_palinode_api_Node x2.1), .v (.int .i64 x2.2)]⟩]) (Ft := [⟨i56, 88, 4, y55.length⟩, ⟨(some (s87, 1)), 88, 4, ([(0, x6.2.2.1, 0, 0)]).length⟩, ⟨i51, 88, 4, y50.length⟩, ⟨(some (s75, 1)), 88, 4, ([(0, x6.2.1, 0, 0)]).length⟩]) ((ih m57 hm57).1 y53 x2 x3 x4 x5 y55 bx0 _ h57) Try.func31 (by kernel_rfl) rfl (.cons rfl (.refl _) (.cons rfl (.refl _) (.cons rfl (.refl _) (.cons rfl (.refl _) (.cons rfl (.refl _) (.cons rfl (.tok _ _ _) .nil)))))) (by exact sm_) rfl rfl ?_
      rintro _ _ _ ⟨rfl, rfl, rfl⟩
      simp only [List.nil_append, List.cons_append]
      refine xpdone (by kernel_rfl) ?_
      refine xin_normal ?_
      replace h := h.symm
      subst h
      exact xret0 hg rfl (SubM.of (.keep rfl rfl (.refl _) (.nil _)) (.nil _)) ⟨rfl, rfl, rfl⟩ (by simp)
     ·replace h := h.2 hp43
      refine xcondF' (decide_eq_false hp43) rfl ?_
      refine sr_ ?_
      refine vp_ (pv_bin2 rfl rfl rfl) ?_
      refine as_ ?_
      refine nt_ ?_
      by_cases hp60 : x6.1 = 5
      ·replace h := h.1 hp60
       refine xcondT' (decide_eq_true hp60) rfl ?_
       refine xregionD (m := 16) (by kernel_rfl) rfl ?_
       obtain ⟨y62, h61, h⟩ := h
       obtain ⟨y65, h64, h⟩ := h
       refine xpcut 1 #[true, true, true, true, true, true, true, true, true, true, true, true, true, true, true, false] (fun σ => ∃ (i63 : Option (Nat × Nat)), σ = ⟨[(92, .v (.pointer (some ⟨bx0, 0, none⟩))), (93, .agg [.sl 10 none (List.map E_palinode_api_Node x2.1), .v (.int .i64 x2.2)]), (94, .sl 1 none (List.map eb x3)), (95, .v (.int .i64 x4)), (96, .agg ((List.map E_palinode_api_Span x5.l).flatten)), (106, .sl 4 (some i63) (List.map E_palinode_palinoderef11_Task y62))], [⟨bx0, 85, ([.v (.bool o1.1)] ++ ((List.map E_palinode_api_Span o1.2.1.l).flatten ++ [.v (.int .i64 o1.2.2.1), .v (.int .i64 o1.2.2.2.1), .v (.int .i64 o1.2.2.2.2)]))⟩], [⟨i63, 88, 4, y62.length⟩]⟩) ?_ (fun key66 => ?_)
       ·rintro _ ⟨i63, rfl⟩
        refine xpstep (i := 15) (by kernel_rfl) rfl ?_
        obtain ⟨m64, hm64, h64⟩ := hc_palinoderef11_Ways _ _ _ _ _ _ _ h64
        refine wcallF (Fb := []) (Ft := [⟨i63, 88, 4, y62.length⟩]) ((ih m64 hm64).1 o1 x2 x3 x4 x5 y62 bx0 _ h64) Try.func31 (by kernel_rfl) rfl (.cons rfl (.refl _) (.cons rfl (.refl _) (.cons rfl (.refl _) (.cons rfl (.refl _) (.cons rfl (.refl _) (.cons rfl (.tok _ _ _) .nil)))))) (by exact sm_) rfl rfl ?_
        rintro _ _ _ ⟨rfl, rfl, rfl⟩
        simp only [List.nil_append, List.cons_append]
        refine xpdone (by kernel_rfl) ?_
        refine xin_normal ?_
        replace h := h.symm
        subst h
        exact xret0 hg rfl (SubM.of (.keep rfl rfl (.refl _) (.nil _)) (.nil _)) ⟨rfl, rfl, rfl⟩ (by simp)
       refine xpcut 3 #[true, true, true, true, true, true, true, true, true, true, true, true, true, false, false, false] (fun σ => σ = ⟨[(92, .v (.pointer (some ⟨bx0, 0, none⟩))), (93, .agg [.sl 10 none (List.map E_palinode_api_Node x2.1), .v (.int .i64 x2.2)]), (94, .sl 1 none (List.map eb x3)), (95, .v (.int .i64 x4)), (96, .agg ((List.map E_palinode_api_Span x5.l).flatten)), (97, .sl 4 none (List.map E_palinode_palinoderef11_Task x7)), (100, .agg [.v (.int .i64 0), .v (.int .i64 x6.2.1), .v (.int .i64 0), .v (.int .i64 0)]), (104, .agg [.v (.int .i64 1), .v (.int .i64 x6.2.2.2.2.2.1), .v (.int .i64 0), .v (.int .i64 x4)])], [⟨bx0, 85, ([.v (.bool o1.1)] ++ ((List.map E_palinode_api_Span o1.2.1.l).flatten ++ [.v (.int .i64 o1.2.2.1), .v (.int .i64 o1.2.2.2.1), .v (.int .i64 o1.2.2.2.2)]))⟩], []⟩) ?_ (fun key67 => ?_)
       ·rintro _ rfl
        refine xpstep (i := 13) (by kernel_rfl) rfl ?_
        refine wbuildSliceM (f := E_palinode_palinoderef11_Task) [(0, x6.2.1, 0, 0), (1, x6.2.2.2.2.2.1, 0, x4)] UndC.h InfC.h rfl rfl wr_ rfl rfl rfl rfl fun s105 => ?_
        refine xpstep (i := 14) (by kernel_rfl) rfl ?_
        refine wcallM (palinoderef11_row_con x7 ([(0, x6.2.1, 0, 0), (1, x6.2.2.2.2.2.1, 0, x4)]) _ h61) Try.func45 (by kernel_rfl) rfl (.cons rfl (.refl _) (.cons rfl (.tok _ _ _) .nil)) rfl rfl fun i63 => ?_
        exact xpuse key66 ⟨i63, rfl⟩ ⟨lk_, (SubM.of (.keep rfl rfl (.refl _) (.nil _)) (.keep rfl (.nil _)))⟩ rfl (by kernel_rfl)
       refine xpcut 4 #[true, true, true, true, false, true, true, true, true, true, true, true, true, false, false, false] (fun σ => σ = ⟨[(11, .v (.pointer (some ⟨b11, 0, none⟩))), (92, .v (.pointer (some ⟨bx0, 0, none⟩))), (93, .agg [.sl 10 none (List.map E_palinode_api_Node x2.1), .v (.int .i64 x2.2)]), (94, .sl 1 none (List.map eb x3)), (95, .v (.int .i64 x4)), (97, .sl 4 none (List.map E_palinode_palinoderef11_Task x7)), (100, .agg [.v (.int .i64 0), .v (.int .i64 x6.2.1), .v (.int .i64 0), .v (.int .i64 0)]), (104, .agg [.v (.int .i64 1), .v (.int .i64 x6.2.2.2.2.2.1), .v (.int .i64 0), .v (.int .i64 x4)])], [⟨b11, 29, ((List.map E_palinode_api_Span x5.l).flatten)⟩, ⟨bx0, 85, ([.v (.bool o1.1)] ++ ((List.map E_palinode_api_Span o1.2.1.l).flatten ++ [.v (.int .i64 o1.2.2.1), .v (.int .i64 o1.2.2.2.1), .v (.int .i64 o1.2.2.2.2)]))⟩], []⟩) ?_ (fun key68 => ?_)
       ·rintro _ rfl
        refine xfl0 [⟨4, 96, .agg ((List.map E_palinode_api_Span x5.l).flatten)⟩] 3 ?_
        refine xflstep 13 (by kernel_rfl) rfl (.cons rfl rfl rfl (fun _ => rfl) (fun _ => qv_loadP 0 [] ((List.map E_palinode_api_Span x5.l).flatten) [] sq_ sl_ sl_ (part_all (seg_lenE (by rfl))) ShpC.h rfl rfl) .nil) fun D l td hR => ?_
        refine wbuildSliceM (f := E_palinode_palinoderef11_Task) [(0, x6.2.1, 0, 0), (1, x6.2.2.2.2.2.1, 0, x4)] UndC.h InfC.h rfl rfl wr_ rfl rfl rfl rfl fun s105 => ?_
        refine xflgo1 hR ?_
        refine xflstep 14 (by kernel_rfl) rfl (.cons rfl rfl rfl (fun _ => rfl) (fun _ => qv_loadP 0 [] ((List.map E_palinode_api_Span x5.l).flatten) [] sq_ sl_ sl_ (part_all (seg_lenE (by rfl))) ShpC.h rfl rfl) .nil) fun D l td hR => ?_
        refine wcallM (palinoderef11_row_con x7 ([(0, x6.2.1, 0, 0), (1, x6.2.2.2.2.2.1, 0, x4)]) _ h61) Try.func45 (by kernel_rfl) rfl (.cons rfl (.refl _) (.cons rfl (.tok _ _ _) .nil)) rfl rfl fun i63 => ?_
        refine xflgo1 hR ?_
        refine xflend (l' := #[true, true, true, true, true, true, true, true, true, true, true, true, true, true, true, false]) (by kernel_rfl) (.cons rfl rfl rfl (fun _ => rfl) (fun _ => qv_loadP 0 [] ((List.map E_palinode_api_Span x5.l).flatten) [] sq_ sl_ sl_ (part_all (seg_lenE (by rfl))) ShpC.h rfl rfl) .nil) (by kernel_rfl) rfl (by kernel_rfl) (by kernel_rfl) ?_
        simp only [List.nil_append, List.cons_append, List.map_cons, List.map_nil]
        exact xpuse key66 ⟨i63, rfl⟩ ⟨lk_, (SubM.of (.drop (.keep rfl rfl (.refl _) (.nil _))) (.keep rfl (.nil _)))⟩ rfl (by kernel_rfl)
       refine xpcut 4 #[true, false, true, true, true, true, true, true, true, true, true, true, true, false, false, false] (fun σ => σ = ⟨[(8, .v (.pointer (some ⟨b8, 0, none⟩))), (92, .v (.pointer (some ⟨bx0, 0, none⟩))), (94, .sl 1 none (List.map eb x3)), (95, .v (.int .i64 x4)), (96, .agg ((List.map E_palinode_api_Span x5.l).flatten)), (97, .sl 4 none (List.map E_palinode_palinoderef11_Task x7)), (100, .agg [.v (.int .i64 0), .v (.int .i64 x6.2.1), .v (.int .i64 0), .v (.int .i64 0)]), (104, .agg [.v (.int .i64 1), .v (.int .i64 x6.2.2.2.2.2.1), .v (.int .i64 0), .v (.int .i64 x4)])], [⟨b8, 24, [.sl 10 none (List.map E_palinode_api_Node x2.1), .v (.int .i64 x2.2)]⟩, ⟨bx0, 85, ([.v (.bool o1.1)] ++ ((List.map E_palinode_api_Span o1.2.1.l).flatten ++ [.v (.int .i64 o1.2.2.1), .v (.int .i64 o1.2.2.2.1), .v (.int .i64 o1.2.2.2.2)]))⟩], []⟩) ?_ (fun key69 => ?_)
       ·rintro _ rfl
        refine xfl0 [⟨1, 93, .agg [.sl 10 none (List.map E_palinode_api_Node x2.1), .v (.int .i64 x2.2)]⟩] 3 ?_
        refine xflstep 13 (by kernel_rfl) rfl (.cons rfl rfl rfl (fun _ => rfl) (fun _ => qv_loadB 0 ShpC.h rfl rfl rfl rfl) .nil) fun D l td hR => ?_
        refine wbuildSliceM (f := E_palinode_palinoderef11_Task) [(0, x6.2.1, 0, 0), (1, x6.2.2.2.2.2.1, 0, x4)] UndC.h InfC.h rfl rfl wr_ rfl rfl rfl rfl fun s105 => ?_
        refine xflgo1 hR ?_
        refine xflstep 14 (by kernel_rfl) rfl (.cons rfl rfl rfl (fun _ => rfl) (fun _ => qv_loadB 0 ShpC.h rfl rfl rfl rfl) .nil) fun D l td hR => ?_
        refine wcallM (palinoderef11_row_con x7 ([(0, x6.2.1, 0, 0), (1, x6.2.2.2.2.2.1, 0, x4)]) _ h61) Try.func45 (by kernel_rfl) rfl (.cons rfl (.refl _) (.cons rfl (.tok _ _ _) .nil)) rfl rfl fun i63 => ?_
        refine xflgo1 hR ?_
        refine xflend (l' := #[true, true, true, true, true, true, true, true, true, true, true, true, true, true, true, false]) (by kernel_rfl) (.cons rfl rfl rfl (fun _ => rfl) (fun _ => qv_loadB 0 ShpC.h rfl rfl rfl rfl) .nil) (by kernel_rfl) rfl (by kernel_rfl) (by kernel_rfl) ?_
        simp only [List.nil_append, List.cons_append, List.map_cons, List.map_nil]
        exact xpuse key66 ⟨i63, rfl⟩ ⟨lk_, (SubM.of (.drop (.keep rfl rfl (.refl _) (.nil _))) (.keep rfl (.nil _)))⟩ rfl (by kernel_rfl)
       refine xpcut 5 #[true, false, true, true, false, true, true, true, true, true, true, true, true, false, false, false] (fun σ => σ = ⟨[(8, .v (.pointer (some ⟨b8, 0, none⟩))), (11, .v (.pointer (some ⟨b11, 0, none⟩))), (92, .v (.pointer (some ⟨bx0, 0, none⟩))), (94, .sl 1 none (List.map eb x3)), (95, .v (.int .i64 x4)), (97, .sl 4 none (List.map E_palinode_palinoderef11_Task x7)), (100, .agg [.v (.int .i64 0), .v (.int .i64 x6.2.1), .v (.int .i64 0), .v (.int .i64 0)]), (104, .agg [.v (.int .i64 1), .v (.int .i64 x6.2.2.2.2.2.1), .v (.int .i64 0), .v (.int .i64 x4)])], [⟨b11, 29, ((List.map E_palinode_api_Span x5.l).flatten)⟩, ⟨b8, 24, [.sl 10 none (List.map E_palinode_api_Node x2.1), .v (.int .i64 x2.2)]⟩, ⟨bx0, 85, ([.v (.bool o1.1)] ++ ((List.map E_palinode_api_Span o1.2.1.l).flatten ++ [.v (.int .i64 o1.2.2.1), .v (.int .i64 o1.2.2.2.1), .v (.int .i64 o1.2.2.2.2)]))⟩], []⟩) ?_ (fun key70 => ?_)
       ·rintro _ rfl
        refine xfl0 [⟨1, 93, .agg [.sl 10 none (List.map E_palinode_api_Node x2.1), .v (.int .i64 x2.2)]⟩, ⟨4, 96, .agg ((List.map E_palinode_api_Span x5.l).flatten)⟩] 3 ?_
        refine xflstep 13 (by kernel_rfl) rfl (.cons rfl rfl rfl (fun _ => rfl) (fun _ => qv_loadB 1 ShpC.h rfl rfl rfl rfl) (.cons rfl rfl rfl (fun _ => rfl) (fun _ => qv_loadP 0 [] ((List.map E_palinode_api_Span x5.l).flatten) [] sq_ sl_ sl_ (part_all (seg_lenE (by rfl))) ShpC.h rfl rfl) .nil)) fun D l td hR => ?_
        refine wbuildSliceM (f := E_palinode_palinoderef11_Task) [(0, x6.2.1, 0, 0), (1, x6.2.2.2.2.2.1, 0, x4)] UndC.h InfC.h rfl rfl wr_ rfl rfl rfl rfl fun s105 => ?_
        refine xflgo1 hR ?_
        refine xflstep 14 (by kernel_rfl) rfl (.cons rfl rfl rfl (fun _ => rfl) (fun _ => qv_loadB 1 ShpC.h rfl rfl rfl rfl) (.cons rfl rfl rfl (fun _ => rfl) (fun _ => qv_loadP 0 [] ((List.map E_palinode_api_Span x5.l).flatten) [] sq_ sl_ sl_ (part_all (seg_lenE (by rfl))) ShpC.h rfl rfl) .nil)) fun D l td hR => ?_
        refine wcallM (palinoderef11_row_con x7 ([(0, x6.2.1, 0, 0), (1, x6.2.2.2.2.2.1, 0, x4)]) _ h61) Try.func45 (by kernel_rfl) rfl (.cons rfl (.refl _) (.cons rfl (.tok _ _ _) .nil)) rfl rfl fun i63 => ?_
        refine xflgo1 hR ?_
        refine xflend (l' := #[true, true, true, true, true, true, true, true, true, true, true, true, true, true, true, false]) (by kernel_rfl) (.cons rfl rfl rfl (fun _ => rfl) (fun _ => qv_loadB 1 ShpC.h rfl rfl rfl rfl) (.cons rfl rfl rfl (fun _ => rfl) (fun _ => qv_loadP 0 [] ((List.map E_palinode_api_Span x5.l).flatten) [] sq_ sl_ sl_ (part_all (seg_lenE (by rfl))) ShpC.h rfl rfl) .nil)) (by kernel_rfl) rfl (by kernel_rfl) (by kernel_rfl) ?_
        simp only [List.nil_append, List.cons_append, List.map_cons, List.map_nil]
        exact xpuse key66 ⟨i63, rfl⟩ ⟨lk_, (SubM.of (.drop (.drop (.keep rfl rfl (.refl _) (.nil _)))) (.keep rfl (.nil _)))⟩ rfl (by kernel_rfl)
       refine xpcut 7 #[true, true, true, true, true, true, true, false, false, true, false, true, false, false, false, false] (fun σ => σ = ⟨[(92, .v (.pointer (some ⟨bx0, 0, none⟩))), (93, .agg [.sl 10 none (List.map E_palinode_api_Node x2.1), .v (.int .i64 x2.2)]), (94, .sl 1 none (List.map eb x3)), (95, .v (.int .i64 x4)), (96, .agg ((List.map E_palinode_api_Span x5.l).flatten)), (97, .sl 4 none (List.map E_palinode_palinoderef11_Task x7)), (98, .v (.pointer (some ⟨b12, 1, none⟩))), (101, .v (.pointer (some ⟨b12, 5, none⟩))), (103, .v (.int .i64 x4))], [⟨b12, 54, ([.v (.int .i64 x6.1), .v (.int .i64 x6.2.1), .v (.int .i64 x6.2.2.1), .v (.int .i64 x6.2.2.2.1), .v (.int .i64 x6.2.2.2.2.1), .v (.int .i64 x6.2.2.2.2.2.1)] ++ (List.map ew x6.2.2.2.2.2.2.l).flatten)⟩, ⟨bx0, 85, ([.v (.bool o1.1)] ++ ((List.map E_palinode_api_Span o1.2.1.l).flatten ++ [.v (.int .i64 o1.2.2.1), .v (.int .i64 o1.2.2.2.1), .v (.int .i64 o1.2.2.2.2)]))⟩], []⟩) ?_ (fun key71 => ?_)
       ·rintro _ rfl
        refine xpstepN (is := [7, 10]) (by kernel_rfl) (by simp) ?_
        intro i hi; simp only [List.mem_cons, List.not_mem_nil, or_false] at hi; rcases hi with rfl | rfl
        ·refine ⟨_, rfl, ?_⟩
         refine wv_ (qv_loadB 0 ShpC.h rfl rfl rfl rfl) ?_
         refine pl_ 8 rfl (pv_buildC StrC.h rfl rfl) ?_
         refine xpvalE 10 [] rfl (qv_loadB 0 ShpC.h rfl rfl rfl rfl) rfl rfl (by kernel_rfl) (by kernel_rfl) (by kernel_rfl) (fun _ _ _ _ h => h) ?_
         refine pl_ 12 rfl (pv_buildC StrC.h rfl rfl) ?_
         exact xpuse key67 rfl ⟨lk_, (SubM.of (.drop (.keep rfl rfl (.refl _) (.nil _))) (.nil _))⟩ rfl (by kernel_rfl)
        ·refine ⟨_, rfl, ?_⟩
         refine wv_ (qv_loadB 0 ShpC.h rfl rfl rfl rfl) ?_
         refine pl_ 12 rfl (pv_buildC StrC.h rfl rfl) ?_
         refine xpvalE 7 [] rfl (qv_loadB 0 ShpC.h rfl rfl rfl rfl) rfl rfl (by kernel_rfl) (by kernel_rfl) (by kernel_rfl) (fun _ _ _ _ h => h) ?_
         refine pl_ 8 rfl (pv_buildC StrC.h rfl rfl) ?_
         exact xpuse key67 rfl ⟨lk_, (SubM.of (.drop (.keep rfl rfl (.refl _) (.nil _))) (.nil _))⟩ rfl (by kernel_rfl)
       refine pl_ 0 rfl (pv_move rfl) ?_
       refine pl_ 2 rfl (pv_move rfl) ?_
       refine pl_ 3 rfl (pv_move rfl) ?_
       refine pl_ 5 rfl (pv_move rfl) ?_
       refine pl_ 6 rfl (qv_fieldAddrB FldC.h rfl) ?_
       refine pl_ 9 rfl (qv_fieldAddrB FldC.h rfl) ?_
       refine pl_ 11 rfl (pv_move rfl) ?_
       refine xpstepN (is := [1, 4, 7, 10]) (by kernel_rfl) (by simp) ?_
       intro i hi; simp only [List.mem_cons, List.not_mem_nil, or_false] at hi; rcases hi with rfl | rfl | rfl | rfl
       ·refine ⟨_, rfl, ?_⟩
        refine wv_ (qv_loadB 2 ShpC.h rfl rfl rfl rfl) ?_
        refine xpstepN (is := [4, 7, 10]) (by kernel_rfl) (by simp) ?_
        intro i hi; simp only [List.mem_cons, List.not_mem_nil, or_false] at hi; rcases hi with rfl | rfl | rfl
        ·refine ⟨_, rfl, ?_⟩
         refine wv_ (qv_loadP 1 [] ((List.map E_palinode_api_Span x5.l).flatten) [] sq_ sl_ sl_ (part_all (seg_lenE (by rfl))) ShpC.h rfl rfl) ?_
         exact xpuse key71 rfl ⟨lk_, (SubM.of (.keep rfl rfl (.refl _) (.drop (.drop (.keep rfl rfl (.refl _) (.nil _))))) (.nil _))⟩ rfl (by kernel_rfl)
        ·refine ⟨_, rfl, ?_⟩
         refine wv_ (qv_loadB 0 ShpC.h rfl rfl rfl rfl) ?_
         refine pl_ 8 rfl (pv_buildC StrC.h rfl rfl) ?_
         refine xpvalE 10 [4] rfl (qv_loadB 0 ShpC.h rfl rfl rfl rfl) rfl rfl (by kernel_rfl) (by kernel_rfl) (by kernel_rfl) (fun _ _ _ _ h => h) ?_
         refine pl_ 12 rfl (pv_buildC StrC.h rfl rfl) ?_
         exact xpuse key68 rfl ⟨lk_, (SubM.of (.drop (.keep rfl rfl (.refl _) (.drop (.keep rfl rfl (.refl _) (.nil _))))) (.nil _))⟩ rfl (by kernel_rfl)
        ·refine ⟨_, rfl, ?_⟩
         refine wv_ (qv_loadB 0 ShpC.h rfl rfl rfl rfl) ?_
         refine pl_ 12 rfl (pv_buildC StrC.h rfl rfl) ?_
         refine xpvalE 7 [4] rfl (qv_loadB 0 ShpC.h rfl rfl rfl rfl) rfl rfl (by kernel_rfl) (by kernel_rfl) (by kernel_rfl) (fun _ _ _ _ h => h) ?_
         refine pl_ 8 rfl (pv_buildC StrC.h rfl rfl) ?_
         exact xpuse key68 rfl ⟨lk_, (SubM.of (.drop (.keep rfl rfl (.refl _) (.drop (.keep rfl rfl (.refl _) (.nil _))))) (.nil _))⟩ rfl (by kernel_rfl)
       ·refine ⟨_, rfl, ?_⟩
        refine wv_ (qv_loadP 1 [] ((List.map E_palinode_api_Span x5.l).flatten) [] sq_ sl_ sl_ (part_all (seg_lenE (by rfl))) ShpC.h rfl rfl) ?_
        refine xpstepN (is := [1, 7, 10]) (by kernel_rfl) (by simp) ?_
        intro i hi; simp only [List.mem_cons, List.not_mem_nil, or_false] at hi; rcases hi with rfl | rfl | rfl
        ·refine ⟨_, rfl, ?_⟩
         refine wv_ (qv_loadB 2 ShpC.h rfl rfl rfl rfl) ?_
         exact xpuse key71 rfl ⟨lk_, (SubM.of (.keep rfl rfl (.refl _) (.drop (.drop (.keep rfl rfl (.refl _) (.nil _))))) (.nil _))⟩ rfl (by kernel_rfl)
        ·refine ⟨_, rfl, ?_⟩
         refine wv_ (qv_loadB 0 ShpC.h rfl rfl rfl rfl) ?_
         refine pl_ 8 rfl (pv_buildC StrC.h rfl rfl) ?_
         refine xpvalE 10 [1] rfl (qv_loadB 0 ShpC.h rfl rfl rfl rfl) rfl rfl (by kernel_rfl) (by kernel_rfl) (by kernel_rfl) (fun _ _ _ _ h => h) ?_
         refine pl_ 12 rfl (pv_buildC StrC.h rfl rfl) ?_
         exact xpuse key69 rfl ⟨lk_, (SubM.of (.drop (.drop (.keep rfl rfl (.refl _) (.keep rfl rfl (.refl _) (.nil _))))) (.nil _))⟩ rfl (by kernel_rfl)
        ·refine ⟨_, rfl, ?_⟩
         refine wv_ (qv_loadB 0 ShpC.h rfl rfl rfl rfl) ?_
         refine pl_ 12 rfl (pv_buildC StrC.h rfl rfl) ?_
         refine xpvalE 7 [1] rfl (qv_loadB 0 ShpC.h rfl rfl rfl rfl) rfl rfl (by kernel_rfl) (by kernel_rfl) (by kernel_rfl) (fun _ _ _ _ h => h) ?_
         refine pl_ 8 rfl (pv_buildC StrC.h rfl rfl) ?_
         exact xpuse key69 rfl ⟨lk_, (SubM.of (.drop (.drop (.keep rfl rfl (.refl _) (.keep rfl rfl (.refl _) (.nil _))))) (.nil _))⟩ rfl (by kernel_rfl)
       ·refine ⟨_, rfl, ?_⟩
        refine wv_ (qv_loadB 0 ShpC.h rfl rfl rfl rfl) ?_
        refine pl_ 8 rfl (pv_buildC StrC.h rfl rfl) ?_
        refine xpvalE 10 [1, 4] rfl (qv_loadB 0 ShpC.h rfl rfl rfl rfl) rfl rfl (by kernel_rfl) (by kernel_rfl) (by kernel_rfl) (fun _ _ _ _ h => h) ?_
        refine pl_ 12 rfl (pv_buildC StrC.h rfl rfl) ?_
        exact xpuse key70 rfl ⟨lk_, (SubM.of (.drop (.keep rfl rfl (.refl _) (.keep rfl rfl (.refl _) (.keep rfl rfl (.refl _) (.nil _))))) (.nil _))⟩ rfl (by kernel_rfl)
       ·refine ⟨_, rfl, ?_⟩
        refine wv_ (qv_loadB 0 ShpC.h rfl rfl rfl rfl) ?_
        refine pl_ 12 rfl (pv_buildC StrC.h rfl rfl) ?_
        refine xpvalE 7 [1, 4] rfl (qv_loadB 0 ShpC.h rfl rfl rfl rfl) rfl rfl (by kernel_rfl) (by kernel_rfl) (by kernel_rfl) (fun _ _ _ _ h => h) ?_
        refine pl_ 8 rfl (pv_buildC StrC.h rfl rfl) ?_
        exact xpuse key70 rfl ⟨lk_, (SubM.of (.drop (.keep rfl rfl (.refl _) (.keep rfl rfl (.refl _) (.keep rfl rfl (.refl _) (.nil _))))) (.nil _))⟩ rfl (by kernel_rfl)
      ·replace h := h.2 hp60
       refine xcondF' (decide_eq_false hp60) rfl ?_
       refine sr_ ?_
       refine vp_ (pv_bin2 rfl rfl rfl) ?_
       refine as_ ?_
       refine nt_ ?_
       by_cases hp73 : x6.1 = 6
       ·replace h := h.1 hp73
        refine xcondT' (decide_eq_true hp73) rfl ?_
        refine sr_ ?_
        refine mv_ ?_
        refine vp_ (qv_fieldAddrB FldC.h rfl) ?_
        refine v_ (qv_loadB 0 ShpC.h rfl rfl rfl rfl) ?_
        obtain ⟨h74, h⟩ := h
        obtain ⟨y75, h74b, h⟩ := h
        refine vp_ (pv_indexAddrBA h74 UndC.h ShpC.h rfl rfl) ?_
        refine v_ (qv_loadA (f := E_palinode_api_Span) (a := x5) (k := 2) (off := 0) (i := (x6.2.2.2.2.2.1 : Int).toNat) 1 [] [] h74b sq_ so_ (by decide) (by first | rfl | exact part_all sl_) ShpC.h rfl rfl) ?_
        refine mv_ ?_
        obtain ⟨y77, h76, h⟩ := h
        refine xcall0 (palinoderef11_Same_con x3 y75 x4 _ h76) Try.func37 (by kernel_rfl) rfl (.cons rfl (.refl _) (.cons rfl (.refl _) (.cons rfl (.refl _) .nil))) rfl rfl ?_
        refine as_ ?_
        refine nt_ ?_
        refine sr_ ?_
        refine mv_ ?_
        refine vp_ (pv_bin2 rfl rfl rfl) ?_
        refine nt_ ?_
        by_cases hp79 : 0 ≤ y77
        ·replace h := h.1 hp79
         refine xcondT' (decide_eq_true hp79) rfl ?_
         refine xregion ?_
         refine mv_ ?_
         refine v_ (qv_loadB 2 ShpC.h rfl rfl rfl rfl) ?_
         refine mv_ ?_
         refine mv_ ?_
         refine v_ (qv_loadP 1 [] ((List.map E_palinode_api_Span x5.l).flatten) [] sq_ sl_ sl_ (part_all (seg_lenE (by rfl))) ShpC.h rfl rfl) ?_
         refine mv_ ?_
         obtain ⟨y81, h80, h⟩ := h
         obtain ⟨m80, hm80, h80⟩ := hc_palinoderef11_Ways _ _ _ _ _ _ _ h80
         refine xcallF (Fb := [⟨b12, 54, ([.v (.int .i64 x6.1), .v (.int .i64 x6.2.1), .v (.int .i64 x6.2.2.1), .v (.int .i64 x6.2.2.2.1), .v (.int .i64 x6.2.2.2.2.1), .v (.int .i64 x6.2.2.2.2.2.1)] ++ (List.map ew x6.2.2.2.2.2.2.l).flatten)⟩, ⟨b11, 29, ((List.map E_palinode_api_Span x5.l).flatten)⟩, ⟨b8, 24, [.sl 10 none (List.map E_palinode_api_Node x2.1), .v (.int .i64 x2.2)]⟩]) (Ft := []) ((ih m80 hm80).1 o1 x2 x3 y77 x5 x7 bx0 _ h80) Try.func31 (by kernel_rfl) rfl (.cons rfl (.refl _) (.cons rfl (.refl _) (.cons rfl (.refl _) (.cons rfl (.refl _) (.cons rfl (.refl _) (.cons rfl (.refl _) .nil)))))) (by refine SubM.trans (SubM.mvB 3 rfl) ?_; (simp only [List.eraseIdx]); exact sm_) rfl rfl ?_
         rintro _ _ _ ⟨rfl, rfl, rfl⟩
         simp only [List.nil_append, List.cons_append]
         refine xnil ?_
         refine xin_normal ?_
         replace h := h.symm
         subst h
         exact xret0 hg rfl (SubM.of (.keep rfl rfl (.refl _) (.nil _)) (.nil _)) ⟨rfl, rfl, rfl⟩ (by simp)
        ·replace h := h.2 hp79
         refine xcondF' (decide_eq_false hp79) rfl ?_
         refine xskipc ?_
         refine xin_normal ?_
         replace h := h.symm
         subst h
         exact xret0 hg rfl (SubM.of (.drop (.drop (.drop (.keep rfl rfl (.refl _) (.nil _))))) (.nil _)) ⟨rfl, rfl, rfl⟩ (by simp)
       ·replace h := h.2 hp73
        refine xcondF' (decide_eq_false hp73) rfl ?_
        refine sr_ ?_
        refine vp_ (pv_bin2 rfl rfl rfl) ?_
        refine as_ ?_
        refine nt_ ?_
        by_cases hp83 : x6.1 = 7
        ·replace h := h.1 hp83
         refine xcondT' (decide_eq_true hp83) rfl ?_
         refine sr_ ?_
         refine mv_ ?_
         refine vp_ (pv_bin2 rfl rfl rfl) ?_
         refine nt_ ?_
         by_cases hp85 : x4 = 0
         ·replace h := h.1 hp85
          refine xcondT' (decide_eq_true hp85) rfl ?_
          refine xregion ?_
          refine mv_ ?_
          refine v_ (qv_loadB 2 ShpC.h rfl rfl rfl rfl) ?_
          refine mv_ ?_
          refine mv_ ?_
          refine v_ (qv_loadP 1 [] ((List.map E_palinode_api_Span x5.l).flatten) [] sq_ sl_ sl_ (part_all (seg_lenE (by rfl))) ShpC.h rfl rfl) ?_
          refine mv_ ?_
          obtain ⟨y87, h86, h⟩ := h
          obtain ⟨m86, hm86, h86⟩ := hc_palinoderef11_Ways _ _ _ _ _ _ _ h86
          refine xcallF (Fb := [⟨b12, 54, ([.v (.int .i64 x6.1), .v (.int .i64 x6.2.1), .v (.int .i64 x6.2.2.1), .v (.int .i64 x6.2.2.2.1), .v (.int .i64 x6.2.2.2.2.1), .v (.int .i64 x6.2.2.2.2.2.1)] ++ (List.map ew x6.2.2.2.2.2.2.l).flatten)⟩, ⟨b11, 29, ((List.map E_palinode_api_Span x5.l).flatten)⟩, ⟨b8, 24, [.sl 10 none (List.map E_palinode_api_Node x2.1), .v (.int .i64 x2.2)]⟩]) (Ft := []) ((ih m86 hm86).1 o1 x2 x3 x4 x5 x7 bx0 _ h86) Try.func31 (by kernel_rfl) rfl (.cons rfl (.refl _) (.cons rfl (.refl _) (.cons rfl (.refl _) (.cons rfl (.refl _) (.cons rfl (.refl _) (.cons rfl (.refl _) .nil)))))) (by refine SubM.trans (SubM.mvB 3 rfl) ?_; (simp only [List.eraseIdx]); exact sm_) rfl rfl ?_
          rintro _ _ _ ⟨rfl, rfl, rfl⟩
          simp only [List.nil_append, List.cons_append]
          refine xnil ?_
          refine xin_normal ?_
          replace h := h.symm
          subst h
          exact xret0 hg rfl (SubM.of (.keep rfl rfl (.refl _) (.nil _)) (.nil _)) ⟨rfl, rfl, rfl⟩ (by simp)
         ·replace h := h.2 hp85
          refine xcondF' (decide_eq_false hp85) rfl ?_
          refine xskipc ?_
          refine xin_normal ?_
          replace h := h.symm
          subst h
          exact xret0 hg rfl (SubM.of (.drop (.drop (.drop (.keep rfl rfl (.refl _) (.nil _))))) (.nil _)) ⟨rfl, rfl, rfl⟩ (by simp)
        ·replace h := h.2 hp83
         refine xcondF' (decide_eq_false hp83) rfl ?_
         refine sr_ ?_
         refine vp_ (pv_bin2 rfl rfl rfl) ?_
         refine as_ ?_
         refine nt_ ?_
         by_cases hp89 : x6.1 = 8
         ·replace h := h.1 hp89
          refine xcondT' (decide_eq_true hp89) rfl ?_
          refine sr_ ?_
          refine mv_ ?_
          refine mv_ ?_
          refine vp_ (pv_lenM UndC.h rfl) ?_
          refine vp_ (pv_bin2 rfl rfl rfl) ?_
          refine nt_ ?_
          by_cases hp92 : x4 = (x3.length : Int)
          ·replace h := h.1 hp92
           refine xcondT' (decide_eq_true hp92) rfl ?_
           refine xregion ?_
           refine mv_ ?_
           refine v_ (qv_loadB 2 ShpC.h rfl rfl rfl rfl) ?_
           refine mv_ ?_
           refine mv_ ?_
           refine v_ (qv_loadP 1 [] ((List.map E_palinode_api_Span x5.l).flatten) [] sq_ sl_ sl_ (part_all (seg_lenE (by rfl))) ShpC.h rfl rfl) ?_
           refine mv_ ?_
           obtain ⟨y94, h93, h⟩ := h
           obtain ⟨m93, hm93, h93⟩ := hc_palinoderef11_Ways _ _ _ _ _ _ _ h93
           refine xcallF (Fb := [⟨b12, 54, ([.v (.int .i64 x6.1), .v (.int .i64 x6.2.1), .v (.int .i64 x6.2.2.1), .v (.int .i64 x6.2.2.2.1), .v (.int .i64 x6.2.2.2.2.1), .v (.int .i64 x6.2.2.2.2.2.1)] ++ (List.map ew x6.2.2.2.2.2.2.l).flatten)⟩, ⟨b11, 29, ((List.map E_palinode_api_Span x5.l).flatten)⟩, ⟨b8, 24, [.sl 10 none (List.map E_palinode_api_Node x2.1), .v (.int .i64 x2.2)]⟩]) (Ft := []) ((ih m93 hm93).1 o1 x2 x3 x4 x5 x7 bx0 _ h93) Try.func31 (by kernel_rfl) rfl (.cons rfl (.refl _) (.cons rfl (.refl _) (.cons rfl (.refl _) (.cons rfl (.refl _) (.cons rfl (.refl _) (.cons rfl (.refl _) .nil)))))) (by refine SubM.trans (SubM.mvB 3 rfl) ?_; (simp only [List.eraseIdx]); exact sm_) rfl rfl ?_
           rintro _ _ _ ⟨rfl, rfl, rfl⟩
           simp only [List.nil_append, List.cons_append]
           refine xnil ?_
           refine xin_normal ?_
           replace h := h.symm
           subst h
           exact xret0 hg rfl (SubM.of (.keep rfl rfl (.refl _) (.nil _)) (.nil _)) ⟨rfl, rfl, rfl⟩ (by simp)
          ·replace h := h.2 hp92
           refine xcondF' (decide_eq_false hp92) rfl ?_
           refine xskipc ?_
           refine xin_normal ?_
           replace h := h.symm
           subst h
           exact xret0 hg rfl (SubM.of (.drop (.drop (.drop (.keep rfl rfl (.refl _) (.nil _))))) (.nil _)) ⟨rfl, rfl, rfl⟩ (by simp)
         ·replace h := h.2 hp89
          refine xcondF' (decide_eq_false hp89) rfl ?_
          refine xregion ?_
          refine mv_ ?_
          refine v_ (qv_loadB 2 ShpC.h rfl rfl rfl rfl) ?_
          refine mv_ ?_
          refine mv_ ?_
          refine v_ (qv_loadP 1 [] ((List.map E_palinode_api_Span x5.l).flatten) [] sq_ sl_ sl_ (part_all (seg_lenE (by rfl))) ShpC.h rfl rfl) ?_
          refine mv_ ?_
          obtain ⟨y96, h95, h⟩ := h
          obtain ⟨m95, hm95, h95⟩ := hc_palinoderef11_Ways _ _ _ _ _ _ _ h95
          refine xcallF (Fb := [⟨b12, 54, ([.v (.int .i64 x6.1), .v (.int .i64 x6.2.1), .v (.int .i64 x6.2.2.1), .v (.int .i64 x6.2.2.2.1), .v (.int .i64 x6.2.2.2.2.1), .v (.int .i64 x6.2.2.2.2.2.1)] ++ (List.map ew x6.2.2.2.2.2.2.l).flatten)⟩, ⟨b11, 29, ((List.map E_palinode_api_Span x5.l).flatten)⟩, ⟨b8, 24, [.sl 10 none (List.map E_palinode_api_Node x2.1), .v (.int .i64 x2.2)]⟩]) (Ft := []) ((ih m95 hm95).1 o1 x2 x3 x4 x5 x7 bx0 _ h95) Try.func31 (by kernel_rfl) rfl (.cons rfl (.refl _) (.cons rfl (.refl _) (.cons rfl (.refl _) (.cons rfl (.refl _) (.cons rfl (.refl _) (.cons rfl (.refl _) .nil)))))) (by refine SubM.trans (SubM.mvB 3 rfl) ?_; (simp only [List.eraseIdx]); exact sm_) rfl rfl ?_
          rintro _ _ _ ⟨rfl, rfl, rfl⟩
          simp only [List.nil_append, List.cons_append]
          refine xnil ?_
          refine xin_normal ?_
          replace h := h.symm
          subst h
          exact xret0 hg rfl (SubM.of (.keep rfl rfl (.refl _) (.nil _)) (.nil _)) ⟨rfl, rfl, rfl⟩ (by simp)
theorem palinoderef11_Ways_con (o1 : Bool × ((Arr 10 (Int × Int))) × Int × Int × Int) (x2 : (List (Int × Int × Int × Int × Int × Int × (Arr 4 (UInt64)))) × Int) (x3 : List UInt8) (x4 : Int) (x5 : Arr 10 (Int × Int)) (x6 : List (Int × Int × Int × Int)) (bx0 : Nat) (r : (Bool × ((Arr 10 (Int × Int))) × Int × Int × Int)) (h : palinoderef11_Ways_R o1 x2 x3 x4 x5 x6 r) : Con Try.prog 31 [.v (.pointer (some ⟨bx0, 0, none⟩)), .agg [.sl 10 none (List.map E_palinode_api_Node x2.1), .v (.int .i64 x2.2)], .sl 1 none (List.map eb x3), .v (.int .i64 x4), .agg ((List.map E_palinode_api_Span x5.l).flatten), .sl 4 none (List.map E_palinode_palinoderef11_Task x6)] [⟨bx0, 85, ([.v (.bool o1.1)] ++ ((List.map E_palinode_api_Span o1.2.1.l).flatten ++ [.v (.int .i64 o1.2.2.1), .v (.int .i64 o1.2.2.2.1), .v (.int .i64 o1.2.2.2.2)]))⟩] [] (fun rr bx tk => rr = .tup [] ∧ bx = [⟨bx0, 85, ([.v (.bool r.1)] ++ ((List.map E_palinode_api_Span r.2.1.l).flatten ++ [.v (.int .i64 r.2.2.1), .v (.int .i64 r.2.2.2.1), .v (.int .i64 r.2.2.2.2)]))⟩] ∧ tk = []) := by
 obtain ⟨S1, S2, H, m, h⟩ := h
 exact (rec_palinoderef11_Ways_con H m).1 o1 x2 x3 x4 x5 x6 bx0 r h
end Go.Proofs.Ytncnfohhjbadgaa
