
/- What functions' texts ask for, and the walks that show it (printed by a program). -/
import Derived.Test.YtpddiffpanihdaaGKp6
namespace Go.Proofs.Ytpddiffpanihdaa
/-- (*bre.parser).branch -/
def bre_parser_branch_j2 (x3 : Bool) (x144 : List Int) (f146 : List (Int × Int × Int × Int × Int × Int × (Arr 4 (UInt64)))) (f148 : Int) (f149 : List UInt8) (f150 : Int) (f151 : Arr 10 (Bool)) (r : Int × (List (Int × Int)) × (((List (Int × Int × Int × Int × Int × Int × (Arr 4 (UInt64)))) × Int) × (List UInt8) × Int × (Arr 10 (Bool)))) : Prop :=
 (((x3 == (decide (f150 = (f149.length : Int)))) = true → ∃ y271 : (List (Int × Int)), bre_parser_fail_R ((f146, f148), f149, f150, f151) 14 y271 ∧ r = (0, y271, ((f146, f148), f149, f150, f151))) ∧ (¬ ((x3 == (decide (f150 = (f149.length : Int)))) = true) → ∃ y273 : Int × (((List (Int × Int × Int × Int × Int × Int × (Arr 4 (UInt64)))) × Int) × (List UInt8) × Int × (Arr 10 (Bool))), tree_Builder_Cat_R ((f146, f148), f149, f150, f151) x144 y273 ∧ ((y273.1 < 0 → ∃ y282 : (List (Int × Int)), bre_parser_fail_R ((y273.2.1.1, y273.2.1.2), y273.2.2.1, y273.2.2.2.1, y273.2.2.2.2) 8 y282 ∧ r = (0, y282, ((y273.2.1.1, y273.2.1.2), y273.2.2.1, y273.2.2.2.1, y273.2.2.2.2))) ∧ (¬ (y273.1 < 0) → r = (y273.1, ([] : List (Int × Int)), ((y273.2.1.1, y273.2.1.2), y273.2.2.1, y273.2.2.2.1, y273.2.2.2.2))))))
def bre_parser_branch_l3 (c_bre_parser_piece : (((List (Int × Int × Int × Int × Int × Int × (Arr 4 (UInt64)))) × Int) × (List UInt8) × Int × (Arr 10 (Bool))) → (Bool) → (Int × (List (Int × Int)) × (((List (Int × Int × Int × Int × Int × Int × (Arr 4 (UInt64)))) × Int) × (List UInt8) × Int × (Arr 10 (Bool)))) → Prop) (x3 : Bool) (ag3 : ((List Int) × Bool × (List (Int × Int × Int × Int × Int × Int × (Arr 4 (UInt64)))) × Int × (List UInt8) × Int × (Arr 10 (Bool))) → Prop) (x183 : List Int) (x185 : Bool) (f186 : List (Int × Int × Int × Int × Int × Int × (Arr 4 (UInt64)))) (f188 : Int) (f189 : List UInt8) (f190 : Int) (f191 : Arr 10 (Bool)) (r : Int × (List (Int × Int)) × (((List (Int × Int × Int × Int × Int × Int × (Arr 4 (UInt64)))) × Int) × (List UInt8) × Int × (Arr 10 (Bool)))) : Prop :=
 ((f190 < (f189.length : Int) → ∃ y243 : Bool, bre_parser_has_R ((f186, f188), f189, f190, f191) (⟨#[92, 41]⟩ : ByteArray) y243 ∧ ((¬ (y243 = true) → ∃ y246 : Int × (List (Int × Int)) × (((List (Int × Int × Int × Int × Int × Int × (Arr 4 (UInt64)))) × Int) × (List UInt8) × Int × (Arr 10 (Bool))), c_bre_parser_piece ((f186, f188), f189, f190, f191) x185 y246 ∧ ((¬ ((List.isEmpty y246.2.1) = true) → r = (0, y246.2.1, ((y246.2.2.1.1, y246.2.2.1.2), y246.2.2.2.1, y246.2.2.2.2.1, y246.2.2.2.2.2))) ∧ (¬ (¬ ((List.isEmpty y246.2.1) = true)) → Room (x183.length + ([y246.1]).length) 8 ∧ ag3 ((x183 ++ [y246.1]), false, y246.2.2.1.1, y246.2.2.1.2, y246.2.2.2.1, y246.2.2.2.2.1, y246.2.2.2.2.2)))) ∧ (¬ (¬ (y243 = true)) → bre_parser_branch_j2 x3 x183 f186 f188 f189 f190 f191 r))) ∧ (¬ (f190 < (f189.length : Int)) → bre_parser_branch_j2 x3 x183 f186 f188 f189 f190 f191 r))
def bre_parser_branch_j1 (c_bre_parser_piece : (((List (Int × Int × Int × Int × Int × Int × (Arr 4 (UInt64)))) × Int) × (List UInt8) × Int × (Arr 10 (Bool))) → (Bool) → (Int × (List (Int × Int)) × (((List (Int × Int × Int × Int × Int × Int × (Arr 4 (UInt64)))) × Int) × (List UInt8) × Int × (Arr 10 (Bool)))) → Prop) (x3 : Bool) (x19 : List Int) (f21 : List (Int × Int × Int × Int × Int × Int × (Arr 4 (UInt64)))) (f23 : Int) (f24 : List UInt8) (f25 : Int) (f26 : Arr 10 (Bool)) (r : Int × (List (Int × Int)) × (((List (Int × Int × Int × Int × Int × Int × (Arr 4 (UInt64)))) × Int) × (List UInt8) × Int × (Arr 10 (Bool)))) : Prop :=
 LoopR (fun ag3 s => bre_parser_branch_l3 c_bre_parser_piece x3 ag3 s.1 s.2.1 s.2.2.1 s.2.2.2.1 s.2.2.2.2.1 s.2.2.2.2.2.1 s.2.2.2.2.2.2 r) (x19, true, f21, f23, f24, f25, f26)
def bre_parser_branch_B (c_bre_parser_branch : (((List (Int × Int × Int × Int × Int × Int × (Arr 4 (UInt64)))) × Int) × (List UInt8) × Int × (Arr 10 (Bool))) → (Bool) → (Int × (List (Int × Int)) × (((List (Int × Int × Int × Int × Int × Int × (Arr 4 (UInt64)))) × Int) × (List UInt8) × Int × (Arr 10 (Bool)))) → Prop) (c_bre_parser_piece : (((List (Int × Int × Int × Int × Int × Int × (Arr 4 (UInt64)))) × Int) × (List UInt8) × Int × (Arr 10 (Bool))) → (Bool) → (Int × (List (Int × Int)) × (((List (Int × Int × Int × Int × Int × Int × (Arr 4 (UInt64)))) × Int) × (List UInt8) × Int × (Arr 10 (Bool)))) → Prop) (c_bre_parser_atom : (((List (Int × Int × Int × Int × Int × Int × (Arr 4 (UInt64)))) × Int) × (List UInt8) × Int × (Arr 10 (Bool))) → (Int × (List (Int × Int)) × (((List (Int × Int × Int × Int × Int × Int × (Arr 4 (UInt64)))) × Int) × (List UInt8) × Int × (Arr 10 (Bool)))) → Prop) (c_bre_parser_escape : (((List (Int × Int × Int × Int × Int × Int × (Arr 4 (UInt64)))) × Int) × (List UInt8) × Int × (Arr 10 (Bool))) → (Int × (List (Int × Int)) × (((List (Int × Int × Int × Int × Int × Int × (Arr 4 (UInt64)))) × Int) × (List UInt8) × Int × (Arr 10 (Bool)))) → Prop) (c_bre_parser_group : (((List (Int × Int × Int × Int × Int × Int × (Arr 4 (UInt64)))) × Int) × (List UInt8) × Int × (Arr 10 (Bool))) → (Int × (List (Int × Int)) × (((List (Int × Int × Int × Int × Int × Int × (Arr 4 (UInt64)))) × Int) × (List UInt8) × Int × (Arr 10 (Bool)))) → Prop) (o1 : ((List (Int × Int × Int × Int × Int × Int × (Arr 4 (UInt64)))) × Int) × (List UInt8) × Int × (Arr 10 (Bool))) (x3 : Bool) (r : Int × (List (Int × Int)) × (((List (Int × Int × Int × Int × Int × Int × (Arr 4 (UInt64)))) × Int) × (List UInt8) × Int × (Arr 10 (Bool)))) : Prop :=
 ∃ y28 : Bool, bre_parser_has_R ((o1.1.1, o1.1.2), o1.2.1, o1.2.2.1, o1.2.2.2) (⟨#[94]⟩ : ByteArray) y28 ∧ ((y28 = true → InR (o1.2.2.1 + 1) ∧ ∃ y32 : Int × (((List (Int × Int × Int × Int × Int × Int × (Arr 4 (UInt64)))) × Int) × (List UInt8) × Int × (Arr 10 (Bool))), tree_Builder_Bol_R ((o1.1.1, o1.1.2), o1.2.1, (o1.2.2.1 + 1), o1.2.2.2) y32 ∧ Room (([y32.1]).length) 8 ∧ 0 ≤ (0 : Int) ∧ ∃ y36 : Int, ([y32.1])[(0 : Int).toNat]? = some y36 ∧ ((y36 < 0 → ∃ y41 : (List (Int × Int)), bre_parser_fail_R ((y32.2.1.1, y32.2.1.2), y32.2.2.1, y32.2.2.2.1, y32.2.2.2.2) 8 y41 ∧ r = (0, y41, ((y32.2.1.1, y32.2.1.2), y32.2.2.1, y32.2.2.2.1, y32.2.2.2.2))) ∧ (¬ (y36 < 0) → bre_parser_branch_j1 c_bre_parser_piece x3 ([y32.1]) y32.2.1.1 y32.2.1.2 y32.2.2.1 y32.2.2.2.1 y32.2.2.2.2 r))) ∧ (¬ (y28 = true) → bre_parser_branch_j1 c_bre_parser_piece x3 ([] : List Int) o1.1.1 o1.1.2 o1.2.1 o1.2.2.1 o1.2.2.2 r))
def bre_parser_piece_j6 (k240 : Int) (f242 : List (Int × Int × Int × Int × Int × Int × (Arr 4 (UInt64)))) (f244 : Int) (f245 : List UInt8) (f246 : Int) (f247 : Arr 10 (Bool)) (w344 : List (Int × Int)) (r : Int × (List (Int × Int)) × (((List (Int × Int × Int × Int × Int × Int × (Arr 4 (UInt64)))) × Int) × (List UInt8) × Int × (Arr 10 (Bool)))) : Prop :=
 r = (k240, w344, ((f242, f244), f245, f246, f247))
def bre_parser_piece_j7 (f242 : List (Int × Int × Int × Int × Int × Int × (Arr 4 (UInt64)))) (f244 : Int) (f245 : List UInt8) (f246 : Int) (f247 : Arr 10 (Bool)) (k240 : Int) (w241 : List (Int × Int)) (x348 : Bool) (r : Int × (List (Int × Int)) × (((List (Int × Int × Int × Int × Int × Int × (Arr 4 (UInt64)))) × Int) × (List UInt8) × Int × (Arr 10 (Bool)))) : Prop :=
 ((x348 = true → ∃ y354 : (List (Int × Int)), bre_parser_fail_R ((f242, f244), f245, f246, f247) 8 y354 ∧ bre_parser_piece_j6 k240 f242 f244 f245 f246 f247 y354 r) ∧ (¬ (x348 = true) → bre_parser_piece_j6 k240 f242 f244 f245 f246 f247 w241 r))
def bre_parser_piece_j5 (f242 : List (Int × Int × Int × Int × Int × Int × (Arr 4 (UInt64)))) (f244 : Int) (f245 : List UInt8) (f246 : Int) (f247 : Arr 10 (Bool)) (k240 : Int) (ag4 : (Int × (List (Int × Int)) × (List (Int × Int × Int × Int × Int × Int × (Arr 4 (UInt64)))) × Int × (List UInt8) × Int × (Arr 10 (Bool))) → Prop) (w241 : List (Int × Int)) (x320 : Bool) (r : Int × (List (Int × Int)) × (((List (Int × Int × Int × Int × Int × Int × (Arr 4 (UInt64)))) × Int) × (List UInt8) × Int × (Arr 10 (Bool)))) : Prop :=
 ((x320 = true → ∃ y332 : Int × (List (Int × Int)) × (((List (Int × Int × Int × Int × Int × Int × (Arr 4 (UInt64)))) × Int) × (List UInt8) × Int × (Arr 10 (Bool))), bre_parser_repeat_R ((f242, f244), f245, f246, f247) k240 y332 ∧ ag4 (y332.1, y332.2.1, y332.2.2.1.1, y332.2.2.1.2, y332.2.2.2.1, y332.2.2.2.2.1, y332.2.2.2.2.2)) ∧ (¬ (x320 = true) → bre_parser_piece_j7 f242 f244 f245 f246 f247 k240 w241 ((List.isEmpty w241) && (decide (k240 < 0))) r))
def bre_parser_piece_l4 (ag4 : (Int × (List (Int × Int)) × (List (Int × Int × Int × Int × Int × Int × (Arr 4 (UInt64)))) × Int × (List UInt8) × Int × (Arr 10 (Bool))) → Prop) (k240 : Int) (w241 : List (Int × Int)) (f242 : List (Int × Int × Int × Int × Int × Int × (Arr 4 (UInt64)))) (f244 : Int) (f245 : List UInt8) (f246 : Int) (f247 : Arr 10 (Bool)) (r : Int × (List (Int × Int)) × (((List (Int × Int × Int × Int × Int × Int × (Arr 4 (UInt64)))) × Int) × (List UInt8) × Int × (Arr 10 (Bool)))) : Prop :=
 (((List.isEmpty w241) = true → ((0 ≤ k240 → ∃ y326 : Bool, bre_parser_has_R ((f242, f244), f245, f246, f247) (⟨#[42]⟩ : ByteArray) y326 ∧ ((y326 = true → bre_parser_piece_j5 f242 f244 f245 f246 f247 k240 ag4 w241 true r) ∧ (¬ (y326 = true) → ∃ y329 : Bool, bre_parser_has_R ((f242, f244), f245, f246, f247) (⟨#[92, 123]⟩ : ByteArray) y329 ∧ bre_parser_piece_j5 f242 f244 f245 f246 f247 k240 ag4 w241 y329 r))) ∧ (¬ (0 ≤ k240) → bre_parser_piece_j5 f242 f244 f245 f246 f247 k240 ag4 w241 false r))) ∧ (¬ ((List.isEmpty w241) = true) → bre_parser_piece_j5 f242 f244 f245 f246 f247 k240 ag4 w241 false r))
def bre_parser_piece_j2 (k38 : Int) (w39 : List (Int × Int)) (f40 : List (Int × Int × Int × Int × Int × Int × (Arr 4 (UInt64)))) (f42 : Int) (f43 : List UInt8) (f44 : Int) (f45 : Arr 10 (Bool)) (r : Int × (List (Int × Int)) × (((List (Int × Int × Int × Int × Int × Int × (Arr 4 (UInt64)))) × Int) × (List UInt8) × Int × (Arr 10 (Bool)))) : Prop :=
 LoopR (fun ag4 s => bre_parser_piece_l4 ag4 s.1 s.2.1 s.2.2.1 s.2.2.2.1 s.2.2.2.2.1 s.2.2.2.2.2.1 s.2.2.2.2.2.2 r) (k38, w39, f40, f42, f43, f44, f45)
def bre_parser_piece_j3 (o1 : ((List (Int × Int × Int × Int × Int × Int × (Arr 4 (UInt64)))) × Int) × (List UInt8) × Int × (Arr 10 (Bool))) (c_bre_parser_atom : (((List (Int × Int × Int × Int × Int × Int × (Arr 4 (UInt64)))) × Int) × (List UInt8) × Int × (Arr 10 (Bool))) → (Int × (List (Int × Int)) × (((List (Int × Int × Int × Int × Int × Int × (Arr 4 (UInt64)))) × Int) × (List UInt8) × Int × (Arr 10 (Bool)))) → Prop) (x49 : Bool) (r : Int × (List (Int × Int)) × (((List (Int × Int × Int × Int × Int × Int × (Arr 4 (UInt64)))) × Int) × (List UInt8) × Int × (Arr 10 (Bool)))) : Prop :=
 ((x49 = true → ∃ y55 : Int × (((List (Int × Int × Int × Int × Int × Int × (Arr 4 (UInt64)))) × Int) × (List UInt8) × Int × (Arr 10 (Bool))), bre_parser_one_R ((o1.1.1, o1.1.2), o1.2.1, o1.2.2.1, o1.2.2.2) (42 : UInt8) y55 ∧ bre_parser_piece_j2 y55.1 ([] : List (Int × Int)) y55.2.1.1 y55.2.1.2 y55.2.2.1 y55.2.2.2.1 y55.2.2.2.2 r) ∧ (¬ (x49 = true) → ∃ y58 : Int × (List (Int × Int)) × (((List (Int × Int × Int × Int × Int × Int × (Arr 4 (UInt64)))) × Int) × (List UInt8) × Int × (Arr 10 (Bool))), c_bre_parser_atom ((o1.1.1, o1.1.2), o1.2.1, o1.2.2.1, o1.2.2.2) y58 ∧ bre_parser_piece_j2 y58.1 y58.2.1 y58.2.2.1.1 y58.2.2.1.2 y58.2.2.2.1 y58.2.2.2.2.1 y58.2.2.2.2.2 r))
def bre_parser_piece_j1 (o1 : ((List (Int × Int × Int × Int × Int × Int × (Arr 4 (UInt64)))) × Int) × (List UInt8) × Int × (Arr 10 (Bool))) (first3 : Bool) (c_bre_parser_atom : (((List (Int × Int × Int × Int × Int × Int × (Arr 4 (UInt64)))) × Int) × (List UInt8) × Int × (Arr 10 (Bool))) → (Int × (List (Int × Int)) × (((List (Int × Int × Int × Int × Int × Int × (Arr 4 (UInt64)))) × Int) × (List UInt8) × Int × (Arr 10 (Bool)))) → Prop) (x17 : Bool) (r : Int × (List (Int × Int)) × (((List (Int × Int × Int × Int × Int × Int × (Arr 4 (UInt64)))) × Int) × (List UInt8) × Int × (Arr 10 (Bool)))) : Prop :=
 ((x17 = true → ∃ y23 : (List (Int × Int)), bre_parser_fail_R ((o1.1.1, o1.1.2), o1.2.1, o1.2.2.1, o1.2.2.2) 13 y23 ∧ r = (0, y23, ((o1.1.1, o1.1.2), o1.2.1, o1.2.2.1, o1.2.2.2))) ∧ (¬ (x17 = true) → ((first3 = true → ∃ y52 : Bool, bre_parser_has_R ((o1.1.1, o1.1.2), o1.2.1, o1.2.2.1, o1.2.2.2) (⟨#[42]⟩ : ByteArray) y52 ∧ bre_parser_piece_j3 o1 c_bre_parser_atom y52 r) ∧ (¬ (first3 = true) → bre_parser_piece_j3 o1 c_bre_parser_atom false r))))
def bre_parser_piece_B (c_bre_parser_branch : (((List (Int × Int × Int × Int × Int × Int × (Arr 4 (UInt64)))) × Int) × (List UInt8) × Int × (Arr 10 (Bool))) → (Bool) → (Int × (List (Int × Int)) × (((List (Int × Int × Int × Int × Int × Int × (Arr 4 (UInt64)))) × Int) × (List UInt8) × Int × (Arr 10 (Bool)))) → Prop) (c_bre_parser_piece : (((List (Int × Int × Int × Int × Int × Int × (Arr 4 (UInt64)))) × Int) × (List UInt8) × Int × (Arr 10 (Bool))) → (Bool) → (Int × (List (Int × Int)) × (((List (Int × Int × Int × Int × Int × Int × (Arr 4 (UInt64)))) × Int) × (List UInt8) × Int × (Arr 10 (Bool)))) → Prop) (c_bre_parser_atom : (((List (Int × Int × Int × Int × Int × Int × (Arr 4 (UInt64)))) × Int) × (List UInt8) × Int × (Arr 10 (Bool))) → (Int × (List (Int × Int)) × (((List (Int × Int × Int × Int × Int × Int × (Arr 4 (UInt64)))) × Int) × (List UInt8) × Int × (Arr 10 (Bool)))) → Prop) (c_bre_parser_escape : (((List (Int × Int × Int × Int × Int × Int × (Arr 4 (UInt64)))) × Int) × (List UInt8) × Int × (Arr 10 (Bool))) → (Int × (List (Int × Int)) × (((List (Int × Int × Int × Int × Int × Int × (Arr 4 (UInt64)))) × Int) × (List UInt8) × Int × (Arr 10 (Bool)))) → Prop) (c_bre_parser_group : (((List (Int × Int × Int × Int × Int × Int × (Arr 4 (UInt64)))) × Int) × (List UInt8) × Int × (Arr 10 (Bool))) → (Int × (List (Int × Int)) × (((List (Int × Int × Int × Int × Int × Int × (Arr 4 (UInt64)))) × Int) × (List UInt8) × Int × (Arr 10 (Bool)))) → Prop) (o1 : ((List (Int × Int × Int × Int × Int × Int × (Arr 4 (UInt64)))) × Int) × (List UInt8) × Int × (Arr 10 (Bool))) (first3 : Bool) (r : Int × (List (Int × Int)) × (((List (Int × Int × Int × Int × Int × Int × (Arr 4 (UInt64)))) × Int) × (List UInt8) × Int × (Arr 10 (Bool)))) : Prop :=
 ((first3 = true → ∃ y20 : Bool, bre_parser_has_R ((o1.1.1, o1.1.2), o1.2.1, o1.2.2.1, o1.2.2.2) (⟨#[92, 123]⟩ : ByteArray) y20 ∧ bre_parser_piece_j1 o1 first3 c_bre_parser_atom y20 r) ∧ (¬ (first3 = true) → bre_parser_piece_j1 o1 first3 c_bre_parser_atom false r))
def bre_parser_atom_j1 (o1 : ((List (Int × Int × Int × Int × Int × Int × (Arr 4 (UInt64)))) × Int) × (List UInt8) × Int × (Arr 10 (Bool))) (y5 : UInt8) (x109 : Bool) (r : Int × (List (Int × Int)) × (((List (Int × Int × Int × Int × Int × Int × (Arr 4 (UInt64)))) × Int) × (List UInt8) × Int × (Arr 10 (Bool)))) : Prop :=
 ((x109 = true → InR (o1.2.2.1 + 1) ∧ ∃ y117 : Int × (((List (Int × Int × Int × Int × Int × Int × (Arr 4 (UInt64)))) × Int) × (List UInt8) × Int × (Arr 10 (Bool))), tree_Builder_Eol_R ((o1.1.1, o1.1.2), o1.2.1, (o1.2.2.1 + 1), o1.2.2.2) y117 ∧ r = (y117.1, ([] : List (Int × Int)), ((y117.2.1.1, y117.2.1.2), y117.2.2.1, y117.2.2.2.1, y117.2.2.2.2))) ∧ (¬ (x109 = true) → ∃ y120 : Int × (((List (Int × Int × Int × Int × Int × Int × (Arr 4 (UInt64)))) × Int) × (List UInt8) × Int × (Arr 10 (Bool))), bre_parser_one_R ((o1.1.1, o1.1.2), o1.2.1, o1.2.2.1, o1.2.2.2) y5 y120 ∧ r = (y120.1, ([] : List (Int × Int)), ((y120.2.1.1, y120.2.1.2), y120.2.2.1, y120.2.2.2.1, y120.2.2.2.2))))
def bre_parser_atom_B (c_bre_parser_branch : (((List (Int × Int × Int × Int × Int × Int × (Arr 4 (UInt64)))) × Int) × (List UInt8) × Int × (Arr 10 (Bool))) → (Bool) → (Int × (List (Int × Int)) × (((List (Int × Int × Int × Int × Int × Int × (Arr 4 (UInt64)))) × Int) × (List UInt8) × Int × (Arr 10 (Bool)))) → Prop) (c_bre_parser_piece : (((List (Int × Int × Int × Int × Int × Int × (Arr 4 (UInt64)))) × Int) × (List UInt8) × Int × (Arr 10 (Bool))) → (Bool) → (Int × (List (Int × Int)) × (((List (Int × Int × Int × Int × Int × Int × (Arr 4 (UInt64)))) × Int) × (List UInt8) × Int × (Arr 10 (Bool)))) → Prop) (c_bre_parser_atom : (((List (Int × Int × Int × Int × Int × Int × (Arr 4 (UInt64)))) × Int) × (List UInt8) × Int × (Arr 10 (Bool))) → (Int × (List (Int × Int)) × (((List (Int × Int × Int × Int × Int × Int × (Arr 4 (UInt64)))) × Int) × (List UInt8) × Int × (Arr 10 (Bool)))) → Prop) (c_bre_parser_escape : (((List (Int × Int × Int × Int × Int × Int × (Arr 4 (UInt64)))) × Int) × (List UInt8) × Int × (Arr 10 (Bool))) → (Int × (List (Int × Int)) × (((List (Int × Int × Int × Int × Int × Int × (Arr 4 (UInt64)))) × Int) × (List UInt8) × Int × (Arr 10 (Bool)))) → Prop) (c_bre_parser_group : (((List (Int × Int × Int × Int × Int × Int × (Arr 4 (UInt64)))) × Int) × (List UInt8) × Int × (Arr 10 (Bool))) → (Int × (List (Int × Int)) × (((List (Int × Int × Int × Int × Int × Int × (Arr 4 (UInt64)))) × Int) × (List UInt8) × Int × (Arr 10 (Bool)))) → Prop) (o1 : ((List (Int × Int × Int × Int × Int × Int × (Arr 4 (UInt64)))) × Int) × (List UInt8) × Int × (Arr 10 (Bool))) (r : Int × (List (Int × Int)) × (((List (Int × Int × Int × Int × Int × Int × (Arr 4 (UInt64)))) × Int) × (List UInt8) × Int × (Arr 10 (Bool)))) : Prop :=
 0 ≤ (o1.2.2.1 : Int) ∧ ∃ y5 : UInt8, o1.2.1[(o1.2.2.1 : Int).toNat]? = some y5 ∧ (((y5.toNat : Int) = 92 → ∃ y66 : Int × (List (Int × Int)) × (((List (Int × Int × Int × Int × Int × Int × (Arr 4 (UInt64)))) × Int) × (List UInt8) × Int × (Arr 10 (Bool))), c_bre_parser_escape ((o1.1.1, o1.1.2), o1.2.1, o1.2.2.1, o1.2.2.2) y66 ∧ r = (y66.1, y66.2.1, ((y66.2.2.1.1, y66.2.2.1.2), y66.2.2.2.1, y66.2.2.2.2.1, y66.2.2.2.2.2))) ∧ (¬ ((y5.toNat : Int) = 92) → (((y5.toNat : Int) = 46 → InR (o1.2.2.1 + 1) ∧ ∃ y77 : (Arr 4 (UInt64)), class_Not_R (Arr.rep 4 (0 : UInt64)) y77 ∧ ∃ y79 : Int × (((List (Int × Int × Int × Int × Int × Int × (Arr 4 (UInt64)))) × Int) × (List UInt8) × Int × (Arr 10 (Bool))), tree_Builder_Set_R ((o1.1.1, o1.1.2), o1.2.1, (o1.2.2.1 + 1), o1.2.2.2) y77 y79 ∧ r = (y79.1, ([] : List (Int × Int)), ((y79.2.1.1, y79.2.1.2), y79.2.2.1, y79.2.2.2.1, y79.2.2.2.2))) ∧ (¬ ((y5.toNat : Int) = 46) → (((y5.toNat : Int) = 91 → InR (o1.2.2.1 + 1) ∧ ∃ y89 : (Arr 4 (UInt64)) × Int × Int, brack_Parse_R o1.2.1 (o1.2.2.1 + 1) y89 ∧ ((¬ (y89.2.2 = 0) → ∃ y98 : (List (Int × Int)), bre_parser_fail_R ((o1.1.1, o1.1.2), o1.2.1, o1.2.2.1, o1.2.2.2) y89.2.2 y98 ∧ r = (0, y98, ((o1.1.1, o1.1.2), o1.2.1, o1.2.2.1, o1.2.2.2))) ∧ (¬ (¬ (y89.2.2 = 0)) → ∃ y103 : Int × (((List (Int × Int × Int × Int × Int × Int × (Arr 4 (UInt64)))) × Int) × (List UInt8) × Int × (Arr 10 (Bool))), tree_Builder_Set_R ((o1.1.1, o1.1.2), o1.2.1, y89.2.1, o1.2.2.2) y89.1 y103 ∧ r = (y103.1, ([] : List (Int × Int)), ((y103.2.1.1, y103.2.1.2), y103.2.2.1, y103.2.2.2.1, y103.2.2.2.2))))) ∧ (¬ ((y5.toNat : Int) = 91) → (((y5.toNat : Int) = 36 → ∃ y113 : Bool, bre_parser_isEnd_R ((o1.1.1, o1.1.2), o1.2.1, o1.2.2.1, o1.2.2.2) y113 ∧ bre_parser_atom_j1 o1 y5 y113 r) ∧ (¬ ((y5.toNat : Int) = 36) → bre_parser_atom_j1 o1 y5 false r))))))))
def bre_parser_escape_j1 (y25 : UInt8) (o1 : ((List (Int × Int × Int × Int × Int × Int × (Arr 4 (UInt64)))) × Int) × (List UInt8) × Int × (Arr 10 (Bool))) (y28 : Bool × Bool) (x76 : Bool) (r : Int × (List (Int × Int)) × (((List (Int × Int × Int × Int × Int × Int × (Arr 4 (UInt64)))) × Int) × (List UInt8) × Int × (Arr 10 (Bool)))) : Prop :=
 ((x76 = true → ∃ c82 : UInt8, (c82.toNat : Int) = IntKind.u8.wrap ((y25.toNat : Int) - 48) ∧ (0 ≤ ((c82.toNat : Int) : Int) ∧ ((c82.toNat : Int) : Int) < 10) ∧ ∃ y90 : Bool, o1.2.2.2.l[((c82.toNat : Int) : Int).toNat]? = some y90 ∧ ((¬ (y90 = true) → ∃ y93 : (List (Int × Int)), bre_parser_fail_R ((o1.1.1, o1.1.2), o1.2.1, o1.2.2.1, o1.2.2.2) 16 y93 ∧ r = (0, y93, ((o1.1.1, o1.1.2), o1.2.1, o1.2.2.1, o1.2.2.2))) ∧ (¬ (¬ (y90 = true)) → InR (o1.2.2.1 + 2) ∧ ∃ y96 : Int × (((List (Int × Int × Int × Int × Int × Int × (Arr 4 (UInt64)))) × Int) × (List UInt8) × Int × (Arr 10 (Bool))), tree_Builder_Back_R ((o1.1.1, o1.1.2), o1.2.1, (o1.2.2.1 + 2), o1.2.2.2) (c82.toNat : Int) y96 ∧ r = (y96.1, ([] : List (Int × Int)), ((y96.2.1.1, y96.2.1.2), y96.2.2.1, y96.2.2.2.1, y96.2.2.2.2))))) ∧ (¬ (x76 = true) → (((y25.toNat : Int) = 110 → InR (o1.2.2.1 + 1) ∧ ∃ y102 : Int × (((List (Int × Int × Int × Int × Int × Int × (Arr 4 (UInt64)))) × Int) × (List UInt8) × Int × (Arr 10 (Bool))), bre_parser_one_R ((o1.1.1, o1.1.2), o1.2.1, (o1.2.2.1 + 1), o1.2.2.2) (10 : UInt8) y102 ∧ r = (y102.1, ([] : List (Int × Int)), ((y102.2.1.1, y102.2.1.2), y102.2.2.1, y102.2.2.2.1, y102.2.2.2.2))) ∧ (¬ ((y25.toNat : Int) = 110) → ((y28.1 = true → ∃ y106 : (List (Int × Int)), bre_parser_fail_R ((o1.1.1, o1.1.2), o1.2.1, o1.2.2.1, o1.2.2.2) 10 y106 ∧ r = (0, y106, ((o1.1.1, o1.1.2), o1.2.1, o1.2.2.1, o1.2.2.2))) ∧ (¬ (y28.1 = true) → InR (o1.2.2.1 + 1) ∧ ∃ y109 : Int × (((List (Int × Int × Int × Int × Int × Int × (Arr 4 (UInt64)))) × Int) × (List UInt8) × Int × (Arr 10 (Bool))), bre_parser_one_R ((o1.1.1, o1.1.2), o1.2.1, (o1.2.2.1 + 1), o1.2.2.2) y25 y109 ∧ r = (y109.1, ([] : List (Int × Int)), ((y109.2.1.1, y109.2.1.2), y109.2.2.1, y109.2.2.2.1, y109.2.2.2.2))))))))
def bre_parser_escape_B (c_bre_parser_branch : (((List (Int × Int × Int × Int × Int × Int × (Arr 4 (UInt64)))) × Int) × (List UInt8) × Int × (Arr 10 (Bool))) → (Bool) → (Int × (List (Int × Int)) × (((List (Int × Int × Int × Int × Int × Int × (Arr 4 (UInt64)))) × Int) × (List UInt8) × Int × (Arr 10 (Bool)))) → Prop) (c_bre_parser_piece : (((List (Int × Int × Int × Int × Int × Int × (Arr 4 (UInt64)))) × Int) × (List UInt8) × Int × (Arr 10 (Bool))) → (Bool) → (Int × (List (Int × Int)) × (((List (Int × Int × Int × Int × Int × Int × (Arr 4 (UInt64)))) × Int) × (List UInt8) × Int × (Arr 10 (Bool)))) → Prop) (c_bre_parser_atom : (((List (Int × Int × Int × Int × Int × Int × (Arr 4 (UInt64)))) × Int) × (List UInt8) × Int × (Arr 10 (Bool))) → (Int × (List (Int × Int)) × (((List (Int × Int × Int × Int × Int × Int × (Arr 4 (UInt64)))) × Int) × (List UInt8) × Int × (Arr 10 (Bool)))) → Prop) (c_bre_parser_escape : (((List (Int × Int × Int × Int × Int × Int × (Arr 4 (UInt64)))) × Int) × (List UInt8) × Int × (Arr 10 (Bool))) → (Int × (List (Int × Int)) × (((List (Int × Int × Int × Int × Int × Int × (Arr 4 (UInt64)))) × Int) × (List UInt8) × Int × (Arr 10 (Bool)))) → Prop) (c_bre_parser_group : (((List (Int × Int × Int × Int × Int × Int × (Arr 4 (UInt64)))) × Int) × (List UInt8) × Int × (Arr 10 (Bool))) → (Int × (List (Int × Int)) × (((List (Int × Int × Int × Int × Int × Int × (Arr 4 (UInt64)))) × Int) × (List UInt8) × Int × (Arr 10 (Bool)))) → Prop) (o1 : ((List (Int × Int × Int × Int × Int × Int × (Arr 4 (UInt64)))) × Int) × (List UInt8) × Int × (Arr 10 (Bool))) (r : Int × (List (Int × Int)) × (((List (Int × Int × Int × Int × Int × Int × (Arr 4 (UInt64)))) × Int) × (List UInt8) × Int × (Arr 10 (Bool)))) : Prop :=
 InR (o1.2.2.1 + 1) ∧ (((o1.2.2.1 + 1) = (o1.2.1.length : Int) → ∃ y20 : (List (Int × Int)), bre_parser_fail_R ((o1.1.1, o1.1.2), o1.2.1, o1.2.2.1, o1.2.2.2) 10 y20 ∧ r = (0, y20, ((o1.1.1, o1.1.2), o1.2.1, o1.2.2.1, o1.2.2.2))) ∧ (¬ ((o1.2.2.1 + 1) = (o1.2.1.length : Int)) → InR (o1.2.2.1 + 1) ∧ 0 ≤ ((o1.2.2.1 + 1) : Int) ∧ ∃ y25 : UInt8, o1.2.1[((o1.2.2.1 + 1) : Int).toNat]? = some y25 ∧ ∃ y28 : Bool × Bool, digit_Is_R (⟨#[97, 108, 110, 117, 109]⟩ : ByteArray) y25 y28 ∧ (((y25.toNat : Int) = 40 → ∃ y71 : Int × (List (Int × Int)) × (((List (Int × Int × Int × Int × Int × Int × (Arr 4 (UInt64)))) × Int) × (List UInt8) × Int × (Arr 10 (Bool))), c_bre_parser_group ((o1.1.1, o1.1.2), o1.2.1, o1.2.2.1, o1.2.2.2) y71 ∧ r = (y71.1, y71.2.1, ((y71.2.2.1.1, y71.2.2.1.2), y71.2.2.2.1, y71.2.2.2.2.1, y71.2.2.2.2.2))) ∧ (¬ ((y25.toNat : Int) = 40) → bre_parser_escape_j1 y25 o1 y28 ((decide (49 ≤ (y25.toNat : Int))) && (decide ((y25.toNat : Int) ≤ 57))) r))))
def bre_parser_group_B (c_bre_parser_branch : (((List (Int × Int × Int × Int × Int × Int × (Arr 4 (UInt64)))) × Int) × (List UInt8) × Int × (Arr 10 (Bool))) → (Bool) → (Int × (List (Int × Int)) × (((List (Int × Int × Int × Int × Int × Int × (Arr 4 (UInt64)))) × Int) × (List UInt8) × Int × (Arr 10 (Bool)))) → Prop) (c_bre_parser_piece : (((List (Int × Int × Int × Int × Int × Int × (Arr 4 (UInt64)))) × Int) × (List UInt8) × Int × (Arr 10 (Bool))) → (Bool) → (Int × (List (Int × Int)) × (((List (Int × Int × Int × Int × Int × Int × (Arr 4 (UInt64)))) × Int) × (List UInt8) × Int × (Arr 10 (Bool)))) → Prop) (c_bre_parser_atom : (((List (Int × Int × Int × Int × Int × Int × (Arr 4 (UInt64)))) × Int) × (List UInt8) × Int × (Arr 10 (Bool))) → (Int × (List (Int × Int)) × (((List (Int × Int × Int × Int × Int × Int × (Arr 4 (UInt64)))) × Int) × (List UInt8) × Int × (Arr 10 (Bool)))) → Prop) (c_bre_parser_escape : (((List (Int × Int × Int × Int × Int × Int × (Arr 4 (UInt64)))) × Int) × (List UInt8) × Int × (Arr 10 (Bool))) → (Int × (List (Int × Int)) × (((List (Int × Int × Int × Int × Int × Int × (Arr 4 (UInt64)))) × Int) × (List UInt8) × Int × (Arr 10 (Bool)))) → Prop) (c_bre_parser_group : (((List (Int × Int × Int × Int × Int × Int × (Arr 4 (UInt64)))) × Int) × (List UInt8) × Int × (Arr 10 (Bool))) → (Int × (List (Int × Int)) × (((List (Int × Int × Int × Int × Int × Int × (Arr 4 (UInt64)))) × Int) × (List UInt8) × Int × (Arr 10 (Bool)))) → Prop) (o1 : ((List (Int × Int × Int × Int × Int × Int × (Arr 4 (UInt64)))) × Int) × (List UInt8) × Int × (Arr 10 (Bool))) (r : Int × (List (Int × Int)) × (((List (Int × Int × Int × Int × Int × Int × (Arr 4 (UInt64)))) × Int) × (List UInt8) × Int × (Arr 10 (Bool)))) : Prop :=
 ∃ y4 : Int × (((List (Int × Int × Int × Int × Int × Int × (Arr 4 (UInt64)))) × Int) × (List UInt8) × Int × (Arr 10 (Bool))), tree_Builder_Open_R ((o1.1.1, o1.1.2), o1.2.1, o1.2.2.1, o1.2.2.2) y4 ∧ ((y4.1 < 0 → ∃ y13 : (List (Int × Int)), bre_parser_fail_R ((y4.2.1.1, y4.2.1.2), y4.2.2.1, y4.2.2.2.1, y4.2.2.2.2) 17 y13 ∧ r = (0, y13, ((y4.2.1.1, y4.2.1.2), y4.2.2.1, y4.2.2.2.1, y4.2.2.2.2))) ∧ (¬ (y4.1 < 0) → InR (y4.2.2.2.1 + 2) ∧ ∃ y16 : Int × (List (Int × Int)) × (((List (Int × Int × Int × Int × Int × Int × (Arr 4 (UInt64)))) × Int) × (List UInt8) × Int × (Arr 10 (Bool))), c_bre_parser_branch ((y4.2.1.1, y4.2.1.2), y4.2.2.1, (y4.2.2.2.1 + 2), y4.2.2.2.2) true y16 ∧ ((¬ ((List.isEmpty y16.2.1) = true) → r = (0, y16.2.1, ((y16.2.2.1.1, y16.2.2.1.2), y16.2.2.2.1, y16.2.2.2.2.1, y16.2.2.2.2.2))) ∧ (¬ (¬ ((List.isEmpty y16.2.1) = true)) → InR (y16.2.2.2.2.1 + 2) ∧ (0 ≤ (y4.1 : Int) ∧ (y4.1 : Int) < 10) ∧ ∃ y24 : Bool, y16.2.2.2.2.2.l[(y4.1 : Int).toNat]? = some y24 ∧ ∃ y26 : Int × (((List (Int × Int × Int × Int × Int × Int × (Arr 4 (UInt64)))) × Int) × (List UInt8) × Int × (Arr 10 (Bool))), tree_Builder_Group_R ((y16.2.2.1.1, y16.2.2.1.2), y16.2.2.2.1, (y16.2.2.2.2.1 + 2), (Arr.set y16.2.2.2.2.2 (y4.1 : Int).toNat true)) y4.1 y16.1 y26 ∧ r = (y26.1, ([] : List (Int × Int)), ((y26.2.1.1, y26.2.1.2), y26.2.2.1, y26.2.2.2.1, y26.2.2.2.2))))))
def rec_bre_parser_branch_H (S1 : Nat → (((List (Int × Int × Int × Int × Int × Int × (Arr 4 (UInt64)))) × Int) × (List UInt8) × Int × (Arr 10 (Bool))) → (Bool) → (Int × (List (Int × Int)) × (((List (Int × Int × Int × Int × Int × Int × (Arr 4 (UInt64)))) × Int) × (List UInt8) × Int × (Arr 10 (Bool)))) → Prop) (S2 : Nat → (((List (Int × Int × Int × Int × Int × Int × (Arr 4 (UInt64)))) × Int) × (List UInt8) × Int × (Arr 10 (Bool))) → (Bool) → (Int × (List (Int × Int)) × (((List (Int × Int × Int × Int × Int × Int × (Arr 4 (UInt64)))) × Int) × (List UInt8) × Int × (Arr 10 (Bool)))) → Prop) (S3 : Nat → (((List (Int × Int × Int × Int × Int × Int × (Arr 4 (UInt64)))) × Int) × (List UInt8) × Int × (Arr 10 (Bool))) → (Int × (List (Int × Int)) × (((List (Int × Int × Int × Int × Int × Int × (Arr 4 (UInt64)))) × Int) × (List UInt8) × Int × (Arr 10 (Bool)))) → Prop) (S4 : Nat → (((List (Int × Int × Int × Int × Int × Int × (Arr 4 (UInt64)))) × Int) × (List UInt8) × Int × (Arr 10 (Bool))) → (Int × (List (Int × Int)) × (((List (Int × Int × Int × Int × Int × Int × (Arr 4 (UInt64)))) × Int) × (List UInt8) × Int × (Arr 10 (Bool)))) → Prop) (S5 : Nat → (((List (Int × Int × Int × Int × Int × Int × (Arr 4 (UInt64)))) × Int) × (List UInt8) × Int × (Arr 10 (Bool))) → (Int × (List (Int × Int)) × (((List (Int × Int × Int × Int × Int × Int × (Arr 4 (UInt64)))) × Int) × (List UInt8) × Int × (Arr 10 (Bool)))) → Prop) : Prop :=
 (∀ (m : Nat) (o1 : ((List (Int × Int × Int × Int × Int × Int × (Arr 4 (UInt64)))) × Int) × (List UInt8) × Int × (Arr 10 (Bool))) (x3 : Bool) (r : Int × (List (Int × Int)) × (((List (Int × Int × Int × Int × Int × Int × (Arr 4 (UInt64)))) × Int) × (List UInt8) × Int × (Arr 10 (Bool)))), S1 m o1 x3 r → bre_parser_branch_B (fun a0 a1 r => ∃ m', m' < m ∧ S1 m' a0 a1 r) (fun a0 a1 r => ∃ m', m' < m ∧ S2 m' a0 a1 r) (fun a0 r => ∃ m', m' < m ∧ S3 m' a0 r) (fun a0 r => ∃ m', m' < m ∧ S4 m' a0 r) (fun a0 r => ∃ m', m' < m ∧ S5 m' a0 r) o1 x3 r) ∧ (∀ (m : Nat) (o1 : ((List (Int × Int × Int × Int × Int × Int × (Arr 4 (UInt64)))) × Int) × (List UInt8) × Int × (Arr 10 (Bool))) (first3 : Bool) (r : Int × (List (Int × Int)) × (((List (Int × Int × Int × Int × Int × Int × (Arr 4 (UInt64)))) × Int) × (List UInt8) × Int × (Arr 10 (Bool)))), S2 m o1 first3 r → bre_parser_piece_B (fun a0 a1 r => ∃ m', m' < m ∧ S1 m' a0 a1 r) (fun a0 a1 r => ∃ m', m' < m ∧ S2 m' a0 a1 r) (fun a0 r => ∃ m', m' < m ∧ S3 m' a0 r) (fun a0 r => ∃ m', m' < m ∧ S4 m' a0 r) (fun a0 r => ∃ m', m' < m ∧ S5 m' a0 r) o1 first3 r) ∧ (∀ (m : Nat) (o1 : ((List (Int × Int × Int × Int × Int × Int × (Arr 4 (UInt64)))) × Int) × (List UInt8) × Int × (Arr 10 (Bool))) (r : Int × (List (Int × Int)) × (((List (Int × Int × Int × Int × Int × Int × (Arr 4 (UInt64)))) × Int) × (List UInt8) × Int × (Arr 10 (Bool)))), S3 m o1 r → bre_parser_atom_B (fun a0 a1 r => ∃ m', m' < m ∧ S1 m' a0 a1 r) (fun a0 a1 r => ∃ m', m' < m ∧ S2 m' a0 a1 r) (fun a0 r => ∃ m', m' < m ∧ S3 m' a0 r) (fun a0 r => ∃ m', m' < m ∧ S4 m' a0 r) (fun a0 r => ∃ m', m' < m ∧ S5 m' a0 r) o1 r) ∧ (∀ (m : Nat) (o1 : ((List (Int × Int × Int × Int × Int × Int × (Arr 4 (UInt64)))) × Int) × (List UInt8) × Int × (Arr 10 (Bool))) (r : Int × (List (Int × Int)) × (((List (Int × Int × Int × Int × Int × Int × (Arr 4 (UInt64)))) × Int) × (List UInt8) × Int × (Arr 10 (Bool)))), S4 m o1 r → bre_parser_escape_B (fun a0 a1 r => ∃ m', m' < m ∧ S1 m' a0 a1 r) (fun a0 a1 r => ∃ m', m' < m ∧ S2 m' a0 a1 r) (fun a0 r => ∃ m', m' < m ∧ S3 m' a0 r) (fun a0 r => ∃ m', m' < m ∧ S4 m' a0 r) (fun a0 r => ∃ m', m' < m ∧ S5 m' a0 r) o1 r) ∧ (∀ (m : Nat) (o1 : ((List (Int × Int × Int × Int × Int × Int × (Arr 4 (UInt64)))) × Int) × (List UInt8) × Int × (Arr 10 (Bool))) (r : Int × (List (Int × Int)) × (((List (Int × Int × Int × Int × Int × Int × (Arr 4 (UInt64)))) × Int) × (List UInt8) × Int × (Arr 10 (Bool)))), S5 m o1 r → bre_parser_group_B (fun a0 a1 r => ∃ m', m' < m ∧ S1 m' a0 a1 r) (fun a0 a1 r => ∃ m', m' < m ∧ S2 m' a0 a1 r) (fun a0 r => ∃ m', m' < m ∧ S3 m' a0 r) (fun a0 r => ∃ m', m' < m ∧ S4 m' a0 r) (fun a0 r => ∃ m', m' < m ∧ S5 m' a0 r) o1 r)
def bre_parser_branch_R (o1 : ((List (Int × Int × Int × Int × Int × Int × (Arr 4 (UInt64)))) × Int) × (List UInt8) × Int × (Arr 10 (Bool))) (x3 : Bool) (r : Int × (List (Int × Int)) × (((List (Int × Int × Int × Int × Int × Int × (Arr 4 (UInt64)))) × Int) × (List UInt8) × Int × (Arr 10 (Bool)))) : Prop := ∃ (S1 : Nat → (((List (Int × Int × Int × Int × Int × Int × (Arr 4 (UInt64)))) × Int) × (List UInt8) × Int × (Arr 10 (Bool))) → (Bool) → (Int × (List (Int × Int)) × (((List (Int × Int × Int × Int × Int × Int × (Arr 4 (UInt64)))) × Int) × (List UInt8) × Int × (Arr 10 (Bool)))) → Prop) (S2 : Nat → (((List (Int × Int × Int × Int × Int × Int × (Arr 4 (UInt64)))) × Int) × (List UInt8) × Int × (Arr 10 (Bool))) → (Bool) → (Int × (List (Int × Int)) × (((List (Int × Int × Int × Int × Int × Int × (Arr 4 (UInt64)))) × Int) × (List UInt8) × Int × (Arr 10 (Bool)))) → Prop) (S3 : Nat → (((List (Int × Int × Int × Int × Int × Int × (Arr 4 (UInt64)))) × Int) × (List UInt8) × Int × (Arr 10 (Bool))) → (Int × (List (Int × Int)) × (((List (Int × Int × Int × Int × Int × Int × (Arr 4 (UInt64)))) × Int) × (List UInt8) × Int × (Arr 10 (Bool)))) → Prop) (S4 : Nat → (((List (Int × Int × Int × Int × Int × Int × (Arr 4 (UInt64)))) × Int) × (List UInt8) × Int × (Arr 10 (Bool))) → (Int × (List (Int × Int)) × (((List (Int × Int × Int × Int × Int × Int × (Arr 4 (UInt64)))) × Int) × (List UInt8) × Int × (Arr 10 (Bool)))) → Prop) (S5 : Nat → (((List (Int × Int × Int × Int × Int × Int × (Arr 4 (UInt64)))) × Int) × (List UInt8) × Int × (Arr 10 (Bool))) → (Int × (List (Int × Int)) × (((List (Int × Int × Int × Int × Int × Int × (Arr 4 (UInt64)))) × Int) × (List UInt8) × Int × (Arr 10 (Bool)))) → Prop), rec_bre_parser_branch_H S1 S2 S3 S4 S5 ∧ ∃ m : Nat, S1 m o1 x3 r
def bre_parser_branch_j2_ev (fuel : Nat) (x3 : Bool) (x144 : List Int) (f146 : List (Int × Int × Int × Int × Int × Int × (Arr 4 (UInt64)))) (f148 : Int) (f149 : List UInt8) (f150 : Int) (f151 : Arr 10 (Bool)) : Option (Int × (List (Int × Int)) × (((List (Int × Int × Int × Int × Int × Int × (Arr 4 (UInt64)))) × Int) × (List UInt8) × Int × (Arr 10 (Bool)))) :=
 (if (x3 == (decide (f150 = (f149.length : Int)))) = true then ((bre_parser_fail_ev fuel ((f146, f148), f149, f150, f151) 14).bind fun y271 => some (0, y271, ((f146, f148), f149, f150, f151))) else ((tree_Builder_Cat_ev fuel ((f146, f148), f149, f150, f151) x144).bind fun y273 => (if y273.1 < 0 then ((bre_parser_fail_ev fuel ((y273.2.1.1, y273.2.1.2), y273.2.2.1, y273.2.2.2.1, y273.2.2.2.2) 8).bind fun y282 => some (0, y282, ((y273.2.1.1, y273.2.1.2), y273.2.2.1, y273.2.2.2.1, y273.2.2.2.2))) else some (y273.1, ([] : List (Int × Int)), ((y273.2.1.1, y273.2.1.2), y273.2.2.1, y273.2.2.2.1, y273.2.2.2.2)))))
theorem bre_parser_branch_j2_ok {fuel : Nat} {x3 : Bool} {x144 : List Int} {f146 : List (Int × Int × Int × Int × Int × Int × (Arr 4 (UInt64)))} {f148 : Int} {f149 : List UInt8} {f150 : Int} {f151 : Arr 10 (Bool)} {r : Int × (List (Int × Int)) × (((List (Int × Int × Int × Int × Int × Int × (Arr 4 (UInt64)))) × Int) × (List UInt8) × Int × (Arr 10 (Bool)))} (h : bre_parser_branch_j2_ev fuel x3 x144 f146 f148 f149 f150 f151 = some r) : bre_parser_branch_j2 x3 x144 f146 f148 f149 f150 f151 r := by
 unfold bre_parser_branch_j2_ev at h
 unfold bre_parser_branch_j2
 refine ⟨fun g283 => ?_, fun g283 => ?_⟩
 ·rw [if_pos g283] at h
  obtain ⟨q284, g284, h⟩ := bind_ok h
  refine ⟨q284, bre_parser_fail_ok g284, ?_⟩
  exact (Option.some.inj h).symm
 ·rw [if_neg g283] at h
  obtain ⟨q285, g285, h⟩ := bind_ok h
  refine ⟨q285, tree_Builder_Cat_ok g285, ?_⟩
  refine ⟨fun g286 => ?_, fun g286 => ?_⟩
  ·rw [if_pos g286] at h
   obtain ⟨q287, g287, h⟩ := bind_ok h
   refine ⟨q287, bre_parser_fail_ok g287, ?_⟩
   exact (Option.some.inj h).symm
  ·rw [if_neg g286] at h
   exact (Option.some.inj h).symm
def bre_parser_branch_l3_ev (fuel : Nat) (c_bre_parser_piecee : (((List (Int × Int × Int × Int × Int × Int × (Arr 4 (UInt64)))) × Int) × (List UInt8) × Int × (Arr 10 (Bool))) → (Bool) → Option (Int × (List (Int × Int)) × (((List (Int × Int × Int × Int × Int × Int × (Arr 4 (UInt64)))) × Int) × (List UInt8) × Int × (Arr 10 (Bool))))) (x3 : Bool) (ag3e : ((List Int) × Bool × (List (Int × Int × Int × Int × Int × Int × (Arr 4 (UInt64)))) × Int × (List UInt8) × Int × (Arr 10 (Bool))) → Option (Int × (List (Int × Int)) × (((List (Int × Int × Int × Int × Int × Int × (Arr 4 (UInt64)))) × Int) × (List UInt8) × Int × (Arr 10 (Bool))))) (x183 : List Int) (x185 : Bool) (f186 : List (Int × Int × Int × Int × Int × Int × (Arr 4 (UInt64)))) (f188 : Int) (f189 : List UInt8) (f190 : Int) (f191 : Arr 10 (Bool)) : Option (Int × (List (Int × Int)) × (((List (Int × Int × Int × Int × Int × Int × (Arr 4 (UInt64)))) × Int) × (List UInt8) × Int × (Arr 10 (Bool)))) :=
 (if f190 < (f189.length : Int) then ((bre_parser_has_ev fuel ((f186, f188), f189, f190, f191) (⟨#[92, 41]⟩ : ByteArray)).bind fun y243 => (if ¬ (y243 = true) then ((c_bre_parser_piecee ((f186, f188), f189, f190, f191) x185).bind fun y246 => (if ¬ ((List.isEmpty y246.2.1) = true) then some (0, y246.2.1, ((y246.2.2.1.1, y246.2.2.1.2), y246.2.2.2.1, y246.2.2.2.2.1, y246.2.2.2.2.2)) else (if Room (x183.length + ([y246.1]).length) 8 then ag3e ((x183 ++ [y246.1]), false, y246.2.2.1.1, y246.2.2.1.2, y246.2.2.2.1, y246.2.2.2.2.1, y246.2.2.2.2.2) else none))) else bre_parser_branch_j2_ev fuel x3 x183 f186 f188 f189 f190 f191)) else bre_parser_branch_j2_ev fuel x3 x183 f186 f188 f189 f190 f191)
theorem bre_parser_branch_l3_ok {fuel : Nat} {c_bre_parser_piece : (((List (Int × Int × Int × Int × Int × Int × (Arr 4 (UInt64)))) × Int) × (List UInt8) × Int × (Arr 10 (Bool))) → (Bool) → (Int × (List (Int × Int)) × (((List (Int × Int × Int × Int × Int × Int × (Arr 4 (UInt64)))) × Int) × (List UInt8) × Int × (Arr 10 (Bool)))) → Prop} {c_bre_parser_piecee : (((List (Int × Int × Int × Int × Int × Int × (Arr 4 (UInt64)))) × Int) × (List UInt8) × Int × (Arr 10 (Bool))) → (Bool) → Option (Int × (List (Int × Int)) × (((List (Int × Int × Int × Int × Int × Int × (Arr 4 (UInt64)))) × Int) × (List UInt8) × Int × (Arr 10 (Bool))))} {x3 : Bool} {ag3e : ((List Int) × Bool × (List (Int × Int × Int × Int × Int × Int × (Arr 4 (UInt64)))) × Int × (List UInt8) × Int × (Arr 10 (Bool))) → Option (Int × (List (Int × Int)) × (((List (Int × Int × Int × Int × Int × Int × (Arr 4 (UInt64)))) × Int) × (List UInt8) × Int × (Arr 10 (Bool))))} {ag3 : ((List Int) × Bool × (List (Int × Int × Int × Int × Int × Int × (Arr 4 (UInt64)))) × Int × (List UInt8) × Int × (Arr 10 (Bool))) → Prop} {x183 : List Int} {x185 : Bool} {f186 : List (Int × Int × Int × Int × Int × Int × (Arr 4 (UInt64)))} {f188 : Int} {f189 : List UInt8} {f190 : Int} {f191 : Arr 10 (Bool)} {r : Int × (List (Int × Int)) × (((List (Int × Int × Int × Int × Int × Int × (Arr 4 (UInt64)))) × Int) × (List UInt8) × Int × (Arr 10 (Bool)))} (hagc_bre_parser_piece : ∀ a0 a1 q, c_bre_parser_piecee a0 a1 = some q → c_bre_parser_piece a0 a1 q) (hagag3 : ∀ s, ag3e s = some r → ag3 s) (h : bre_parser_branch_l3_ev fuel c_bre_parser_piecee x3 ag3e x183 x185 f186 f188 f189 f190 f191 = some r) : bre_parser_branch_l3 c_bre_parser_piece x3 ag3 x183 x185 f186 f188 f189 f190 f191 r := by
 unfold bre_parser_branch_l3_ev at h
 unfold bre_parser_branch_l3
 refine ⟨fun g288 => ?_, fun g288 => ?_⟩
 ·rw [if_pos g288] at h
  obtain ⟨q289, g289, h⟩ := bind_ok h
  refine ⟨q289, bre_parser_has_ok g289, ?_⟩
  refine ⟨fun g290 => ?_, fun g290 => ?_⟩
  ·rw [if_pos g290] at h
   obtain ⟨q291, g291, h⟩ := bind_ok h
   refine ⟨q291, hagc_bre_parser_piece _ _ _ g291, ?_⟩
   refine ⟨fun g292 => ?_, fun g292 => ?_⟩
   ·rw [if_pos g292] at h
    exact (Option.some.inj h).symm
   ·rw [if_neg g292] at h
    obtain ⟨g293, h⟩ := if_ok h
    refine ⟨g293, ?_⟩
    exact hagag3 _ h
  ·rw [if_neg g290] at h
   exact bre_parser_branch_j2_ok h
 ·rw [if_neg g288] at h
  exact bre_parser_branch_j2_ok h
def bre_parser_branch_j1_ev (fuel : Nat) (c_bre_parser_piecee : (((List (Int × Int × Int × Int × Int × Int × (Arr 4 (UInt64)))) × Int) × (List UInt8) × Int × (Arr 10 (Bool))) → (Bool) → Option (Int × (List (Int × Int)) × (((List (Int × Int × Int × Int × Int × Int × (Arr 4 (UInt64)))) × Int) × (List UInt8) × Int × (Arr 10 (Bool))))) (x3 : Bool) (x19 : List Int) (f21 : List (Int × Int × Int × Int × Int × Int × (Arr 4 (UInt64)))) (f23 : Int) (f24 : List UInt8) (f25 : Int) (f26 : Arr 10 (Bool)) : Option (Int × (List (Int × Int)) × (((List (Int × Int × Int × Int × Int × Int × (Arr 4 (UInt64)))) × Int) × (List UInt8) × Int × (Arr 10 (Bool)))) :=
 (loopE (fun ag3e s => bre_parser_branch_l3_ev fuel c_bre_parser_piecee x3 ag3e s.1 s.2.1 s.2.2.1 s.2.2.2.1 s.2.2.2.2.1 s.2.2.2.2.2.1 s.2.2.2.2.2.2) fuel (x19, true, f21, f23, f24, f25, f26))
theorem bre_parser_branch_j1_ok {fuel : Nat} {c_bre_parser_piece : (((List (Int × Int × Int × Int × Int × Int × (Arr 4 (UInt64)))) × Int) × (List UInt8) × Int × (Arr 10 (Bool))) → (Bool) → (Int × (List (Int × Int)) × (((List (Int × Int × Int × Int × Int × Int × (Arr 4 (UInt64)))) × Int) × (List UInt8) × Int × (Arr 10 (Bool)))) → Prop} {c_bre_parser_piecee : (((List (Int × Int × Int × Int × Int × Int × (Arr 4 (UInt64)))) × Int) × (List UInt8) × Int × (Arr 10 (Bool))) → (Bool) → Option (Int × (List (Int × Int)) × (((List (Int × Int × Int × Int × Int × Int × (Arr 4 (UInt64)))) × Int) × (List UInt8) × Int × (Arr 10 (Bool))))} {x3 : Bool} {x19 : List Int} {f21 : List (Int × Int × Int × Int × Int × Int × (Arr 4 (UInt64)))} {f23 : Int} {f24 : List UInt8} {f25 : Int} {f26 : Arr 10 (Bool)} {r : Int × (List (Int × Int)) × (((List (Int × Int × Int × Int × Int × Int × (Arr 4 (UInt64)))) × Int) × (List UInt8) × Int × (Arr 10 (Bool)))} (hagc_bre_parser_piece : ∀ a0 a1 q, c_bre_parser_piecee a0 a1 = some q → c_bre_parser_piece a0 a1 q) (h : bre_parser_branch_j1_ev fuel c_bre_parser_piecee x3 x19 f21 f23 f24 f25 f26 = some r) : bre_parser_branch_j1 c_bre_parser_piece x3 x19 f21 f23 f24 f25 f26 r := by
 unfold bre_parser_branch_j1_ev at h
 unfold bre_parser_branch_j1
 refine loopE_ok ?_ h
 intro ae ag s hag h
 exact bre_parser_branch_l3_ok hagc_bre_parser_piece hag h
def bre_parser_branch_Be (fuel : Nat) (c_bre_parser_branche : (((List (Int × Int × Int × Int × Int × Int × (Arr 4 (UInt64)))) × Int) × (List UInt8) × Int × (Arr 10 (Bool))) → (Bool) → Option (Int × (List (Int × Int)) × (((List (Int × Int × Int × Int × Int × Int × (Arr 4 (UInt64)))) × Int) × (List UInt8) × Int × (Arr 10 (Bool))))) (c_bre_parser_piecee : (((List (Int × Int × Int × Int × Int × Int × (Arr 4 (UInt64)))) × Int) × (List UInt8) × Int × (Arr 10 (Bool))) → (Bool) → Option (Int × (List (Int × Int)) × (((List (Int × Int × Int × Int × Int × Int × (Arr 4 (UInt64)))) × Int) × (List UInt8) × Int × (Arr 10 (Bool))))) (c_bre_parser_atome : (((List (Int × Int × Int × Int × Int × Int × (Arr 4 (UInt64)))) × Int) × (List UInt8) × Int × (Arr 10 (Bool))) → Option (Int × (List (Int × Int)) × (((List (Int × Int × Int × Int × Int × Int × (Arr 4 (UInt64)))) × Int) × (List UInt8) × Int × (Arr 10 (Bool))))) (c_bre_parser_escapee : (((List (Int × Int × Int × Int × Int × Int × (Arr 4 (UInt64)))) × Int) × (List UInt8) × Int × (Arr 10 (Bool))) → Option (Int × (List (Int × Int)) × (((List (Int × Int × Int × Int × Int × Int × (Arr 4 (UInt64)))) × Int) × (List UInt8) × Int × (Arr 10 (Bool))))) (c_bre_parser_groupe : (((List (Int × Int × Int × Int × Int × Int × (Arr 4 (UInt64)))) × Int) × (List UInt8) × Int × (Arr 10 (Bool))) → Option (Int × (List (Int × Int)) × (((List (Int × Int × Int × Int × Int × Int × (Arr 4 (UInt64)))) × Int) × (List UInt8) × Int × (Arr 10 (Bool))))) (o1 : ((List (Int × Int × Int × Int × Int × Int × (Arr 4 (UInt64)))) × Int) × (List UInt8) × Int × (Arr 10 (Bool))) (x3 : Bool) : Option (Int × (List (Int × Int)) × (((List (Int × Int × Int × Int × Int × Int × (Arr 4 (UInt64)))) × Int) × (List UInt8) × Int × (Arr 10 (Bool)))) :=
 ((bre_parser_has_ev fuel ((o1.1.1, o1.1.2), o1.2.1, o1.2.2.1, o1.2.2.2) (⟨#[94]⟩ : ByteArray)).bind fun y28 => (if y28 = true then (if InR (o1.2.2.1 + 1) then ((tree_Builder_Bol_ev fuel ((o1.1.1, o1.1.2), o1.2.1, (o1.2.2.1 + 1), o1.2.2.2)).bind fun y32 => (if Room (([y32.1]).length) 8 then (if 0 ≤ (0 : Int) then ((([y32.1])[(0 : Int).toNat]?).bind fun y36 => (if y36 < 0 then ((bre_parser_fail_ev fuel ((y32.2.1.1, y32.2.1.2), y32.2.2.1, y32.2.2.2.1, y32.2.2.2.2) 8).bind fun y41 => some (0, y41, ((y32.2.1.1, y32.2.1.2), y32.2.2.1, y32.2.2.2.1, y32.2.2.2.2))) else bre_parser_branch_j1_ev fuel c_bre_parser_piecee x3 ([y32.1]) y32.2.1.1 y32.2.1.2 y32.2.2.1 y32.2.2.2.1 y32.2.2.2.2)) else none) else none)) else none) else bre_parser_branch_j1_ev fuel c_bre_parser_piecee x3 ([] : List Int) o1.1.1 o1.1.2 o1.2.1 o1.2.2.1 o1.2.2.2))
theorem bre_parser_branch_Bok {fuel : Nat} {c_bre_parser_branch : (((List (Int × Int × Int × Int × Int × Int × (Arr 4 (UInt64)))) × Int) × (List UInt8) × Int × (Arr 10 (Bool))) → (Bool) → (Int × (List (Int × Int)) × (((List (Int × Int × Int × Int × Int × Int × (Arr 4 (UInt64)))) × Int) × (List UInt8) × Int × (Arr 10 (Bool)))) → Prop} {c_bre_parser_branche : (((List (Int × Int × Int × Int × Int × Int × (Arr 4 (UInt64)))) × Int) × (List UInt8) × Int × (Arr 10 (Bool))) → (Bool) → Option (Int × (List (Int × Int)) × (((List (Int × Int × Int × Int × Int × Int × (Arr 4 (UInt64)))) × Int) × (List UInt8) × Int × (Arr 10 (Bool))))} {c_bre_parser_piece : (((List (Int × Int × Int × Int × Int × Int × (Arr 4 (UInt64)))) × Int) × (List UInt8) × Int × (Arr 10 (Bool))) → (Bool) → (Int × (List (Int × Int)) × (((List (Int × Int × Int × Int × Int × Int × (Arr 4 (UInt64)))) × Int) × (List UInt8) × Int × (Arr 10 (Bool)))) → Prop} {c_bre_parser_piecee : (((List (Int × Int × Int × Int × Int × Int × (Arr 4 (UInt64)))) × Int) × (List UInt8) × Int × (Arr 10 (Bool))) → (Bool) → Option (Int × (List (Int × Int)) × (((List (Int × Int × Int × Int × Int × Int × (Arr 4 (UInt64)))) × Int) × (List UInt8) × Int × (Arr 10 (Bool))))} {c_bre_parser_atom : (((List (Int × Int × Int × Int × Int × Int × (Arr 4 (UInt64)))) × Int) × (List UInt8) × Int × (Arr 10 (Bool))) → (Int × (List (Int × Int)) × (((List (Int × Int × Int × Int × Int × Int × (Arr 4 (UInt64)))) × Int) × (List UInt8) × Int × (Arr 10 (Bool)))) → Prop} {c_bre_parser_atome : (((List (Int × Int × Int × Int × Int × Int × (Arr 4 (UInt64)))) × Int) × (List UInt8) × Int × (Arr 10 (Bool))) → Option (Int × (List (Int × Int)) × (((List (Int × Int × Int × Int × Int × Int × (Arr 4 (UInt64)))) × Int) × (List UInt8) × Int × (Arr 10 (Bool))))} {c_bre_parser_escape : (((List (Int × Int × Int × Int × Int × Int × (Arr 4 (UInt64)))) × Int) × (List UInt8) × Int × (Arr 10 (Bool))) → (Int × (List (Int × Int)) × (((List (Int × Int × Int × Int × Int × Int × (Arr 4 (UInt64)))) × Int) × (List UInt8) × Int × (Arr 10 (Bool)))) → Prop} {c_bre_parser_escapee : (((List (Int × Int × Int × Int × Int × Int × (Arr 4 (UInt64)))) × Int) × (List UInt8) × Int × (Arr 10 (Bool))) → Option (Int × (List (Int × Int)) × (((List (Int × Int × Int × Int × Int × Int × (Arr 4 (UInt64)))) × Int) × (List UInt8) × Int × (Arr 10 (Bool))))} {c_bre_parser_group : (((List (Int × Int × Int × Int × Int × Int × (Arr 4 (UInt64)))) × Int) × (List UInt8) × Int × (Arr 10 (Bool))) → (Int × (List (Int × Int)) × (((List (Int × Int × Int × Int × Int × Int × (Arr 4 (UInt64)))) × Int) × (List UInt8) × Int × (Arr 10 (Bool)))) → Prop} {c_bre_parser_groupe : (((List (Int × Int × Int × Int × Int × Int × (Arr 4 (UInt64)))) × Int) × (List UInt8) × Int × (Arr 10 (Bool))) → Option (Int × (List (Int × Int)) × (((List (Int × Int × Int × Int × Int × Int × (Arr 4 (UInt64)))) × Int) × (List UInt8) × Int × (Arr 10 (Bool))))} {o1 : ((List (Int × Int × Int × Int × Int × Int × (Arr 4 (UInt64)))) × Int) × (List UInt8) × Int × (Arr 10 (Bool))} {x3 : Bool} {r : Int × (List (Int × Int)) × (((List (Int × Int × Int × Int × Int × Int × (Arr 4 (UInt64)))) × Int) × (List UInt8) × Int × (Arr 10 (Bool)))} (hagc_bre_parser_branch : ∀ a0 a1 q, c_bre_parser_branche a0 a1 = some q → c_bre_parser_branch a0 a1 q) (hagc_bre_parser_piece : ∀ a0 a1 q, c_bre_parser_piecee a0 a1 = some q → c_bre_parser_piece a0 a1 q) (hagc_bre_parser_atom : ∀ a0 q, c_bre_parser_atome a0 = some q → c_bre_parser_atom a0 q) (hagc_bre_parser_escape : ∀ a0 q, c_bre_parser_escapee a0 = some q → c_bre_parser_escape a0 q) (hagc_bre_parser_group : ∀ a0 q, c_bre_parser_groupe a0 = some q → c_bre_parser_group a0 q) (h : bre_parser_branch_Be fuel c_bre_parser_branche c_bre_parser_piecee c_bre_parser_atome c_bre_parser_escapee c_bre_parser_groupe o1 x3 = some r) : bre_parser_branch_B c_bre_parser_branch c_bre_parser_piece c_bre_parser_atom c_bre_parser_escape c_bre_parser_group o1 x3 r := by
 unfold bre_parser_branch_Be at h
 unfold bre_parser_branch_B
 obtain ⟨q294, g294, h⟩ := bind_ok h
 refine ⟨q294, bre_parser_has_ok g294, ?_⟩
 refine ⟨fun g295 => ?_, fun g295 => ?_⟩
 ·rw [if_pos g295] at h
  obtain ⟨g296, h⟩ := if_ok h
  refine ⟨g296, ?_⟩
  obtain ⟨q297, g297, h⟩ := bind_ok h
  refine ⟨q297, tree_Builder_Bol_ok g297, ?_⟩
  obtain ⟨g298, h⟩ := if_ok h
  refine ⟨g298, ?_⟩
  obtain ⟨g299, h⟩ := if_ok h
  refine ⟨g299, ?_⟩
  obtain ⟨q300, g300, h⟩ := bind_ok h
  refine ⟨q300, g300, ?_⟩
  refine ⟨fun g301 => ?_, fun g301 => ?_⟩
  ·rw [if_pos g301] at h
   obtain ⟨q302, g302, h⟩ := bind_ok h
   refine ⟨q302, bre_parser_fail_ok g302, ?_⟩
   exact (Option.some.inj h).symm
  ·rw [if_neg g301] at h
   exact bre_parser_branch_j1_ok hagc_bre_parser_piece h
 ·rw [if_neg g295] at h
  exact bre_parser_branch_j1_ok hagc_bre_parser_piece h
def bre_parser_piece_j6_ev (fuel : Nat) (k240 : Int) (f242 : List (Int × Int × Int × Int × Int × Int × (Arr 4 (UInt64)))) (f244 : Int) (f245 : List UInt8) (f246 : Int) (f247 : Arr 10 (Bool)) (w344 : List (Int × Int)) : Option (Int × (List (Int × Int)) × (((List (Int × Int × Int × Int × Int × Int × (Arr 4 (UInt64)))) × Int) × (List UInt8) × Int × (Arr 10 (Bool)))) :=
 some (k240, w344, ((f242, f244), f245, f246, f247))
theorem bre_parser_piece_j6_ok {fuel : Nat} {k240 : Int} {f242 : List (Int × Int × Int × Int × Int × Int × (Arr 4 (UInt64)))} {f244 : Int} {f245 : List UInt8} {f246 : Int} {f247 : Arr 10 (Bool)} {w344 : List (Int × Int)} {r : Int × (List (Int × Int)) × (((List (Int × Int × Int × Int × Int × Int × (Arr 4 (UInt64)))) × Int) × (List UInt8) × Int × (Arr 10 (Bool)))} (h : bre_parser_piece_j6_ev fuel k240 f242 f244 f245 f246 f247 w344 = some r) : bre_parser_piece_j6 k240 f242 f244 f245 f246 f247 w344 r := by
 unfold bre_parser_piece_j6_ev at h
 unfold bre_parser_piece_j6
 exact (Option.some.inj h).symm
def bre_parser_piece_j7_ev (fuel : Nat) (f242 : List (Int × Int × Int × Int × Int × Int × (Arr 4 (UInt64)))) (f244 : Int) (f245 : List UInt8) (f246 : Int) (f247 : Arr 10 (Bool)) (k240 : Int) (w241 : List (Int × Int)) (x348 : Bool) : Option (Int × (List (Int × Int)) × (((List (Int × Int × Int × Int × Int × Int × (Arr 4 (UInt64)))) × Int) × (List UInt8) × Int × (Arr 10 (Bool)))) :=
 (if x348 = true then ((bre_parser_fail_ev fuel ((f242, f244), f245, f246, f247) 8).bind fun y354 => bre_parser_piece_j6_ev fuel k240 f242 f244 f245 f246 f247 y354) else bre_parser_piece_j6_ev fuel k240 f242 f244 f245 f246 f247 w241)
theorem bre_parser_piece_j7_ok {fuel : Nat} {f242 : List (Int × Int × Int × Int × Int × Int × (Arr 4 (UInt64)))} {f244 : Int} {f245 : List UInt8} {f246 : Int} {f247 : Arr 10 (Bool)} {k240 : Int} {w241 : List (Int × Int)} {x348 : Bool} {r : Int × (List (Int × Int)) × (((List (Int × Int × Int × Int × Int × Int × (Arr 4 (UInt64)))) × Int) × (List UInt8) × Int × (Arr 10 (Bool)))} (h : bre_parser_piece_j7_ev fuel f242 f244 f245 f246 f247 k240 w241 x348 = some r) : bre_parser_piece_j7 f242 f244 f245 f246 f247 k240 w241 x348 r := by
 unfold bre_parser_piece_j7_ev at h
 unfold bre_parser_piece_j7
 refine ⟨fun g303 => ?_, fun g303 => ?_⟩
 ·rw [if_pos g303] at h
  obtain ⟨q304, g304, h⟩ := bind_ok h
  refine ⟨q304, bre_parser_fail_ok g304, ?_⟩
  exact bre_parser_piece_j6_ok h
 ·rw [if_neg g303] at h
  exact bre_parser_piece_j6_ok h
def bre_parser_piece_j5_ev (fuel : Nat) (f242 : List (Int × Int × Int × Int × Int × Int × (Arr 4 (UInt64)))) (f244 : Int) (f245 : List UInt8) (f246 : Int) (f247 : Arr 10 (Bool)) (k240 : Int) (ag4e : (Int × (List (Int × Int)) × (List (Int × Int × Int × Int × Int × Int × (Arr 4 (UInt64)))) × Int × (List UInt8) × Int × (Arr 10 (Bool))) → Option (Int × (List (Int × Int)) × (((List (Int × Int × Int × Int × Int × Int × (Arr 4 (UInt64)))) × Int) × (List UInt8) × Int × (Arr 10 (Bool))))) (w241 : List (Int × Int)) (x320 : Bool) : Option (Int × (List (Int × Int)) × (((List (Int × Int × Int × Int × Int × Int × (Arr 4 (UInt64)))) × Int) × (List UInt8) × Int × (Arr 10 (Bool)))) :=
 (if x320 = true then ((bre_parser_repeat_ev fuel ((f242, f244), f245, f246, f247) k240).bind fun y332 => ag4e (y332.1, y332.2.1, y332.2.2.1.1, y332.2.2.1.2, y332.2.2.2.1, y332.2.2.2.2.1, y332.2.2.2.2.2)) else bre_parser_piece_j7_ev fuel f242 f244 f245 f246 f247 k240 w241 ((List.isEmpty w241) && (decide (k240 < 0))))
theorem bre_parser_piece_j5_ok {fuel : Nat} {f242 : List (Int × Int × Int × Int × Int × Int × (Arr 4 (UInt64)))} {f244 : Int} {f245 : List UInt8} {f246 : Int} {f247 : Arr 10 (Bool)} {k240 : Int} {ag4 : (Int × (List (Int × Int)) × (List (Int × Int × Int × Int × Int × Int × (Arr 4 (UInt64)))) × Int × (List UInt8) × Int × (Arr 10 (Bool))) → Prop} {ag4e : (Int × (List (Int × Int)) × (List (Int × Int × Int × Int × Int × Int × (Arr 4 (UInt64)))) × Int × (List UInt8) × Int × (Arr 10 (Bool))) → Option (Int × (List (Int × Int)) × (((List (Int × Int × Int × Int × Int × Int × (Arr 4 (UInt64)))) × Int) × (List UInt8) × Int × (Arr 10 (Bool))))} {w241 : List (Int × Int)} {x320 : Bool} {r : Int × (List (Int × Int)) × (((List (Int × Int × Int × Int × Int × Int × (Arr 4 (UInt64)))) × Int) × (List UInt8) × Int × (Arr 10 (Bool)))} (hagag4 : ∀ s, ag4e s = some r → ag4 s) (h : bre_parser_piece_j5_ev fuel f242 f244 f245 f246 f247 k240 ag4e w241 x320 = some r) : bre_parser_piece_j5 f242 f244 f245 f246 f247 k240 ag4 w241 x320 r := by
 unfold bre_parser_piece_j5_ev at h
 unfold bre_parser_piece_j5
 refine ⟨fun g305 => ?_, fun g305 => ?_⟩
 ·rw [if_pos g305] at h
  obtain ⟨q306, g306, h⟩ := bind_ok h
  refine ⟨q306, bre_parser_repeat_ok g306, ?_⟩
  exact hagag4 _ h
 ·rw [if_neg g305] at h
  exact bre_parser_piece_j7_ok h
def bre_parser_piece_l4_ev (fuel : Nat) (ag4e : (Int × (List (Int × Int)) × (List (Int × Int × Int × Int × Int × Int × (Arr 4 (UInt64)))) × Int × (List UInt8) × Int × (Arr 10 (Bool))) → Option (Int × (List (Int × Int)) × (((List (Int × Int × Int × Int × Int × Int × (Arr 4 (UInt64)))) × Int) × (List UInt8) × Int × (Arr 10 (Bool))))) (k240 : Int) (w241 : List (Int × Int)) (f242 : List (Int × Int × Int × Int × Int × Int × (Arr 4 (UInt64)))) (f244 : Int) (f245 : List UInt8) (f246 : Int) (f247 : Arr 10 (Bool)) : Option (Int × (List (Int × Int)) × (((List (Int × Int × Int × Int × Int × Int × (Arr 4 (UInt64)))) × Int) × (List UInt8) × Int × (Arr 10 (Bool)))) :=
 (if (List.isEmpty w241) = true then (if 0 ≤ k240 then ((bre_parser_has_ev fuel ((f242, f244), f245, f246, f247) (⟨#[42]⟩ : ByteArray)).bind fun y326 => (if y326 = true then bre_parser_piece_j5_ev fuel f242 f244 f245 f246 f247 k240 ag4e w241 true else ((bre_parser_has_ev fuel ((f242, f244), f245, f246, f247) (⟨#[92, 123]⟩ : ByteArray)).bind fun y329 => bre_parser_piece_j5_ev fuel f242 f244 f245 f246 f247 k240 ag4e w241 y329))) else bre_parser_piece_j5_ev fuel f242 f244 f245 f246 f247 k240 ag4e w241 false) else bre_parser_piece_j5_ev fuel f242 f244 f245 f246 f247 k240 ag4e w241 false)
theorem bre_parser_piece_l4_ok {fuel : Nat} {ag4e : (Int × (List (Int × Int)) × (List (Int × Int × Int × Int × Int × Int × (Arr 4 (UInt64)))) × Int × (List UInt8) × Int × (Arr 10 (Bool))) → Option (Int × (List (Int × Int)) × (((List (Int × Int × Int × Int × Int × Int × (Arr 4 (UInt64)))) × Int) × (List UInt8) × Int × (Arr 10 (Bool))))} {ag4 : (Int × (List (Int × Int)) × (List (Int × Int × Int × Int × Int × Int × (Arr 4 (UInt64)))) × Int × (List UInt8) × Int × (Arr 10 (Bool))) → Prop} {k240 : Int} {w241 : List (Int × Int)} {f242 : List (Int × Int × Int × Int × Int × Int × (Arr 4 (UInt64)))} {f244 : Int} {f245 : List UInt8} {f246 : Int} {f247 : Arr 10 (Bool)} {r : Int × (List (Int × Int)) × (((List (Int × Int × Int × Int × Int × Int × (Arr 4 (UInt64)))) × Int) × (List UInt8) × Int × (Arr 10 (Bool)))} (hagag4 : ∀ s, ag4e s = some r → ag4 s) (h : bre_parser_piece_l4_ev fuel ag4e k240 w241 f242 f244 f245 f246 f247 = some r) : bre_parser_piece_l4 ag4 k240 w241 f242 f244 f245 f246 f247 r := by
 unfold bre_parser_piece_l4_ev at h
 unfold bre_parser_piece_l4
 refine ⟨fun g307 => ?_, fun g307 => ?_⟩
 ·rw [if_pos g307] at h
  refine ⟨fun g308 => ?_, fun g308 => ?_⟩
  ·rw [if_pos g308] at h
   obtain ⟨q309, g309, h⟩ := bind_ok h
   refine ⟨q309, bre_parser_has_ok g309, ?_⟩
   refine ⟨fun g310 => ?_, fun g310 => ?_⟩
   ·rw [if_pos g310] at h
    exact bre_parser_piece_j5_ok hagag4 h
   ·rw [if_neg g310] at h
    obtain ⟨q311, g311, h⟩ := bind_ok h
    refine ⟨q311, bre_parser_has_ok g311, ?_⟩
    exact bre_parser_piece_j5_ok hagag4 h
  ·rw [if_neg g308] at h
   exact bre_parser_piece_j5_ok hagag4 h
 ·rw [if_neg g307] at h
  exact bre_parser_piece_j5_ok hagag4 h
def bre_parser_piece_j2_ev (fuel : Nat) (k38 : Int) (w39 : List (Int × Int)) (f40 : List (Int × Int × Int × Int × Int × Int × (Arr 4 (UInt64)))) (f42 : Int) (f43 : List UInt8) (f44 : Int) (f45 : Arr 10 (Bool)) : Option (Int × (List (Int × Int)) × (((List (Int × Int × Int × Int × Int × Int × (Arr 4 (UInt64)))) × Int) × (List UInt8) × Int × (Arr 10 (Bool)))) :=
 (loopE (fun ag4e s => bre_parser_piece_l4_ev fuel ag4e s.1 s.2.1 s.2.2.1 s.2.2.2.1 s.2.2.2.2.1 s.2.2.2.2.2.1 s.2.2.2.2.2.2) fuel (k38, w39, f40, f42, f43, f44, f45))
theorem bre_parser_piece_j2_ok {fuel : Nat} {k38 : Int} {w39 : List (Int × Int)} {f40 : List (Int × Int × Int × Int × Int × Int × (Arr 4 (UInt64)))} {f42 : Int} {f43 : List UInt8} {f44 : Int} {f45 : Arr 10 (Bool)} {r : Int × (List (Int × Int)) × (((List (Int × Int × Int × Int × Int × Int × (Arr 4 (UInt64)))) × Int) × (List UInt8) × Int × (Arr 10 (Bool)))} (h : bre_parser_piece_j2_ev fuel k38 w39 f40 f42 f43 f44 f45 = some r) : bre_parser_piece_j2 k38 w39 f40 f42 f43 f44 f45 r := by
 unfold bre_parser_piece_j2_ev at h
 unfold bre_parser_piece_j2
 refine loopE_ok ?_ h
 intro ae ag s hag h
 exact bre_parser_piece_l4_ok hag h
def bre_parser_piece_j3_ev (fuel : Nat) (o1 : ((List (Int × Int × Int × Int × Int × Int × (Arr 4 (UInt64)))) × Int) × (List UInt8) × Int × (Arr 10 (Bool))) (c_bre_parser_atome : (((List (Int × Int × Int × Int × Int × Int × (Arr 4 (UInt64)))) × Int) × (List UInt8) × Int × (Arr 10 (Bool))) → Option (Int × (List (Int × Int)) × (((List (Int × Int × Int × Int × Int × Int × (Arr 4 (UInt64)))) × Int) × (List UInt8) × Int × (Arr 10 (Bool))))) (x49 : Bool) : Option (Int × (List (Int × Int)) × (((List (Int × Int × Int × Int × Int × Int × (Arr 4 (UInt64)))) × Int) × (List UInt8) × Int × (Arr 10 (Bool)))) :=
 (if x49 = true then ((bre_parser_one_ev fuel ((o1.1.1, o1.1.2), o1.2.1, o1.2.2.1, o1.2.2.2) (42 : UInt8)).bind fun y55 => bre_parser_piece_j2_ev fuel y55.1 ([] : List (Int × Int)) y55.2.1.1 y55.2.1.2 y55.2.2.1 y55.2.2.2.1 y55.2.2.2.2) else ((c_bre_parser_atome ((o1.1.1, o1.1.2), o1.2.1, o1.2.2.1, o1.2.2.2)).bind fun y58 => bre_parser_piece_j2_ev fuel y58.1 y58.2.1 y58.2.2.1.1 y58.2.2.1.2 y58.2.2.2.1 y58.2.2.2.2.1 y58.2.2.2.2.2))
theorem bre_parser_piece_j3_ok {fuel : Nat} {o1 : ((List (Int × Int × Int × Int × Int × Int × (Arr 4 (UInt64)))) × Int) × (List UInt8) × Int × (Arr 10 (Bool))} {c_bre_parser_atom : (((List (Int × Int × Int × Int × Int × Int × (Arr 4 (UInt64)))) × Int) × (List UInt8) × Int × (Arr 10 (Bool))) → (Int × (List (Int × Int)) × (((List (Int × Int × Int × Int × Int × Int × (Arr 4 (UInt64)))) × Int) × (List UInt8) × Int × (Arr 10 (Bool)))) → Prop} {c_bre_parser_atome : (((List (Int × Int × Int × Int × Int × Int × (Arr 4 (UInt64)))) × Int) × (List UInt8) × Int × (Arr 10 (Bool))) → Option (Int × (List (Int × Int)) × (((List (Int × Int × Int × Int × Int × Int × (Arr 4 (UInt64)))) × Int) × (List UInt8) × Int × (Arr 10 (Bool))))} {x49 : Bool} {r : Int × (List (Int × Int)) × (((List (Int × Int × Int × Int × Int × Int × (Arr 4 (UInt64)))) × Int) × (List UInt8) × Int × (Arr 10 (Bool)))} (hagc_bre_parser_atom : ∀ a0 q, c_bre_parser_atome a0 = some q → c_bre_parser_atom a0 q) (h : bre_parser_piece_j3_ev fuel o1 c_bre_parser_atome x49 = some r) : bre_parser_piece_j3 o1 c_bre_parser_atom x49 r := by
 unfold bre_parser_piece_j3_ev at h
 unfold bre_parser_piece_j3
 refine ⟨fun g312 => ?_, fun g312 => ?_⟩
 ·rw [if_pos g312] at h
  obtain ⟨q313, g313, h⟩ := bind_ok h
  refine ⟨q313, bre_parser_one_ok g313, ?_⟩
  exact bre_parser_piece_j2_ok h
 ·rw [if_neg g312] at h
  obtain ⟨q314, g314, h⟩ := bind_ok h
  refine ⟨q314, hagc_bre_parser_atom _ _ g314, ?_⟩
  exact bre_parser_piece_j2_ok h
def bre_parser_piece_j1_ev (fuel : Nat) (o1 : ((List (Int × Int × Int × Int × Int × Int × (Arr 4 (UInt64)))) × Int) × (List UInt8) × Int × (Arr 10 (Bool))) (first3 : Bool) (c_bre_parser_atome : (((List (Int × Int × Int × Int × Int × Int × (Arr 4 (UInt64)))) × Int) × (List UInt8) × Int × (Arr 10 (Bool))) → Option (Int × (List (Int × Int)) × (((List (Int × Int × Int × Int × Int × Int × (Arr 4 (UInt64)))) × Int) × (List UInt8) × Int × (Arr 10 (Bool))))) (x17 : Bool) : Option (Int × (List (Int × Int)) × (((List (Int × Int × Int × Int × Int × Int × (Arr 4 (UInt64)))) × Int) × (List UInt8) × Int × (Arr 10 (Bool)))) :=
 (if x17 = true then ((bre_parser_fail_ev fuel ((o1.1.1, o1.1.2), o1.2.1, o1.2.2.1, o1.2.2.2) 13).bind fun y23 => some (0, y23, ((o1.1.1, o1.1.2), o1.2.1, o1.2.2.1, o1.2.2.2))) else (if first3 = true then ((bre_parser_has_ev fuel ((o1.1.1, o1.1.2), o1.2.1, o1.2.2.1, o1.2.2.2) (⟨#[42]⟩ : ByteArray)).bind fun y52 => bre_parser_piece_j3_ev fuel o1 c_bre_parser_atome y52) else bre_parser_piece_j3_ev fuel o1 c_bre_parser_atome false))
theorem bre_parser_piece_j1_ok {fuel : Nat} {o1 : ((List (Int × Int × Int × Int × Int × Int × (Arr 4 (UInt64)))) × Int) × (List UInt8) × Int × (Arr 10 (Bool))} {first3 : Bool} {c_bre_parser_atom : (((List (Int × Int × Int × Int × Int × Int × (Arr 4 (UInt64)))) × Int) × (List UInt8) × Int × (Arr 10 (Bool))) → (Int × (List (Int × Int)) × (((List (Int × Int × Int × Int × Int × Int × (Arr 4 (UInt64)))) × Int) × (List UInt8) × Int × (Arr 10 (Bool)))) → Prop} {c_bre_parser_atome : (((List (Int × Int × Int × Int × Int × Int × (Arr 4 (UInt64)))) × Int) × (List UInt8) × Int × (Arr 10 (Bool))) → Option (Int × (List (Int × Int)) × (((List (Int × Int × Int × Int × Int × Int × (Arr 4 (UInt64)))) × Int) × (List UInt8) × Int × (Arr 10 (Bool))))} {x17 : Bool} {r : Int × (List (Int × Int)) × (((List (Int × Int × Int × Int × Int × Int × (Arr 4 (UInt64)))) × Int) × (List UInt8) × Int × (Arr 10 (Bool)))} (hagc_bre_parser_atom : ∀ a0 q, c_bre_parser_atome a0 = some q → c_bre_parser_atom a0 q) (h : bre_parser_piece_j1_ev fuel o1 first3 c_bre_parser_atome x17 = some r) : bre_parser_piece_j1 o1 first3 c_bre_parser_atom x17 r := by
 unfold bre_parser_piece_j1_ev at h
 unfold bre_parser_piece_j1
 refine ⟨fun g315 => ?_, fun g315 => ?_⟩
 ·rw [if_pos g315] at h
  obtain ⟨q316, g316, h⟩ := bind_ok h
  refine ⟨q316, bre_parser_fail_ok g316, ?_⟩
  exact (Option.some.inj h).symm
 ·rw [if_neg g315] at h
  refine ⟨fun g317 => ?_, fun g317 => ?_⟩
  ·rw [if_pos g317] at h
   obtain ⟨q318, g318, h⟩ := bind_ok h
   refine ⟨q318, bre_parser_has_ok g318, ?_⟩
   exact bre_parser_piece_j3_ok hagc_bre_parser_atom h
  ·rw [if_neg g317] at h
   exact bre_parser_piece_j3_ok hagc_bre_parser_atom h
def bre_parser_piece_Be (fuel : Nat) (c_bre_parser_branche : (((List (Int × Int × Int × Int × Int × Int × (Arr 4 (UInt64)))) × Int) × (List UInt8) × Int × (Arr 10 (Bool))) → (Bool) → Option (Int × (List (Int × Int)) × (((List (Int × Int × Int × Int × Int × Int × (Arr 4 (UInt64)))) × Int) × (List UInt8) × Int × (Arr 10 (Bool))))) (c_bre_parser_piecee : (((List (Int × Int × Int × Int × Int × Int × (Arr 4 (UInt64)))) × Int) × (List UInt8) × Int × (Arr 10 (Bool))) → (Bool) → Option (Int × (List (Int × Int)) × (((List (Int × Int × Int × Int × Int × Int × (Arr 4 (UInt64)))) × Int) × (List UInt8) × Int × (Arr 10 (Bool))))) (c_bre_parser_atome : (((List (Int × Int × Int × Int × Int × Int × (Arr 4 (UInt64)))) × Int) × (List UInt8) × Int × (Arr 10 (Bool))) → Option (Int × (List (Int × Int)) × (((List (Int × Int × Int × Int × Int × Int × (Arr 4 (UInt64)))) × Int) × (List UInt8) × Int × (Arr 10 (Bool))))) (c_bre_parser_escapee : (((List (Int × Int × Int × Int × Int × Int × (Arr 4 (UInt64)))) × Int) × (List UInt8) × Int × (Arr 10 (Bool))) → Option (Int × (List (Int × Int)) × (((List (Int × Int × Int × Int × Int × Int × (Arr 4 (UInt64)))) × Int) × (List UInt8) × Int × (Arr 10 (Bool))))) (c_bre_parser_groupe : (((List (Int × Int × Int × Int × Int × Int × (Arr 4 (UInt64)))) × Int) × (List UInt8) × Int × (Arr 10 (Bool))) → Option (Int × (List (Int × Int)) × (((List (Int × Int × Int × Int × Int × Int × (Arr 4 (UInt64)))) × Int) × (List UInt8) × Int × (Arr 10 (Bool))))) (o1 : ((List (Int × Int × Int × Int × Int × Int × (Arr 4 (UInt64)))) × Int) × (List UInt8) × Int × (Arr 10 (Bool))) (first3 : Bool) : Option (Int × (List (Int × Int)) × (((List (Int × Int × Int × Int × Int × Int × (Arr 4 (UInt64)))) × Int) × (List UInt8) × Int × (Arr 10 (Bool)))) :=
 (if first3 = true then ((bre_parser_has_ev fuel ((o1.1.1, o1.1.2), o1.2.1, o1.2.2.1, o1.2.2.2) (⟨#[92, 123]⟩ : ByteArray)).bind fun y20 => bre_parser_piece_j1_ev fuel o1 first3 c_bre_parser_atome y20) else bre_parser_piece_j1_ev fuel o1 first3 c_bre_parser_atome false)
theorem bre_parser_piece_Bok {fuel : Nat} {c_bre_parser_branch : (((List (Int × Int × Int × Int × Int × Int × (Arr 4 (UInt64)))) × Int) × (List UInt8) × Int × (Arr 10 (Bool))) → (Bool) → (Int × (List (Int × Int)) × (((List (Int × Int × Int × Int × Int × Int × (Arr 4 (UInt64)))) × Int) × (List UInt8) × Int × (Arr 10 (Bool)))) → Prop} {c_bre_parser_branche : (((List (Int × Int × Int × Int × Int × Int × (Arr 4 (UInt64)))) × Int) × (List UInt8) × Int × (Arr 10 (Bool))) → (Bool) → Option (Int × (List (Int × Int)) × (((List (Int × Int × Int × Int × Int × Int × (Arr 4 (UInt64)))) × Int) × (List UInt8) × Int × (Arr 10 (Bool))))} {c_bre_parser_piece : (((List (Int × Int × Int × Int × Int × Int × (Arr 4 (UInt64)))) × Int) × (List UInt8) × Int × (Arr 10 (Bool))) → (Bool) → (Int × (List (Int × Int)) × (((List (Int × Int × Int × Int × Int × Int × (Arr 4 (UInt64)))) × Int) × (List UInt8) × Int × (Arr 10 (Bool)))) → Prop} {c_bre_parser_piecee : (((List (Int × Int × Int × Int × Int × Int × (Arr 4 (UInt64)))) × Int) × (List UInt8) × Int × (Arr 10 (Bool))) → (Bool) → Option (Int × (List (Int × Int)) × (((List (Int × Int × Int × Int × Int × Int × (Arr 4 (UInt64)))) × Int) × (List UInt8) × Int × (Arr 10 (Bool))))} {c_bre_parser_atom : (((List (Int × Int × Int × Int × Int × Int × (Arr 4 (UInt64)))) × Int) × (List UInt8) × Int × (Arr 10 (Bool))) → (Int × (List (Int × Int)) × (((List (Int × Int × Int × Int × Int × Int × (Arr 4 (UInt64)))) × Int) × (List UInt8) × Int × (Arr 10 (Bool)))) → Prop} {c_bre_parser_atome : (((List (Int × Int × Int × Int × Int × Int × (Arr 4 (UInt64)))) × Int) × (List UInt8) × Int × (Arr 10 (Bool))) → Option (Int × (List (Int × Int)) × (((List (Int × Int × Int × Int × Int × Int × (Arr 4 (UInt64)))) × Int) × (List UInt8) × Int × (Arr 10 (Bool))))} {c_bre_parser_escape : (((List (Int × Int × Int × Int × Int × Int × (Arr 4 (UInt64)))) × Int) × (List UInt8) × Int × (Arr 10 (Bool))) → (Int × (List (Int × Int)) × (((List (Int × Int × Int × Int × Int × Int × (Arr 4 (UInt64)))) × Int) × (List UInt8) × Int × (Arr 10 (Bool)))) → Prop} {c_bre_parser_escapee : (((List (Int × Int × Int × Int × Int × Int × (Arr 4 (UInt64)))) × Int) × (List UInt8) × Int × (Arr 10 (Bool))) → Option (Int × (List (Int × Int)) × (((List (Int × Int × Int × Int × Int × Int × (Arr 4 (UInt64)))) × Int) × (List UInt8) × Int × (Arr 10 (Bool))))} {c_bre_parser_group : (((List (Int × Int × Int × Int × Int × Int × (Arr 4 (UInt64)))) × Int) × (List UInt8) × Int × (Arr 10 (Bool))) → (Int × (List (Int × Int)) × (((List (Int × Int × Int × Int × Int × Int × (Arr 4 (UInt64)))) × Int) × (List UInt8) × Int × (Arr 10 (Bool)))) → Prop} {c_bre_parser_groupe : (((List (Int × Int × Int × Int × Int × Int × (Arr 4 (UInt64)))) × Int) × (List UInt8) × Int × (Arr 10 (Bool))) → Option (Int × (List (Int × Int)) × (((List (Int × Int × Int × Int × Int × Int × (Arr 4 (UInt64)))) × Int) × (List UInt8) × Int × (Arr 10 (Bool))))} {o1 : ((List (Int × Int × Int × Int × Int × Int × (Arr 4 (UInt64)))) × Int) × (List UInt8) × Int × (Arr 10 (Bool))} {first3 : Bool} {r : Int × (List (Int × Int)) × (((List (Int × Int × Int × Int × Int × Int × (Arr 4 (UInt64)))) × Int) × (List UInt8) × Int × (Arr 10 (Bool)))} (hagc_bre_parser_branch : ∀ a0 a1 q, c_bre_parser_branche a0 a1 = some q → c_bre_parser_branch a0 a1 q) (hagc_bre_parser_piece : ∀ a0 a1 q, c_bre_parser_piecee a0 a1 = some q → c_bre_parser_piece a0 a1 q) (hagc_bre_parser_atom : ∀ a0 q, c_bre_parser_atome a0 = some q → c_bre_parser_atom a0 q) (hagc_bre_parser_escape : ∀ a0 q, c_bre_parser_escapee a0 = some q → c_bre_parser_escape a0 q) (hagc_bre_parser_group : ∀ a0 q, c_bre_parser_groupe a0 = some q → c_bre_parser_group a0 q) (h : bre_parser_piece_Be fuel c_bre_parser_branche c_bre_parser_piecee c_bre_parser_atome c_bre_parser_escapee c_bre_parser_groupe o1 first3 = some r) : bre_parser_piece_B c_bre_parser_branch c_bre_parser_piece c_bre_parser_atom c_bre_parser_escape c_bre_parser_group o1 first3 r := by
 unfold bre_parser_piece_Be at h
 unfold bre_parser_piece_B
 refine ⟨fun g319 => ?_, fun g319 => ?_⟩
 ·rw [if_pos g319] at h
  obtain ⟨q320, g320, h⟩ := bind_ok h
  refine ⟨q320, bre_parser_has_ok g320, ?_⟩
  exact bre_parser_piece_j1_ok hagc_bre_parser_atom h
 ·rw [if_neg g319] at h
  exact bre_parser_piece_j1_ok hagc_bre_parser_atom h
def bre_parser_atom_j1_ev (fuel : Nat) (o1 : ((List (Int × Int × Int × Int × Int × Int × (Arr 4 (UInt64)))) × Int) × (List UInt8) × Int × (Arr 10 (Bool))) (y5 : UInt8) (x109 : Bool) : Option (Int × (List (Int × Int)) × (((List (Int × Int × Int × Int × Int × Int × (Arr 4 (UInt64)))) × Int) × (List UInt8) × Int × (Arr 10 (Bool)))) :=
 (if x109 = true then (if InR (o1.2.2.1 + 1) then ((tree_Builder_Eol_ev fuel ((o1.1.1, o1.1.2), o1.2.1, (o1.2.2.1 + 1), o1.2.2.2)).bind fun y117 => some (y117.1, ([] : List (Int × Int)), ((y117.2.1.1, y117.2.1.2), y117.2.2.1, y117.2.2.2.1, y117.2.2.2.2))) else none) else ((bre_parser_one_ev fuel ((o1.1.1, o1.1.2), o1.2.1, o1.2.2.1, o1.2.2.2) y5).bind fun y120 => some (y120.1, ([] : List (Int × Int)), ((y120.2.1.1, y120.2.1.2), y120.2.2.1, y120.2.2.2.1, y120.2.2.2.2))))
theorem bre_parser_atom_j1_ok {fuel : Nat} {o1 : ((List (Int × Int × Int × Int × Int × Int × (Arr 4 (UInt64)))) × Int) × (List UInt8) × Int × (Arr 10 (Bool))} {y5 : UInt8} {x109 : Bool} {r : Int × (List (Int × Int)) × (((List (Int × Int × Int × Int × Int × Int × (Arr 4 (UInt64)))) × Int) × (List UInt8) × Int × (Arr 10 (Bool)))} (h : bre_parser_atom_j1_ev fuel o1 y5 x109 = some r) : bre_parser_atom_j1 o1 y5 x109 r := by
 unfold bre_parser_atom_j1_ev at h
 unfold bre_parser_atom_j1
 refine ⟨fun g321 => ?_, fun g321 => ?_⟩
 ·rw [if_pos g321] at h
  obtain ⟨g322, h⟩ := if_ok h
  refine ⟨g322, ?_⟩
  obtain ⟨q323, g323, h⟩ := bind_ok h
  refine ⟨q323, tree_Builder_Eol_ok g323, ?_⟩
  exact (Option.some.inj h).symm
 ·rw [if_neg g321] at h
  obtain ⟨q324, g324, h⟩ := bind_ok h
  refine ⟨q324, bre_parser_one_ok g324, ?_⟩
  exact (Option.some.inj h).symm
def bre_parser_atom_Be (fuel : Nat) (c_bre_parser_branche : (((List (Int × Int × Int × Int × Int × Int × (Arr 4 (UInt64)))) × Int) × (List UInt8) × Int × (Arr 10 (Bool))) → (Bool) → Option (Int × (List (Int × Int)) × (((List (Int × Int × Int × Int × Int × Int × (Arr 4 (UInt64)))) × Int) × (List UInt8) × Int × (Arr 10 (Bool))))) (c_bre_parser_piecee : (((List (Int × Int × Int × Int × Int × Int × (Arr 4 (UInt64)))) × Int) × (List UInt8) × Int × (Arr 10 (Bool))) → (Bool) → Option (Int × (List (Int × Int)) × (((List (Int × Int × Int × Int × Int × Int × (Arr 4 (UInt64)))) × Int) × (List UInt8) × Int × (Arr 10 (Bool))))) (c_bre_parser_atome : (((List (Int × Int × Int × Int × Int × Int × (Arr 4 (UInt64)))) × Int) × (List UInt8) × Int × (Arr 10 (Bool))) → Option (Int × (List (Int × Int)) × (((List (Int × Int × Int × Int × Int × Int × (Arr 4 (UInt64)))) × Int) × (List UInt8) × Int × (Arr 10 (Bool))))) (c_bre_parser_escapee : (((List (Int × Int × Int × Int × Int × Int × (Arr 4 (UInt64)))) × Int) × (List UInt8) × Int × (Arr 10 (Bool))) → Option (Int × (List (Int × Int)) × (((List (Int × Int × Int × Int × Int × Int × (Arr 4 (UInt64)))) × Int) × (List UInt8) × Int × (Arr 10 (Bool))))) (c_bre_parser_groupe : (((List (Int × Int × Int × Int × Int × Int × (Arr 4 (UInt64)))) × Int) × (List UInt8) × Int × (Arr 10 (Bool))) → Option (Int × (List (Int × Int)) × (((List (Int × Int × Int × Int × Int × Int × (Arr 4 (UInt64)))) × Int) × (List UInt8) × Int × (Arr 10 (Bool))))) (o1 : ((List (Int × Int × Int × Int × Int × Int × (Arr 4 (UInt64)))) × Int) × (List UInt8) × Int × (Arr 10 (Bool))) : Option (Int × (List (Int × Int)) × (((List (Int × Int × Int × Int × Int × Int × (Arr 4 (UInt64)))) × Int) × (List UInt8) × Int × (Arr 10 (Bool)))) :=
 (if 0 ≤ (o1.2.2.1 : Int) then ((o1.2.1[(o1.2.2.1 : Int).toNat]?).bind fun y5 => (if (y5.toNat : Int) = 92 then ((c_bre_parser_escapee ((o1.1.1, o1.1.2), o1.2.1, o1.2.2.1, o1.2.2.2)).bind fun y66 => some (y66.1, y66.2.1, ((y66.2.2.1.1, y66.2.2.1.2), y66.2.2.2.1, y66.2.2.2.2.1, y66.2.2.2.2.2))) else (if (y5.toNat : Int) = 46 then (if InR (o1.2.2.1 + 1) then ((class_Not_ev fuel (Arr.rep 4 (0 : UInt64))).bind fun y77 => ((tree_Builder_Set_ev fuel ((o1.1.1, o1.1.2), o1.2.1, (o1.2.2.1 + 1), o1.2.2.2) y77).bind fun y79 => some (y79.1, ([] : List (Int × Int)), ((y79.2.1.1, y79.2.1.2), y79.2.2.1, y79.2.2.2.1, y79.2.2.2.2)))) else none) else (if (y5.toNat : Int) = 91 then (if InR (o1.2.2.1 + 1) then ((brack_Parse_ev fuel o1.2.1 (o1.2.2.1 + 1)).bind fun y89 => (if ¬ (y89.2.2 = 0) then ((bre_parser_fail_ev fuel ((o1.1.1, o1.1.2), o1.2.1, o1.2.2.1, o1.2.2.2) y89.2.2).bind fun y98 => some (0, y98, ((o1.1.1, o1.1.2), o1.2.1, o1.2.2.1, o1.2.2.2))) else ((tree_Builder_Set_ev fuel ((o1.1.1, o1.1.2), o1.2.1, y89.2.1, o1.2.2.2) y89.1).bind fun y103 => some (y103.1, ([] : List (Int × Int)), ((y103.2.1.1, y103.2.1.2), y103.2.2.1, y103.2.2.2.1, y103.2.2.2.2))))) else none) else (if (y5.toNat : Int) = 36 then ((bre_parser_isEnd_ev fuel ((o1.1.1, o1.1.2), o1.2.1, o1.2.2.1, o1.2.2.2)).bind fun y113 => bre_parser_atom_j1_ev fuel o1 y5 y113) else bre_parser_atom_j1_ev fuel o1 y5 false))))) else none)
theorem bre_parser_atom_Bok {fuel : Nat} {c_bre_parser_branch : (((List (Int × Int × Int × Int × Int × Int × (Arr 4 (UInt64)))) × Int) × (List UInt8) × Int × (Arr 10 (Bool))) → (Bool) → (Int × (List (Int × Int)) × (((List (Int × Int × Int × Int × Int × Int × (Arr 4 (UInt64)))) × Int) × (List UInt8) × Int × (Arr 10 (Bool)))) → Prop} {c_bre_parser_branche : (((List (Int × Int × Int × Int × Int × Int × (Arr 4 (UInt64)))) × Int) × (List UInt8) × Int × (Arr 10 (Bool))) → (Bool) → Option (Int × (List (Int × Int)) × (((List (Int × Int × Int × Int × Int × Int × (Arr 4 (UInt64)))) × Int) × (List UInt8) × Int × (Arr 10 (Bool))))} {c_bre_parser_piece : (((List (Int × Int × Int × Int × Int × Int × (Arr 4 (UInt64)))) × Int) × (List UInt8) × Int × (Arr 10 (Bool))) → (Bool) → (Int × (List (Int × Int)) × (((List (Int × Int × Int × Int × Int × Int × (Arr 4 (UInt64)))) × Int) × (List UInt8) × Int × (Arr 10 (Bool)))) → Prop} {c_bre_parser_piecee : (((List (Int × Int × Int × Int × Int × Int × (Arr 4 (UInt64)))) × Int) × (List UInt8) × Int × (Arr 10 (Bool))) → (Bool) → Option (Int × (List (Int × Int)) × (((List (Int × Int × Int × Int × Int × Int × (Arr 4 (UInt64)))) × Int) × (List UInt8) × Int × (Arr 10 (Bool))))} {c_bre_parser_atom : (((List (Int × Int × Int × Int × Int × Int × (Arr 4 (UInt64)))) × Int) × (List UInt8) × Int × (Arr 10 (Bool))) → (Int × (List (Int × Int)) × (((List (Int × Int × Int × Int × Int × Int × (Arr 4 (UInt64)))) × Int) × (List UInt8) × Int × (Arr 10 (Bool)))) → Prop} {c_bre_parser_atome : (((List (Int × Int × Int × Int × Int × Int × (Arr 4 (UInt64)))) × Int) × (List UInt8) × Int × (Arr 10 (Bool))) → Option (Int × (List (Int × Int)) × (((List (Int × Int × Int × Int × Int × Int × (Arr 4 (UInt64)))) × Int) × (List UInt8) × Int × (Arr 10 (Bool))))} {c_bre_parser_escape : (((List (Int × Int × Int × Int × Int × Int × (Arr 4 (UInt64)))) × Int) × (List UInt8) × Int × (Arr 10 (Bool))) → (Int × (List (Int × Int)) × (((List (Int × Int × Int × Int × Int × Int × (Arr 4 (UInt64)))) × Int) × (List UInt8) × Int × (Arr 10 (Bool)))) → Prop} {c_bre_parser_escapee : (((List (Int × Int × Int × Int × Int × Int × (Arr 4 (UInt64)))) × Int) × (List UInt8) × Int × (Arr 10 (Bool))) → Option (Int × (List (Int × Int)) × (((List (Int × Int × Int × Int × Int × Int × (Arr 4 (UInt64)))) × Int) × (List UInt8) × Int × (Arr 10 (Bool))))} {c_bre_parser_group : (((List (Int × Int × Int × Int × Int × Int × (Arr 4 (UInt64)))) × Int) × (List UInt8) × Int × (Arr 10 (Bool))) → (Int × (List (Int × Int)) × (((List (Int × Int × Int × Int × Int × Int × (Arr 4 (UInt64)))) × Int) × (List UInt8) × Int × (Arr 10 (Bool)))) → Prop} {c_bre_parser_groupe : (((List (Int × Int × Int × Int × Int × Int × (Arr 4 (UInt64)))) × Int) × (List UInt8) × Int × (Arr 10 (Bool))) → Option (Int × (List (Int × Int)) × (((List (Int × Int × Int × Int × Int × Int × (Arr 4 (UInt64)))) × Int) × (List UInt8) × Int × (Arr 10 (Bool))))} {o1 : ((List (Int × Int × Int × Int × Int × Int × (Arr 4 (UInt64)))) × Int) × (List UInt8) × Int × (Arr 10 (Bool))} {r : Int × (List (Int × Int)) × (((List (Int × Int × Int × Int × Int × Int × (Arr 4 (UInt64)))) × Int) × (List UInt8) × Int × (Arr 10 (Bool)))} (hagc_bre_parser_branch : ∀ a0 a1 q, c_bre_parser_branche a0 a1 = some q → c_bre_parser_branch a0 a1 q) (hagc_bre_parser_piece : ∀ a0 a1 q, c_bre_parser_piecee a0 a1 = some q → c_bre_parser_piece a0 a1 q) (hagc_bre_parser_atom : ∀ a0 q, c_bre_parser_atome a0 = some q → c_bre_parser_atom a0 q) (hagc_bre_parser_escape : ∀ a0 q, c_bre_parser_escapee a0 = some q → c_bre_parser_escape a0 q) (hagc_bre_parser_group : ∀ a0 q, c_bre_parser_groupe a0 = some q → c_bre_parser_group a0 q) (h : bre_parser_atom_Be fuel c_bre_parser_branche c_bre_parser_piecee c_bre_parser_atome c_bre_parser_escapee c_bre_parser_groupe o1 = some r) : bre_parser_atom_B c_bre_parser_branch c_bre_parser_piece c_bre_parser_atom c_bre_parser_escape c_bre_parser_group o1 r := by
 unfold bre_parser_atom_Be at h
 unfold bre_parser_atom_B
 obtain ⟨g325, h⟩ := if_ok h
 refine ⟨g325, ?_⟩
 obtain ⟨q326, g326, h⟩ := bind_ok h
 refine ⟨q326, g326, ?_⟩
 refine ⟨fun g327 => ?_, fun g327 => ?_⟩
 ·rw [if_pos g327] at h
  obtain ⟨q328, g328, h⟩ := bind_ok h
  refine ⟨q328, hagc_bre_parser_escape _ _ g328, ?_⟩
  exact (Option.some.inj h).symm
 ·rw [if_neg g327] at h
  refine ⟨fun g329 => ?_, fun g329 => ?_⟩
  ·rw [if_pos g329] at h
   obtain ⟨g330, h⟩ := if_ok h
   refine ⟨g330, ?_⟩
   obtain ⟨q331, g331, h⟩ := bind_ok h
   refine ⟨q331, class_Not_ok g331, ?_⟩
   obtain ⟨q332, g332, h⟩ := bind_ok h
   refine ⟨q332, tree_Builder_Set_ok g332, ?_⟩
   exact (Option.some.inj h).symm
  ·rw [if_neg g329] at h
   refine ⟨fun g333 => ?_, fun g333 => ?_⟩
   ·rw [if_pos g333] at h
    obtain ⟨g334, h⟩ := if_ok h
    refine ⟨g334, ?_⟩
    obtain ⟨q335, g335, h⟩ := bind_ok h
    refine ⟨q335, brack_Parse_ok g335, ?_⟩
    refine ⟨fun g336 => ?_, fun g336 => ?_⟩
    ·rw [if_pos g336] at h
     obtain ⟨q337, g337, h⟩ := bind_ok h
     refine ⟨q337, bre_parser_fail_ok g337, ?_⟩
     exact (Option.some.inj h).symm
    ·rw [if_neg g336] at h
     obtain ⟨q338, g338, h⟩ := bind_ok h
     refine ⟨q338, tree_Builder_Set_ok g338, ?_⟩
     exact (Option.some.inj h).symm
   ·rw [if_neg g333] at h
    refine ⟨fun g339 => ?_, fun g339 => ?_⟩
    ·rw [if_pos g339] at h
     obtain ⟨q340, g340, h⟩ := bind_ok h
     refine ⟨q340, bre_parser_isEnd_ok g340, ?_⟩
     exact bre_parser_atom_j1_ok h
    ·rw [if_neg g339] at h
     exact bre_parser_atom_j1_ok h
def bre_parser_escape_j1_ev (fuel : Nat) (y25 : UInt8) (o1 : ((List (Int × Int × Int × Int × Int × Int × (Arr 4 (UInt64)))) × Int) × (List UInt8) × Int × (Arr 10 (Bool))) (y28 : Bool × Bool) (x76 : Bool) : Option (Int × (List (Int × Int)) × (((List (Int × Int × Int × Int × Int × Int × (Arr 4 (UInt64)))) × Int) × (List UInt8) × Int × (Arr 10 (Bool)))) :=
 (if x76 = true then (exB (IntKind.u8.wrap ((y25.toNat : Int) - 48)) fun c82 => (if (0 ≤ ((c82.toNat : Int) : Int) ∧ ((c82.toNat : Int) : Int) < 10) then ((o1.2.2.2.l[((c82.toNat : Int) : Int).toNat]?).bind fun y90 => (if ¬ (y90 = true) then ((bre_parser_fail_ev fuel ((o1.1.1, o1.1.2), o1.2.1, o1.2.2.1, o1.2.2.2) 16).bind fun y93 => some (0, y93, ((o1.1.1, o1.1.2), o1.2.1, o1.2.2.1, o1.2.2.2))) else (if InR (o1.2.2.1 + 2) then ((tree_Builder_Back_ev fuel ((o1.1.1, o1.1.2), o1.2.1, (o1.2.2.1 + 2), o1.2.2.2) (c82.toNat : Int)).bind fun y96 => some (y96.1, ([] : List (Int × Int)), ((y96.2.1.1, y96.2.1.2), y96.2.2.1, y96.2.2.2.1, y96.2.2.2.2))) else none))) else none)) else (if (y25.toNat : Int) = 110 then (if InR (o1.2.2.1 + 1) then ((bre_parser_one_ev fuel ((o1.1.1, o1.1.2), o1.2.1, (o1.2.2.1 + 1), o1.2.2.2) (10 : UInt8)).bind fun y102 => some (y102.1, ([] : List (Int × Int)), ((y102.2.1.1, y102.2.1.2), y102.2.2.1, y102.2.2.2.1, y102.2.2.2.2))) else none) else (if y28.1 = true then ((bre_parser_fail_ev fuel ((o1.1.1, o1.1.2), o1.2.1, o1.2.2.1, o1.2.2.2) 10).bind fun y106 => some (0, y106, ((o1.1.1, o1.1.2), o1.2.1, o1.2.2.1, o1.2.2.2))) else (if InR (o1.2.2.1 + 1) then ((bre_parser_one_ev fuel ((o1.1.1, o1.1.2), o1.2.1, (o1.2.2.1 + 1), o1.2.2.2) y25).bind fun y109 => some (y109.1, ([] : List (Int × Int)), ((y109.2.1.1, y109.2.1.2), y109.2.2.1, y109.2.2.2.1, y109.2.2.2.2))) else none))))
theorem bre_parser_escape_j1_ok {fuel : Nat} {y25 : UInt8} {o1 : ((List (Int × Int × Int × Int × Int × Int × (Arr 4 (UInt64)))) × Int) × (List UInt8) × Int × (Arr 10 (Bool))} {y28 : Bool × Bool} {x76 : Bool} {r : Int × (List (Int × Int)) × (((List (Int × Int × Int × Int × Int × Int × (Arr 4 (UInt64)))) × Int) × (List UInt8) × Int × (Arr 10 (Bool)))} (h : bre_parser_escape_j1_ev fuel y25 o1 y28 x76 = some r) : bre_parser_escape_j1 y25 o1 y28 x76 r := by
 unfold bre_parser_escape_j1_ev at h
 unfold bre_parser_escape_j1
 refine ⟨fun g341 => ?_, fun g341 => ?_⟩
 ·rw [if_pos g341] at h
  obtain ⟨q342, g342, h⟩ := exB_ok h
  refine ⟨q342, g342, ?_⟩
  obtain ⟨g343, h⟩ := if_ok h
  refine ⟨g343, ?_⟩
  obtain ⟨q344, g344, h⟩ := bind_ok h
  refine ⟨q344, g344, ?_⟩
  refine ⟨fun g345 => ?_, fun g345 => ?_⟩
  ·rw [if_pos g345] at h
   obtain ⟨q346, g346, h⟩ := bind_ok h
   refine ⟨q346, bre_parser_fail_ok g346, ?_⟩
   exact (Option.some.inj h).symm
  ·rw [if_neg g345] at h
   obtain ⟨g347, h⟩ := if_ok h
   refine ⟨g347, ?_⟩
   obtain ⟨q348, g348, h⟩ := bind_ok h
   refine ⟨q348, tree_Builder_Back_ok g348, ?_⟩
   exact (Option.some.inj h).symm
 ·rw [if_neg g341] at h
  refine ⟨fun g349 => ?_, fun g349 => ?_⟩
  ·rw [if_pos g349] at h
   obtain ⟨g350, h⟩ := if_ok h
   refine ⟨g350, ?_⟩
   obtain ⟨q351, g351, h⟩ := bind_ok h
   refine ⟨q351, bre_parser_one_ok g351, ?_⟩
   exact (Option.some.inj h).symm
  ·rw [if_neg g349] at h
   refine ⟨fun g352 => ?_, fun g352 => ?_⟩
   ·rw [if_pos g352] at h
    obtain ⟨q353, g353, h⟩ := bind_ok h
    refine ⟨q353, bre_parser_fail_ok g353, ?_⟩
    exact (Option.some.inj h).symm
   ·rw [if_neg g352] at h
    obtain ⟨g354, h⟩ := if_ok h
    refine ⟨g354, ?_⟩
    obtain ⟨q355, g355, h⟩ := bind_ok h
    refine ⟨q355, bre_parser_one_ok g355, ?_⟩
    exact (Option.some.inj h).symm
def bre_parser_escape_Be (fuel : Nat) (c_bre_parser_branche : (((List (Int × Int × Int × Int × Int × Int × (Arr 4 (UInt64)))) × Int) × (List UInt8) × Int × (Arr 10 (Bool))) → (Bool) → Option (Int × (List (Int × Int)) × (((List (Int × Int × Int × Int × Int × Int × (Arr 4 (UInt64)))) × Int) × (List UInt8) × Int × (Arr 10 (Bool))))) (c_bre_parser_piecee : (((List (Int × Int × Int × Int × Int × Int × (Arr 4 (UInt64)))) × Int) × (List UInt8) × Int × (Arr 10 (Bool))) → (Bool) → Option (Int × (List (Int × Int)) × (((List (Int × Int × Int × Int × Int × Int × (Arr 4 (UInt64)))) × Int) × (List UInt8) × Int × (Arr 10 (Bool))))) (c_bre_parser_atome : (((List (Int × Int × Int × Int × Int × Int × (Arr 4 (UInt64)))) × Int) × (List UInt8) × Int × (Arr 10 (Bool))) → Option (Int × (List (Int × Int)) × (((List (Int × Int × Int × Int × Int × Int × (Arr 4 (UInt64)))) × Int) × (List UInt8) × Int × (Arr 10 (Bool))))) (c_bre_parser_escapee : (((List (Int × Int × Int × Int × Int × Int × (Arr 4 (UInt64)))) × Int) × (List UInt8) × Int × (Arr 10 (Bool))) → Option (Int × (List (Int × Int)) × (((List (Int × Int × Int × Int × Int × Int × (Arr 4 (UInt64)))) × Int) × (List UInt8) × Int × (Arr 10 (Bool))))) (c_bre_parser_groupe : (((List (Int × Int × Int × Int × Int × Int × (Arr 4 (UInt64)))) × Int) × (List UInt8) × Int × (Arr 10 (Bool))) → Option (Int × (List (Int × Int)) × (((List (Int × Int × Int × Int × Int × Int × (Arr 4 (UInt64)))) × Int) × (List UInt8) × Int × (Arr 10 (Bool))))) (o1 : ((List (Int × Int × Int × Int × Int × Int × (Arr 4 (UInt64)))) × Int) × (List UInt8) × Int × (Arr 10 (Bool))) : Option (Int × (List (Int × Int)) × (((List (Int × Int × Int × Int × Int × Int × (Arr 4 (UInt64)))) × Int) × (List UInt8) × Int × (Arr 10 (Bool)))) :=
 (if InR (o1.2.2.1 + 1) then (if (o1.2.2.1 + 1) = (o1.2.1.length : Int) then ((bre_parser_fail_ev fuel ((o1.1.1, o1.1.2), o1.2.1, o1.2.2.1, o1.2.2.2) 10).bind fun y20 => some (0, y20, ((o1.1.1, o1.1.2), o1.2.1, o1.2.2.1, o1.2.2.2))) else (if InR (o1.2.2.1 + 1) then (if 0 ≤ ((o1.2.2.1 + 1) : Int) then ((o1.2.1[((o1.2.2.1 + 1) : Int).toNat]?).bind fun y25 => ((digit_Is_ev fuel (⟨#[97, 108, 110, 117, 109]⟩ : ByteArray) y25).bind fun y28 => (if (y25.toNat : Int) = 40 then ((c_bre_parser_groupe ((o1.1.1, o1.1.2), o1.2.1, o1.2.2.1, o1.2.2.2)).bind fun y71 => some (y71.1, y71.2.1, ((y71.2.2.1.1, y71.2.2.1.2), y71.2.2.2.1, y71.2.2.2.2.1, y71.2.2.2.2.2))) else bre_parser_escape_j1_ev fuel y25 o1 y28 ((decide (49 ≤ (y25.toNat : Int))) && (decide ((y25.toNat : Int) ≤ 57)))))) else none) else none)) else none)
theorem bre_parser_escape_Bok {fuel : Nat} {c_bre_parser_branch : (((List (Int × Int × Int × Int × Int × Int × (Arr 4 (UInt64)))) × Int) × (List UInt8) × Int × (Arr 10 (Bool))) → (Bool) → (Int × (List (Int × Int)) × (((List (Int × Int × Int × Int × Int × Int × (Arr 4 (UInt64)))) × Int) × (List UInt8) × Int × (Arr 10 (Bool)))) → Prop} {c_bre_parser_branche : (((List (Int × Int × Int × Int × Int × Int × (Arr 4 (UInt64)))) × Int) × (List UInt8) × Int × (Arr 10 (Bool))) → (Bool) → Option (Int × (List (Int × Int)) × (((List (Int × Int × Int × Int × Int × Int × (Arr 4 (UInt64)))) × Int) × (List UInt8) × Int × (Arr 10 (Bool))))} {c_bre_parser_piece : (((List (Int × Int × Int × Int × Int × Int × (Arr 4 (UInt64)))) × Int) × (List UInt8) × Int × (Arr 10 (Bool))) → (Bool) → (Int × (List (Int × Int)) × (((List (Int × Int × Int × Int × Int × Int × (Arr 4 (UInt64)))) × Int) × (List UInt8) × Int × (Arr 10 (Bool)))) → Prop} {c_bre_parser_piecee : (((List (Int × Int × Int × Int × Int × Int × (Arr 4 (UInt64)))) × Int) × (List UInt8) × Int × (Arr 10 (Bool))) → (Bool) → Option (Int × (List (Int × Int)) × (((List (Int × Int × Int × Int × Int × Int × (Arr 4 (UInt64)))) × Int) × (List UInt8) × Int × (Arr 10 (Bool))))} {c_bre_parser_atom : (((List (Int × Int × Int × Int × Int × Int × (Arr 4 (UInt64)))) × Int) × (List UInt8) × Int × (Arr 10 (Bool))) → (Int × (List (Int × Int)) × (((List (Int × Int × Int × Int × Int × Int × (Arr 4 (UInt64)))) × Int) × (List UInt8) × Int × (Arr 10 (Bool)))) → Prop} {c_bre_parser_atome : (((List (Int × Int × Int × Int × Int × Int × (Arr 4 (UInt64)))) × Int) × (List UInt8) × Int × (Arr 10 (Bool))) → Option (Int × (List (Int × Int)) × (((List (Int × Int × Int × Int × Int × Int × (Arr 4 (UInt64)))) × Int) × (List UInt8) × Int × (Arr 10 (Bool))))} {c_bre_parser_escape : (((List (Int × Int × Int × Int × Int × Int × (Arr 4 (UInt64)))) × Int) × (List UInt8) × Int × (Arr 10 (Bool))) → (Int × (List (Int × Int)) × (((List (Int × Int × Int × Int × Int × Int × (Arr 4 (UInt64)))) × Int) × (List UInt8) × Int × (Arr 10 (Bool)))) → Prop} {c_bre_parser_escapee : (((List (Int × Int × Int × Int × Int × Int × (Arr 4 (UInt64)))) × Int) × (List UInt8) × Int × (Arr 10 (Bool))) → Option (Int × (List (Int × Int)) × (((List (Int × Int × Int × Int × Int × Int × (Arr 4 (UInt64)))) × Int) × (List UInt8) × Int × (Arr 10 (Bool))))} {c_bre_parser_group : (((List (Int × Int × Int × Int × Int × Int × (Arr 4 (UInt64)))) × Int) × (List UInt8) × Int × (Arr 10 (Bool))) → (Int × (List (Int × Int)) × (((List (Int × Int × Int × Int × Int × Int × (Arr 4 (UInt64)))) × Int) × (List UInt8) × Int × (Arr 10 (Bool)))) → Prop} {c_bre_parser_groupe : (((List (Int × Int × Int × Int × Int × Int × (Arr 4 (UInt64)))) × Int) × (List UInt8) × Int × (Arr 10 (Bool))) → Option (Int × (List (Int × Int)) × (((List (Int × Int × Int × Int × Int × Int × (Arr 4 (UInt64)))) × Int) × (List UInt8) × Int × (Arr 10 (Bool))))} {o1 : ((List (Int × Int × Int × Int × Int × Int × (Arr 4 (UInt64)))) × Int) × (List UInt8) × Int × (Arr 10 (Bool))} {r : Int × (List (Int × Int)) × (((List (Int × Int × Int × Int × Int × Int × (Arr 4 (UInt64)))) × Int) × (List UInt8) × Int × (Arr 10 (Bool)))} (hagc_bre_parser_branch : ∀ a0 a1 q, c_bre_parser_branche a0 a1 = some q → c_bre_parser_branch a0 a1 q) (hagc_bre_parser_piece : ∀ a0 a1 q, c_bre_parser_piecee a0 a1 = some q → c_bre_parser_piece a0 a1 q) (hagc_bre_parser_atom : ∀ a0 q, c_bre_parser_atome a0 = some q → c_bre_parser_atom a0 q) (hagc_bre_parser_escape : ∀ a0 q, c_bre_parser_escapee a0 = some q → c_bre_parser_escape a0 q) (hagc_bre_parser_group : ∀ a0 q, c_bre_parser_groupe a0 = some q → c_bre_parser_group a0 q) (h : bre_parser_escape_Be fuel c_bre_parser_branche c_bre_parser_piecee c_bre_parser_atome c_bre_parser_escapee c_bre_parser_groupe o1 = some r) : bre_parser_escape_B c_bre_parser_branch c_bre_parser_piece c_bre_parser_atom c_bre_parser_escape c_bre_parser_group o1 r := by
 unfold bre_parser_escape_Be at h
 unfold bre_parser_escape_B
 obtain ⟨g356, h⟩ := if_ok h
 refine ⟨g356, ?_⟩
 refine ⟨fun g357 => ?_, fun g357 => ?_⟩
 ·rw [if_pos g357] at h
  obtain ⟨q358, g358, h⟩ := bind_ok h
  refine ⟨q358, bre_parser_fail_ok g358, ?_⟩
  exact (Option.some.inj h).symm
 ·rw [if_neg g357] at h
  obtain ⟨g359, h⟩ := if_ok h
  refine ⟨g359, ?_⟩
  obtain ⟨g360, h⟩ := if_ok h
  refine ⟨g360, ?_⟩
  obtain ⟨q361, g361, h⟩ := bind_ok h
  refine ⟨q361, g361, ?_⟩
  obtain ⟨q362, g362, h⟩ := bind_ok h
  refine ⟨q362, digit_Is_ok g362, ?_⟩
  refine ⟨fun g363 => ?_, fun g363 => ?_⟩
  ·rw [if_pos g363] at h
   obtain ⟨q364, g364, h⟩ := bind_ok h
   refine ⟨q364, hagc_bre_parser_group _ _ g364, ?_⟩
   exact (Option.some.inj h).symm
  ·rw [if_neg g363] at h
   exact bre_parser_escape_j1_ok h
def bre_parser_group_Be (fuel : Nat) (c_bre_parser_branche : (((List (Int × Int × Int × Int × Int × Int × (Arr 4 (UInt64)))) × Int) × (List UInt8) × Int × (Arr 10 (Bool))) → (Bool) → Option (Int × (List (Int × Int)) × (((List (Int × Int × Int × Int × Int × Int × (Arr 4 (UInt64)))) × Int) × (List UInt8) × Int × (Arr 10 (Bool))))) (c_bre_parser_piecee : (((List (Int × Int × Int × Int × Int × Int × (Arr 4 (UInt64)))) × Int) × (List UInt8) × Int × (Arr 10 (Bool))) → (Bool) → Option (Int × (List (Int × Int)) × (((List (Int × Int × Int × Int × Int × Int × (Arr 4 (UInt64)))) × Int) × (List UInt8) × Int × (Arr 10 (Bool))))) (c_bre_parser_atome : (((List (Int × Int × Int × Int × Int × Int × (Arr 4 (UInt64)))) × Int) × (List UInt8) × Int × (Arr 10 (Bool))) → Option (Int × (List (Int × Int)) × (((List (Int × Int × Int × Int × Int × Int × (Arr 4 (UInt64)))) × Int) × (List UInt8) × Int × (Arr 10 (Bool))))) (c_bre_parser_escapee : (((List (Int × Int × Int × Int × Int × Int × (Arr 4 (UInt64)))) × Int) × (List UInt8) × Int × (Arr 10 (Bool))) → Option (Int × (List (Int × Int)) × (((List (Int × Int × Int × Int × Int × Int × (Arr 4 (UInt64)))) × Int) × (List UInt8) × Int × (Arr 10 (Bool))))) (c_bre_parser_groupe : (((List (Int × Int × Int × Int × Int × Int × (Arr 4 (UInt64)))) × Int) × (List UInt8) × Int × (Arr 10 (Bool))) → Option (Int × (List (Int × Int)) × (((List (Int × Int × Int × Int × Int × Int × (Arr 4 (UInt64)))) × Int) × (List UInt8) × Int × (Arr 10 (Bool))))) (o1 : ((List (Int × Int × Int × Int × Int × Int × (Arr 4 (UInt64)))) × Int) × (List UInt8) × Int × (Arr 10 (Bool))) : Option (Int × (List (Int × Int)) × (((List (Int × Int × Int × Int × Int × Int × (Arr 4 (UInt64)))) × Int) × (List UInt8) × Int × (Arr 10 (Bool)))) :=
 ((tree_Builder_Open_ev fuel ((o1.1.1, o1.1.2), o1.2.1, o1.2.2.1, o1.2.2.2)).bind fun y4 => (if y4.1 < 0 then ((bre_parser_fail_ev fuel ((y4.2.1.1, y4.2.1.2), y4.2.2.1, y4.2.2.2.1, y4.2.2.2.2) 17).bind fun y13 => some (0, y13, ((y4.2.1.1, y4.2.1.2), y4.2.2.1, y4.2.2.2.1, y4.2.2.2.2))) else (if InR (y4.2.2.2.1 + 2) then ((c_bre_parser_branche ((y4.2.1.1, y4.2.1.2), y4.2.2.1, (y4.2.2.2.1 + 2), y4.2.2.2.2) true).bind fun y16 => (if ¬ ((List.isEmpty y16.2.1) = true) then some (0, y16.2.1, ((y16.2.2.1.1, y16.2.2.1.2), y16.2.2.2.1, y16.2.2.2.2.1, y16.2.2.2.2.2)) else (if InR (y16.2.2.2.2.1 + 2) then (if (0 ≤ (y4.1 : Int) ∧ (y4.1 : Int) < 10) then ((y16.2.2.2.2.2.l[(y4.1 : Int).toNat]?).bind fun y24 => ((tree_Builder_Group_ev fuel ((y16.2.2.1.1, y16.2.2.1.2), y16.2.2.2.1, (y16.2.2.2.2.1 + 2), (Arr.set y16.2.2.2.2.2 (y4.1 : Int).toNat true)) y4.1 y16.1).bind fun y26 => some (y26.1, ([] : List (Int × Int)), ((y26.2.1.1, y26.2.1.2), y26.2.2.1, y26.2.2.2.1, y26.2.2.2.2)))) else none) else none))) else none)))
theorem bre_parser_group_Bok {fuel : Nat} {c_bre_parser_branch : (((List (Int × Int × Int × Int × Int × Int × (Arr 4 (UInt64)))) × Int) × (List UInt8) × Int × (Arr 10 (Bool))) → (Bool) → (Int × (List (Int × Int)) × (((List (Int × Int × Int × Int × Int × Int × (Arr 4 (UInt64)))) × Int) × (List UInt8) × Int × (Arr 10 (Bool)))) → Prop} {c_bre_parser_branche : (((List (Int × Int × Int × Int × Int × Int × (Arr 4 (UInt64)))) × Int) × (List UInt8) × Int × (Arr 10 (Bool))) → (Bool) → Option (Int × (List (Int × Int)) × (((List (Int × Int × Int × Int × Int × Int × (Arr 4 (UInt64)))) × Int) × (List UInt8) × Int × (Arr 10 (Bool))))} {c_bre_parser_piece : (((List (Int × Int × Int × Int × Int × Int × (Arr 4 (UInt64)))) × Int) × (List UInt8) × Int × (Arr 10 (Bool))) → (Bool) → (Int × (List (Int × Int)) × (((List (Int × Int × Int × Int × Int × Int × (Arr 4 (UInt64)))) × Int) × (List UInt8) × Int × (Arr 10 (Bool)))) → Prop} {c_bre_parser_piecee : (((List (Int × Int × Int × Int × Int × Int × (Arr 4 (UInt64)))) × Int) × (List UInt8) × Int × (Arr 10 (Bool))) → (Bool) → Option (Int × (List (Int × Int)) × (((List (Int × Int × Int × Int × Int × Int × (Arr 4 (UInt64)))) × Int) × (List UInt8) × Int × (Arr 10 (Bool))))} {c_bre_parser_atom : (((List (Int × Int × Int × Int × Int × Int × (Arr 4 (UInt64)))) × Int) × (List UInt8) × Int × (Arr 10 (Bool))) → (Int × (List (Int × Int)) × (((List (Int × Int × Int × Int × Int × Int × (Arr 4 (UInt64)))) × Int) × (List UInt8) × Int × (Arr 10 (Bool)))) → Prop} {c_bre_parser_atome : (((List (Int × Int × Int × Int × Int × Int × (Arr 4 (UInt64)))) × Int) × (List UInt8) × Int × (Arr 10 (Bool))) → Option (Int × (List (Int × Int)) × (((List (Int × Int × Int × Int × Int × Int × (Arr 4 (UInt64)))) × Int) × (List UInt8) × Int × (Arr 10 (Bool))))} {c_bre_parser_escape : (((List (Int × Int × Int × Int × Int × Int × (Arr 4 (UInt64)))) × Int) × (List UInt8) × Int × (Arr 10 (Bool))) → (Int × (List (Int × Int)) × (((List (Int × Int × Int × Int × Int × Int × (Arr 4 (UInt64)))) × Int) × (List UInt8) × Int × (Arr 10 (Bool)))) → Prop} {c_bre_parser_escapee : (((List (Int × Int × Int × Int × Int × Int × (Arr 4 (UInt64)))) × Int) × (List UInt8) × Int × (Arr 10 (Bool))) → Option (Int × (List (Int × Int)) × (((List (Int × Int × Int × Int × Int × Int × (Arr 4 (UInt64)))) × Int) × (List UInt8) × Int × (Arr 10 (Bool))))} {c_bre_parser_group : (((List (Int × Int × Int × Int × Int × Int × (Arr 4 (UInt64)))) × Int) × (List UInt8) × Int × (Arr 10 (Bool))) → (Int × (List (Int × Int)) × (((List (Int × Int × Int × Int × Int × Int × (Arr 4 (UInt64)))) × Int) × (List UInt8) × Int × (Arr 10 (Bool)))) → Prop} {c_bre_parser_groupe : (((List (Int × Int × Int × Int × Int × Int × (Arr 4 (UInt64)))) × Int) × (List UInt8) × Int × (Arr 10 (Bool))) → Option (Int × (List (Int × Int)) × (((List (Int × Int × Int × Int × Int × Int × (Arr 4 (UInt64)))) × Int) × (List UInt8) × Int × (Arr 10 (Bool))))} {o1 : ((List (Int × Int × Int × Int × Int × Int × (Arr 4 (UInt64)))) × Int) × (List UInt8) × Int × (Arr 10 (Bool))} {r : Int × (List (Int × Int)) × (((List (Int × Int × Int × Int × Int × Int × (Arr 4 (UInt64)))) × Int) × (List UInt8) × Int × (Arr 10 (Bool)))} (hagc_bre_parser_branch : ∀ a0 a1 q, c_bre_parser_branche a0 a1 = some q → c_bre_parser_branch a0 a1 q) (hagc_bre_parser_piece : ∀ a0 a1 q, c_bre_parser_piecee a0 a1 = some q → c_bre_parser_piece a0 a1 q) (hagc_bre_parser_atom : ∀ a0 q, c_bre_parser_atome a0 = some q → c_bre_parser_atom a0 q) (hagc_bre_parser_escape : ∀ a0 q, c_bre_parser_escapee a0 = some q → c_bre_parser_escape a0 q) (hagc_bre_parser_group : ∀ a0 q, c_bre_parser_groupe a0 = some q → c_bre_parser_group a0 q) (h : bre_parser_group_Be fuel c_bre_parser_branche c_bre_parser_piecee c_bre_parser_atome c_bre_parser_escapee c_bre_parser_groupe o1 = some r) : bre_parser_group_B c_bre_parser_branch c_bre_parser_piece c_bre_parser_atom c_bre_parser_escape c_bre_parser_group o1 r := by
 unfold bre_parser_group_Be at h
 unfold bre_parser_group_B
 obtain ⟨q365, g365, h⟩ := bind_ok h
 refine ⟨q365, tree_Builder_Open_ok g365, ?_⟩
 refine ⟨fun g366 => ?_, fun g366 => ?_⟩
 ·rw [if_pos g366] at h
  obtain ⟨q367, g367, h⟩ := bind_ok h
  refine ⟨q367, bre_parser_fail_ok g367, ?_⟩
  exact (Option.some.inj h).symm
 ·rw [if_neg g366] at h
  obtain ⟨g368, h⟩ := if_ok h
  refine ⟨g368, ?_⟩
  obtain ⟨q369, g369, h⟩ := bind_ok h
  refine ⟨q369, hagc_bre_parser_branch _ _ _ g369, ?_⟩
  refine ⟨fun g370 => ?_, fun g370 => ?_⟩
  ·rw [if_pos g370] at h
   exact (Option.some.inj h).symm
  ·rw [if_neg g370] at h
   obtain ⟨g371, h⟩ := if_ok h
   refine ⟨g371, ?_⟩
   obtain ⟨g372, h⟩ := if_ok h
   refine ⟨g372, ?_⟩
   obtain ⟨q373, g373, h⟩ := bind_ok h
   refine ⟨q373, g373, ?_⟩
   obtain ⟨q374, g374, h⟩ := bind_ok h
   refine ⟨q374, tree_Builder_Group_ok g374, ?_⟩
   exact (Option.some.inj h).symm
def rec_bre_parser_branch_evs (fuel : Nat) : Nat → ((((List (Int × Int × Int × Int × Int × Int × (Arr 4 (UInt64)))) × Int) × (List UInt8) × Int × (Arr 10 (Bool))) → (Bool) → Option (Int × (List (Int × Int)) × (((List (Int × Int × Int × Int × Int × Int × (Arr 4 (UInt64)))) × Int) × (List UInt8) × Int × (Arr 10 (Bool))))) × ((((List (Int × Int × Int × Int × Int × Int × (Arr 4 (UInt64)))) × Int) × (List UInt8) × Int × (Arr 10 (Bool))) → (Bool) → Option (Int × (List (Int × Int)) × (((List (Int × Int × Int × Int × Int × Int × (Arr 4 (UInt64)))) × Int) × (List UInt8) × Int × (Arr 10 (Bool))))) × ((((List (Int × Int × Int × Int × Int × Int × (Arr 4 (UInt64)))) × Int) × (List UInt8) × Int × (Arr 10 (Bool))) → Option (Int × (List (Int × Int)) × (((List (Int × Int × Int × Int × Int × Int × (Arr 4 (UInt64)))) × Int) × (List UInt8) × Int × (Arr 10 (Bool))))) × ((((List (Int × Int × Int × Int × Int × Int × (Arr 4 (UInt64)))) × Int) × (List UInt8) × Int × (Arr 10 (Bool))) → Option (Int × (List (Int × Int)) × (((List (Int × Int × Int × Int × Int × Int × (Arr 4 (UInt64)))) × Int) × (List UInt8) × Int × (Arr 10 (Bool))))) × ((((List (Int × Int × Int × Int × Int × Int × (Arr 4 (UInt64)))) × Int) × (List UInt8) × Int × (Arr 10 (Bool))) → Option (Int × (List (Int × Int)) × (((List (Int × Int × Int × Int × Int × Int × (Arr 4 (UInt64)))) × Int) × (List UInt8) × Int × (Arr 10 (Bool)))))
 | 0 => (fun _ _ => none, fun _ _ => none, fun _ => none, fun _ => none, fun _ => none)
 | n + 1 => (bre_parser_branch_Be fuel (rec_bre_parser_branch_evs fuel n).1 (rec_bre_parser_branch_evs fuel n).2.1 (rec_bre_parser_branch_evs fuel n).2.2.1 (rec_bre_parser_branch_evs fuel n).2.2.2.1 (rec_bre_parser_branch_evs fuel n).2.2.2.2, bre_parser_piece_Be fuel (rec_bre_parser_branch_evs fuel n).1 (rec_bre_parser_branch_evs fuel n).2.1 (rec_bre_parser_branch_evs fuel n).2.2.1 (rec_bre_parser_branch_evs fuel n).2.2.2.1 (rec_bre_parser_branch_evs fuel n).2.2.2.2, bre_parser_atom_Be fuel (rec_bre_parser_branch_evs fuel n).1 (rec_bre_parser_branch_evs fuel n).2.1 (rec_bre_parser_branch_evs fuel n).2.2.1 (rec_bre_parser_branch_evs fuel n).2.2.2.1 (rec_bre_parser_branch_evs fuel n).2.2.2.2, bre_parser_escape_Be fuel (rec_bre_parser_branch_evs fuel n).1 (rec_bre_parser_branch_evs fuel n).2.1 (rec_bre_parser_branch_evs fuel n).2.2.1 (rec_bre_parser_branch_evs fuel n).2.2.2.1 (rec_bre_parser_branch_evs fuel n).2.2.2.2, bre_parser_group_Be fuel (rec_bre_parser_branch_evs fuel n).1 (rec_bre_parser_branch_evs fuel n).2.1 (rec_bre_parser_branch_evs fuel n).2.2.1 (rec_bre_parser_branch_evs fuel n).2.2.2.1 (rec_bre_parser_branch_evs fuel n).2.2.2.2)
theorem rec_bre_parser_branch_evH (fuel : Nat) : rec_bre_parser_branch_H (fun m a0 a1 r => (rec_bre_parser_branch_evs fuel m).1 a0 a1 = some r) (fun m a0 a1 r => (rec_bre_parser_branch_evs fuel m).2.1 a0 a1 = some r) (fun m a0 r => (rec_bre_parser_branch_evs fuel m).2.2.1 a0 = some r) (fun m a0 r => (rec_bre_parser_branch_evs fuel m).2.2.2.1 a0 = some r) (fun m a0 r => (rec_bre_parser_branch_evs fuel m).2.2.2.2 a0 = some r) := ⟨fun m a0 a1 r h => by
  cases m with
  | zero => cases h
  | succ m => exact bre_parser_branch_Bok (fun b0 b1 q h => ⟨m, Nat.lt_succ_self m, h⟩) (fun b0 b1 q h => ⟨m, Nat.lt_succ_self m, h⟩) (fun b0 q h => ⟨m, Nat.lt_succ_self m, h⟩) (fun b0 q h => ⟨m, Nat.lt_succ_self m, h⟩) (fun b0 q h => ⟨m, Nat.lt_succ_self m, h⟩) h, fun m a0 a1 r h => by
  cases m with
  | zero => cases h
  | succ m => exact bre_parser_piece_Bok (fun b0 b1 q h => ⟨m, Nat.lt_succ_self m, h⟩) (fun b0 b1 q h => ⟨m, Nat.lt_succ_self m, h⟩) (fun b0 q h => ⟨m, Nat.lt_succ_self m, h⟩) (fun b0 q h => ⟨m, Nat.lt_succ_self m, h⟩) (fun b0 q h => ⟨m, Nat.lt_succ_self m, h⟩) h, fun m a0 r h => by
  cases m with
  | zero => cases h
  | succ m => exact bre_parser_atom_Bok (fun b0 b1 q h => ⟨m, Nat.lt_succ_self m, h⟩) (fun b0 b1 q h => ⟨m, Nat.lt_succ_self m, h⟩) (fun b0 q h => ⟨m, Nat.lt_succ_self m, h⟩) (fun b0 q h => ⟨m, Nat.lt_succ_self m, h⟩) (fun b0 q h => ⟨m, Nat.lt_succ_self m, h⟩) h, fun m a0 r h => by
  cases m with
  | zero => cases h
  | succ m => exact bre_parser_escape_Bok (fun b0 b1 q h => ⟨m, Nat.lt_succ_self m, h⟩) (fun b0 b1 q h => ⟨m, Nat.lt_succ_self m, h⟩) (fun b0 q h => ⟨m, Nat.lt_succ_self m, h⟩) (fun b0 q h => ⟨m, Nat.lt_succ_self m, h⟩) (fun b0 q h => ⟨m, Nat.lt_succ_self m, h⟩) h, fun m a0 r h => by
  cases m with
  | zero => cases h
  | succ m => exact bre_parser_group_Bok (fun b0 b1 q h => ⟨m, Nat.lt_succ_self m, h⟩) (fun b0 b1 q h => ⟨m, Nat.lt_succ_self m, h⟩) (fun b0 q h => ⟨m, Nat.lt_succ_self m, h⟩) (fun b0 q h => ⟨m, Nat.lt_succ_self m, h⟩) (fun b0 q h => ⟨m, Nat.lt_succ_self m, h⟩) h⟩
def bre_parser_branch_ev (fuel : Nat) (o1 : ((List (Int × Int × Int × Int × Int × Int × (Arr 4 (UInt64)))) × Int) × (List UInt8) × Int × (Arr 10 (Bool))) (x3 : Bool) : Option (Int × (List (Int × Int)) × (((List (Int × Int × Int × Int × Int × Int × (Arr 4 (UInt64)))) × Int) × (List UInt8) × Int × (Arr 10 (Bool)))) := (rec_bre_parser_branch_evs fuel fuel).1 o1 x3
theorem bre_parser_branch_ok {fuel : Nat} {o1 : ((List (Int × Int × Int × Int × Int × Int × (Arr 4 (UInt64)))) × Int) × (List UInt8) × Int × (Arr 10 (Bool))} {x3 : Bool} {r : Int × (List (Int × Int)) × (((List (Int × Int × Int × Int × Int × Int × (Arr 4 (UInt64)))) × Int) × (List UInt8) × Int × (Arr 10 (Bool)))} (h : bre_parser_branch_ev fuel o1 x3 = some r) : bre_parser_branch_R o1 x3 r := ⟨_, _, _, _, _, rec_bre_parser_branch_evH fuel, fuel, h⟩
set_option maxHeartbeats 4000000 in
theorem rec_bre_parser_branch_con {S1 : Nat → (((List (Int × Int × Int × Int × Int × Int × (Arr 4 (UInt64)))) × Int) × (List UInt8) × Int × (Arr 10 (Bool))) → (Bool) → (Int × (List (Int × Int)) × (((List (Int × Int × Int × Int × Int × Int × (Arr 4 (UInt64)))) × Int) × (List UInt8) × Int × (Arr 10 (Bool)))) → Prop} {S2 : Nat → (((List (Int × Int × Int × Int × Int × Int × (Arr 4 (UInt64)))) × Int) × (List UInt8) × Int × (Arr 10 (Bool))) → (Bool) → (Int × (List (Int × Int)) × (((List (Int × Int × Int × Int × Int × Int × (Arr 4 (UInt64)))) × Int) × (List UInt8) × Int × (Arr 10 (Bool)))) → Prop} {S3 : Nat → (((List (Int × Int × Int × Int × Int × Int × (Arr 4 (UInt64)))) × Int) × (List UInt8) × Int × (Arr 10 (Bool))) → (Int × (List (Int × Int)) × (((List (Int × Int × Int × Int × Int × Int × (Arr 4 (UInt64)))) × Int) × (List UInt8) × Int × (Arr 10 (Bool)))) → Prop} {S4 : Nat → (((List (Int × Int × Int × Int × Int × Int × (Arr 4 (UInt64)))) × Int) × (List UInt8) × Int × (Arr 10 (Bool))) → (Int × (List (Int × Int)) × (((List (Int × Int × Int × Int × Int × Int × (Arr 4 (UInt64)))) × Int) × (List UInt8) × Int × (Arr 10 (Bool)))) → Prop} {S5 : Nat → (((List (Int × Int × Int × Int × Int × Int × (Arr 4 (UInt64)))) × Int) × (List UInt8) × Int × (Arr 10 (Bool))) → (Int × (List (Int × Int)) × (((List (Int × Int × Int × Int × Int × Int × (Arr 4 (UInt64)))) × Int) × (List UInt8) × Int × (Arr 10 (Bool)))) → Prop} (H : rec_bre_parser_branch_H S1 S2 S3 S4 S5) : ∀ m : Nat, (∀ (o1 : ((List (Int × Int × Int × Int × Int × Int × (Arr 4 (UInt64)))) × Int) × (List UInt8) × Int × (Arr 10 (Bool))) (x3 : Bool) (bx0 : Nat) (ia2 : Option (Nat × Nat)) (r : Int × (List (Int × Int)) × (((List (Int × Int × Int × Int × Int × Int × (Arr 4 (UInt64)))) × Int) × (List UInt8) × Int × (Arr 10 (Bool)))), S1 m o1 x3 r → Con Try.prog 14 [.v (.pointer (some ⟨bx0, 0, none⟩)), .v (.bool x3)] [⟨bx0, 50, ([.sl 10 (some ia2) (List.map E_palinode_api_Node o1.1.1), .v (.int .i64 o1.1.2), .sl 1 none (List.map eb o1.2.1), .v (.int .i64 o1.2.2.1)] ++ (List.map eB o1.2.2.2.l).flatten)⟩] [⟨ia2, 42, 10, o1.1.1.length⟩] (fun rr bx tk => ∃ j1, rr = .tup [.v (.int .i64 r.1), .pt (List.isEmpty r.2.1) (PC_palinode_bre_wrong r.2.1)] ∧ bx = [⟨bx0, 50, ([.sl 10 (some j1) (List.map E_palinode_api_Node r.2.2.1.1), .v (.int .i64 r.2.2.1.2), .sl 1 none (List.map eb r.2.2.2.1), .v (.int .i64 r.2.2.2.2.1)] ++ (List.map eB r.2.2.2.2.2.l).flatten)⟩] ∧ tk = [⟨j1, 42, 10, r.2.2.1.1.length⟩])) ∧ (∀ (o1 : ((List (Int × Int × Int × Int × Int × Int × (Arr 4 (UInt64)))) × Int) × (List UInt8) × Int × (Arr 10 (Bool))) (first3 : Bool) (bx0 : Nat) (ia2 : Option (Nat × Nat)) (r : Int × (List (Int × Int)) × (((List (Int × Int × Int × Int × Int × Int × (Arr 4 (UInt64)))) × Int) × (List UInt8) × Int × (Arr 10 (Bool)))), S2 m o1 first3 r → Con Try.prog 23 [.v (.pointer (some ⟨bx0, 0, none⟩)), .v (.bool first3)] [⟨bx0, 50, ([.sl 10 (some ia2) (List.map E_palinode_api_Node o1.1.1), .v (.int .i64 o1.1.2), .sl 1 none (List.map eb o1.2.1), .v (.int .i64 o1.2.2.1)] ++ (List.map eB o1.2.2.2.l).flatten)⟩] [⟨ia2, 42, 10, o1.1.1.length⟩] (fun rr bx tk => ∃ j1, rr = .tup [.v (.int .i64 r.1), .pt (List.isEmpty r.2.1) (PC_palinode_bre_wrong r.2.1)] ∧ bx = [⟨bx0, 50, ([.sl 10 (some j1) (List.map E_palinode_api_Node r.2.2.1.1), .v (.int .i64 r.2.2.1.2), .sl 1 none (List.map eb r.2.2.2.1), .v (.int .i64 r.2.2.2.2.1)] ++ (List.map eB r.2.2.2.2.2.l).flatten)⟩] ∧ tk = [⟨j1, 42, 10, r.2.2.1.1.length⟩])) ∧ (∀ (o1 : ((List (Int × Int × Int × Int × Int × Int × (Arr 4 (UInt64)))) × Int) × (List UInt8) × Int × (Arr 10 (Bool))) (bx0 : Nat) (ia2 : Option (Nat × Nat)) (r : Int × (List (Int × Int)) × (((List (Int × Int × Int × Int × Int × Int × (Arr 4 (UInt64)))) × Int) × (List UInt8) × Int × (Arr 10 (Bool)))), S3 m o1 r → Con Try.prog 33 [.v (.pointer (some ⟨bx0, 0, none⟩))] [⟨bx0, 50, ([.sl 10 (some ia2) (List.map E_palinode_api_Node o1.1.1), .v (.int .i64 o1.1.2), .sl 1 none (List.map eb o1.2.1), .v (.int .i64 o1.2.2.1)] ++ (List.map eB o1.2.2.2.l).flatten)⟩] [⟨ia2, 42, 10, o1.1.1.length⟩] (fun rr bx tk => ∃ j1, rr = .tup [.v (.int .i64 r.1), .pt (List.isEmpty r.2.1) (PC_palinode_bre_wrong r.2.1)] ∧ bx = [⟨bx0, 50, ([.sl 10 (some j1) (List.map E_palinode_api_Node r.2.2.1.1), .v (.int .i64 r.2.2.1.2), .sl 1 none (List.map eb r.2.2.2.1), .v (.int .i64 r.2.2.2.2.1)] ++ (List.map eB r.2.2.2.2.2.l).flatten)⟩] ∧ tk = [⟨j1, 42, 10, r.2.2.1.1.length⟩])) ∧ (∀ (o1 : ((List (Int × Int × Int × Int × Int × Int × (Arr 4 (UInt64)))) × Int) × (List UInt8) × Int × (Arr 10 (Bool))) (bx0 : Nat) (ia2 : Option (Nat × Nat)) (r : Int × (List (Int × Int)) × (((List (Int × Int × Int × Int × Int × Int × (Arr 4 (UInt64)))) × Int) × (List UInt8) × Int × (Arr 10 (Bool)))), S4 m o1 r → Con Try.prog 47 [.v (.pointer (some ⟨bx0, 0, none⟩))] [⟨bx0, 50, ([.sl 10 (some ia2) (List.map E_palinode_api_Node o1.1.1), .v (.int .i64 o1.1.2), .sl 1 none (List.map eb o1.2.1), .v (.int .i64 o1.2.2.1)] ++ (List.map eB o1.2.2.2.l).flatten)⟩] [⟨ia2, 42, 10, o1.1.1.length⟩] (fun rr bx tk => ∃ j1, rr = .tup [.v (.int .i64 r.1), .pt (List.isEmpty r.2.1) (PC_palinode_bre_wrong r.2.1)] ∧ bx = [⟨bx0, 50, ([.sl 10 (some j1) (List.map E_palinode_api_Node r.2.2.1.1), .v (.int .i64 r.2.2.1.2), .sl 1 none (List.map eb r.2.2.2.1), .v (.int .i64 r.2.2.2.2.1)] ++ (List.map eB r.2.2.2.2.2.l).flatten)⟩] ∧ tk = [⟨j1, 42, 10, r.2.2.1.1.length⟩])) ∧ (∀ (o1 : ((List (Int × Int × Int × Int × Int × Int × (Arr 4 (UInt64)))) × Int) × (List UInt8) × Int × (Arr 10 (Bool))) (bx0 : Nat) (ia2 : Option (Nat × Nat)) (r : Int × (List (Int × Int)) × (((List (Int × Int × Int × Int × Int × Int × (Arr 4 (UInt64)))) × Int) × (List UInt8) × Int × (Arr 10 (Bool)))), S5 m o1 r → Con Try.prog 63 [.v (.pointer (some ⟨bx0, 0, none⟩))] [⟨bx0, 50, ([.sl 10 (some ia2) (List.map E_palinode_api_Node o1.1.1), .v (.int .i64 o1.1.2), .sl 1 none (List.map eb o1.2.1), .v (.int .i64 o1.2.2.1)] ++ (List.map eB o1.2.2.2.l).flatten)⟩] [⟨ia2, 42, 10, o1.1.1.length⟩] (fun rr bx tk => ∃ j1, rr = .tup [.v (.int .i64 r.1), .pt (List.isEmpty r.2.1) (PC_palinode_bre_wrong r.2.1)] ∧ bx = [⟨bx0, 50, ([.sl 10 (some j1) (List.map E_palinode_api_Node r.2.2.1.1), .v (.int .i64 r.2.2.1.2), .sl 1 none (List.map eb r.2.2.2.1), .v (.int .i64 r.2.2.2.2.1)] ++ (List.map eB r.2.2.2.2.2.l).flatten)⟩] ∧ tk = [⟨j1, 42, 10, r.2.2.1.1.length⟩])) := by
 intro m
 induction m using Nat.strongRecOn with
 | _ m ih =>
  refine ⟨?_, ?_, ?_, ?_, ?_⟩
  ·intro o1 x3 bx0 ia2 r h
   obtain ⟨c_bre_parser_branch, c_bre_parser_piece, c_bre_parser_atom, c_bre_parser_escape, c_bre_parser_group, hc_bre_parser_branch, hc_bre_parser_piece, hc_bre_parser_atom, hc_bre_parser_escape, hc_bre_parser_group, h⟩ : ∃ (c_bre_parser_branch : (((List (Int × Int × Int × Int × Int × Int × (Arr 4 (UInt64)))) × Int) × (List UInt8) × Int × (Arr 10 (Bool))) → (Bool) → (Int × (List (Int × Int)) × (((List (Int × Int × Int × Int × Int × Int × (Arr 4 (UInt64)))) × Int) × (List UInt8) × Int × (Arr 10 (Bool)))) → Prop) (c_bre_parser_piece : (((List (Int × Int × Int × Int × Int × Int × (Arr 4 (UInt64)))) × Int) × (List UInt8) × Int × (Arr 10 (Bool))) → (Bool) → (Int × (List (Int × Int)) × (((List (Int × Int × Int × Int × Int × Int × (Arr 4 (UInt64)))) × Int) × (List UInt8) × Int × (Arr 10 (Bool)))) → Prop) (c_bre_parser_atom : (((List (Int × Int × Int × Int × Int × Int × (Arr 4 (UInt64)))) × Int) × (List UInt8) × Int × (Arr 10 (Bool))) → (Int × (List (Int × Int)) × (((List (Int × Int × Int × Int × Int × Int × (Arr 4 (UInt64)))) × Int) × (List UInt8) × Int × (Arr 10 (Bool)))) → Prop) (c_bre_parser_escape : (((List (Int × Int × Int × Int × Int × Int × (Arr 4 (UInt64)))) × Int) × (List UInt8) × Int × (Arr 10 (Bool))) → (Int × (List (Int × Int)) × (((List (Int × Int × Int × Int × Int × Int × (Arr 4 (UInt64)))) × Int) × (List UInt8) × Int × (Arr 10 (Bool)))) → Prop) (c_bre_parser_group : (((List (Int × Int × Int × Int × Int × Int × (Arr 4 (UInt64)))) × Int) × (List UInt8) × Int × (Arr 10 (Bool))) → (Int × (List (Int × Int)) × (((List (Int × Int × Int × Int × Int × Int × (Arr 4 (UInt64)))) × Int) × (List UInt8) × Int × (Arr 10 (Bool)))) → Prop), (∀ a0 a1 r, c_bre_parser_branch a0 a1 r → ∃ m', m' < m ∧ S1 m' a0 a1 r) ∧ (∀ a0 a1 r, c_bre_parser_piece a0 a1 r → ∃ m', m' < m ∧ S2 m' a0 a1 r) ∧ (∀ a0 r, c_bre_parser_atom a0 r → ∃ m', m' < m ∧ S3 m' a0 r) ∧ (∀ a0 r, c_bre_parser_escape a0 r → ∃ m', m' < m ∧ S4 m' a0 r) ∧ (∀ a0 r, c_bre_parser_group a0 r → ∃ m', m' < m ∧ S5 m' a0 r) ∧ bre_parser_branch_B c_bre_parser_branch c_bre_parser_piece c_bre_parser_atom c_bre_parser_escape c_bre_parser_group o1 x3 r := ⟨_, _, _, _, _, fun _ _ _ h => h, fun _ _ _ h => h, fun _ _ h => h, fun _ _ h => h, fun _ _ h => h, H.1 m o1 x3 r h⟩
   refine xenter Try.func14 rfl rfl fun g hg => ?_
   simp only [Try.ntmps14, slots]
   refine sr_ ?_
   refine as_ ?_
   refine as_ ?_
   refine nt_ ?_
   refine sr_ ?_
   refine as_ ?_
   refine nt_ ?_
   refine sr_ ?_
   refine as_ ?_
   refine nt_ ?_
   refine xseqM (fun σ => ∃ (x19 : List Int), ∃ (f21 : List (Int × Int × Int × Int × Int × Int × (Arr 4 (UInt64)))), ∃ (f23 : Int), ∃ (f24 : List UInt8), ∃ (f25 : Int), ∃ (f26 : Arr 10 (Bool)), ∃ (i20 : Option (Nat × Nat)), ∃ (i22 : Option (Nat × Nat)), bre_parser_branch_j1 c_bre_parser_piece x3 x19 f21 f23 f24 f25 f26 r ∧ σ = ⟨[(0, .v (.pointer (some ⟨bx0, 0, none⟩))), (1, .v (.bool x3)), (6, .sl 1 (some i20) (List.map ei x19)), (7, .v (.bool true))], [⟨bx0, 50, ([.sl 10 (some i22) (List.map E_palinode_api_Node f21), .v (.int .i64 f23), .sl 1 none (List.map eb f24), .v (.int .i64 f25)] ++ (List.map eB f26.l).flatten)⟩], [⟨i20, 3, 1, x19.length⟩, ⟨i22, 42, 10, f21.length⟩]⟩) ?_ ?_
   ·refine xseq ?_
    refine xregion ?_
    refine mv_ ?_
    obtain ⟨y28, h27, h⟩ := h
    refine xcallF (Fb := []) (Ft := []) (bre_parser_has_con ((o1.1.1, o1.1.2), o1.2.1, o1.2.2.1, o1.2.2.2) (⟨#[94]⟩ : ByteArray) bx0 ia2 _ h27) Try.func20 (by kernel_rfl) rfl (.cons rfl (.refl _) (.cons rfl (.refl _) .nil)) (by exact sm_) rfl rfl ?_
    rintro _ _ _ ⟨rfl, rfl, rfl⟩
    simp only [List.nil_append, List.cons_append]
    refine nt_ ?_
    by_cases hp29 : y28 = true
    ·replace h := h.1 hp29
     refine xcondT' hp29 rfl ?_
     refine sr_ ?_
     refine mv_ ?_
     refine vp_ (pv_nilCheck rfl) ?_
     refine vp_ (qv_fieldAddrB FldC.h rfl) ?_
     refine v_ (qv_loadB 0 ShpC.h rfl rfl rfl rfl) ?_
     obtain ⟨h30, h⟩ := h
     refine vp_ (pv_addI h30 rfl rfl) ?_
     refine vp_ (pv_nilCheck rfl) ?_
     refine vp_ (qv_fieldAddrB FldC.h rfl) ?_
     refine xstore 0 ShpC.h rfl rfl rfl rfl rfl rfl rfl ?_
     refine nt_ ?_
     refine sr_ ?_
     refine mv_ ?_
     refine mv_ ?_
     refine vp_ (pv_nilCheck rfl) ?_
     refine vp_ (qv_fieldAddrB FldC.h rfl) ?_
     obtain ⟨y32, h31, h⟩ := h
     refine xcallF (Fb := []) (Ft := []) (tree_Builder_Bol_con ((o1.1.1, o1.1.2), o1.2.1, (o1.2.2.1 + 1), o1.2.2.2) bx0 ia2 _ h31) Try.func21 (by kernel_rfl) rfl (.cons rfl (.refl _) .nil) (by exact sm_) rfl rfl ?_
     rintro _ _ _ ⟨i33, rfl, rfl, rfl⟩
     simp only [List.nil_append, List.cons_append]
     refine xbuildSliceM (f := ei) [y32.1] UndC.h InfC.h rfl rfl wr_ rfl rfl rfl rfl fun s25 => ?_
     obtain ⟨h34, h⟩ := h
     refine xappendNilM (l2 := [y32.1]) h34 UndC.h InfC.h rfl rfl rfl (.refl _) rfl rfl fun i35 => ?_
     refine as_ ?_
     refine nt_ ?_
     refine sr_ ?_
     refine mv_ ?_
     obtain ⟨h37a, h⟩ := h
     obtain ⟨y36, h37b, h⟩ := h
     refine vp_ (pv_indexAddrM h37a h37b UndC.h ShpC.h rfl rfl) ?_
     refine v_ (qv_load ShpC.h rfl rfl rfl) ?_
     refine vp_ (pv_bin2 rfl rfl rfl) ?_
     refine nt_ ?_
     by_cases hp39 : y36 < 0
     ·replace h := h.1 hp39
      refine xcondT' (decide_eq_true hp39) rfl ?_
      refine sr_ ?_
      refine mv_ ?_
      obtain ⟨y41, h40, h⟩ := h
      refine xcallF (Fb := []) (Ft := [⟨i35, 3, 1, ([y32.1]).length⟩, ⟨(some (s25, 1)), 3, 1, ([y32.1]).length⟩]) (bre_parser_fail_con ((y32.2.1.1, y32.2.1.2), y32.2.2.1, y32.2.2.2.1, y32.2.2.2.2) 8 bx0 i33 _ h40) Try.func22 (by kernel_rfl) rfl (.cons rfl (.refl _) (.cons rfl (.refl _) .nil)) (by refine SubM.trans (SubM.mvT 2 rfl) ?_; (simp only [List.eraseIdx]); exact sm_) rfl rfl ?_
      rintro _ _ _ ⟨rfl, rfl, rfl⟩
      simp only [List.nil_append, List.cons_append]
      refine as_ ?_
      refine as_ ?_
      refine nt_ ?_
      refine xretc ?_
      refine xthen_ret ?_
      replace h := h.symm
      subst h
      exact xret2 hg rfl rfl (.refl _) rfl (.refl _) (SubM.of (.keep rfl rfl (.refl _) (.nil _)) (.keep rfl (.nil _))) ⟨i33, rfl, rfl, rfl⟩
     ·replace h := h.2 hp39
      refine xcondF' (decide_eq_false hp39) rfl ?_
      refine xskipc ?_
      exact xmeet ⟨[y32.1], y32.2.1.1, y32.2.1.2, y32.2.2.1, y32.2.2.2.1, y32.2.2.2.2, i35, i33, h, rfl⟩ ⟨lk_, (SubM.of (.keep rfl rfl (.refl _) (.nil _)) (.keep rfl (.drop (.keep rfl (.nil _)))))⟩
    ·replace h := h.2 hp29
     refine xcondF' (b_f hp29) rfl ?_
     refine xskipc ?_
     exact xmeet ⟨([] : List Int), o1.1.1, o1.1.2, o1.2.1, o1.2.2.1, o1.2.2.2, none, ia2, h, rfl⟩ ⟨(.cons rfl (.refl _) (.cons rfl (.refl _) (.cons rfl (.nil_own _) (.cons rfl (.refl _) (.nil _))))), (SubM.of (.keep rfl rfl (.refl _) (.nil _)) (.add (.keep rfl (.nil _))))⟩
   ·clear h
    rintro _ ⟨x19, f21, f23, f24, f25, f26, i20, i22, h, rfl⟩
    refine xseqM (fun σ => ∃ (x144 : List Int), ∃ (f146 : List (Int × Int × Int × Int × Int × Int × (Arr 4 (UInt64)))), ∃ (f148 : Int), ∃ (f149 : List UInt8), ∃ (f150 : Int), ∃ (f151 : Arr 10 (Bool)), ∃ (i145 : Option (Nat × Nat)), ∃ (i147 : Option (Nat × Nat)), bre_parser_branch_j2 x3 x144 f146 f148 f149 f150 f151 r ∧ σ = ⟨[(0, .v (.pointer (some ⟨bx0, 0, none⟩))), (1, .v (.bool x3)), (6, .sl 1 (some i145) (List.map ei x144))], [⟨bx0, 50, ([.sl 10 (some i147) (List.map E_palinode_api_Node f146), .v (.int .i64 f148), .sl 1 none (List.map eb f149), .v (.int .i64 f150)] ++ (List.map eB f151.l).flatten)⟩], [⟨i147, 42, 10, f146.length⟩, ⟨i145, 3, 1, x144.length⟩]⟩) ?_ ?_
    ·refine xblock ?_
     obtain ⟨Inv, ⟨m0, hI⟩, hS⟩ := h
     refine xloop (fun σ m => ∃ (x183 : List Int), ∃ (x185 : Bool), ∃ (f186 : List (Int × Int × Int × Int × Int × Int × (Arr 4 (UInt64)))), ∃ (f188 : Int), ∃ (f189 : List UInt8), ∃ (f190 : Int), ∃ (f191 : Arr 10 (Bool)), ∃ (i184 : Option (Nat × Nat)), ∃ (i187 : Option (Nat × Nat)), Inv (x183, x185, f186, f188, f189, f190, f191) m ∧ σ = ⟨[(0, .v (.pointer (some ⟨bx0, 0, none⟩))), (1, .v (.bool x3)), (6, .sl 1 (some i184) (List.map ei x183)), (7, .v (.bool x185))], [⟨bx0, 50, ([.sl 10 (some i187) (List.map E_palinode_api_Node f186), .v (.int .i64 f188), .sl 1 none (List.map eb f189), .v (.int .i64 f190)] ++ (List.map eB f191.l).flatten)⟩], [⟨i184, 3, 1, x183.length⟩, ⟨i187, 42, 10, f186.length⟩]⟩) ⟨x19, true, f21, f23, f24, f25, f26, i20, i22, hI, rfl⟩ (by exact ⟨lk_, (SubM.of (.keep rfl rfl (.refl _) (.nil _)) (.keep rfl (.keep rfl (.nil _))))⟩) ?_
     rintro _ m ⟨x183, x185, f186, f188, f189, f190, f191, i184, i187, hI, rfl⟩
     obtain ⟨ag3, hag3, h⟩ : ∃ ag, (∀ s', ag s' → ∃ m', m' < m ∧ Inv s' m') ∧ bre_parser_branch_l3 c_bre_parser_piece x3 ag x183 x185 f186 f188 f189 f190 f191 r := ⟨_, fun _ h => h, hS (x183, x185, f186, f188, f189, f190, f191) _ hI⟩
     clear hS hI
     refine xseq ?_
     refine xseq ?_
     refine xregionD (m := 15) (by kernel_rfl) rfl ?_
     refine pl_ 0 rfl (pv_move rfl) ?_
     refine pl_ 1 rfl (pv_nilCheck rfl) ?_
     refine pl_ 2 rfl (qv_fieldAddrB FldC.h rfl) ?_
     refine pl_ 4 rfl (pv_move rfl) ?_
     refine pl_ 5 rfl (pv_nilCheck rfl) ?_
     refine pl_ 6 rfl (qv_fieldAddrB FldC.h rfl) ?_
     refine xpvalE 3 [7, 8] rfl (qv_loadB 0 ShpC.h rfl rfl rfl rfl) rfl rfl (by kernel_rfl) (by kernel_rfl) (by kernel_rfl) (fun _ _ _ _ h => h) ?_
     refine xpvalE 7 [] rfl (qv_loadB 0 ShpC.h rfl rfl rfl rfl) rfl rfl (by kernel_rfl) (by kernel_rfl) (by kernel_rfl) (fun _ _ _ _ h => h) ?_
     refine pl_ 8 rfl (pv_lenM UndC.h rfl) ?_
     refine pl_ 9 rfl (pv_bin2 rfl rfl rfl) ?_
     refine pl_ 10 rfl (pv_move rfl) ?_
     by_cases hp241 : f190 < (f189.length : Int)
     ·replace h := h.1 hp241
      refine psetB 43 (decide_eq_true hp241) rfl ?_
      obtain ⟨y243, h242, h⟩ := h
      refine pl_ 11 rfl (pv_move rfl) ?_
      refine xpstep (i := 12) (by kernel_rfl) rfl ?_
      refine wcallF (Fb := []) (Ft := [⟨i184, 3, 1, x183.length⟩]) (bre_parser_has_con ((f186, f188), f189, f190, f191) (⟨#[92, 41]⟩ : ByteArray) bx0 i187 _ h242) Try.func20 (by kernel_rfl) rfl (.cons rfl (.refl _) (.cons rfl (.refl _) .nil)) (by refine SubM.trans (SubM.mvT 1 rfl) ?_; (simp only [List.eraseIdx]); exact sm_) rfl rfl ?_
      rintro _ _ _ ⟨rfl, rfl, rfl⟩
      simp only [List.nil_append, List.cons_append]
      refine pl_ 13 rfl (pv_not rfl) ?_
      refine pl_ 14 rfl (pv_pick rfl rfl) ?_
      refine xpdone (by kernel_rfl) ?_
      refine xthen ?_
      by_cases hp244 : ¬ (y243 = true)
      ·replace h := h.1 hp244
       refine xcondT' (not_t (b_f hp244)) rfl ?_
       refine xskipc ?_
       refine xthen ?_
       refine xblock ?_
       refine sr_ ?_
       refine mv_ ?_
       refine mv_ ?_
       obtain ⟨y246, h245, h⟩ := h
       obtain ⟨m245, hm245, h245⟩ := hc_bre_parser_piece _ _ _ h245
       refine xcallF (Fb := []) (Ft := [⟨i184, 3, 1, x183.length⟩]) ((ih m245 hm245).2.1 ((f186, f188), f189, f190, f191) x185 bx0 i187 _ h245) Try.func23 (by kernel_rfl) rfl (.cons rfl (.refl _) (.cons rfl (.refl _) .nil)) (by exact sm_) rfl rfl ?_
       rintro _ _ _ ⟨i247, rfl, rfl, rfl⟩
       simp only [List.nil_append, List.cons_append]
       refine mv_ ?_
       refine vp_ (pv_extract rfl rfl) ?_
       refine vp_ (pv_extract rfl rfl) ?_
       refine as_ ?_
       refine as_ ?_
       refine nt_ ?_
       refine xseq ?_
       refine sr_ ?_
       refine mv_ ?_
       refine vp_ (pv_nePt UndC.h rfl rfl) ?_
       refine nt_ ?_
       by_cases hp251 : ¬ ((List.isEmpty y246.2.1) = true)
       ·replace h := h.1 hp251
        refine xcondT' (not_t (b_f hp251)) rfl ?_
        refine sr_ ?_
        refine mv_ ?_
        refine as_ ?_
        refine as_ ?_
        refine nt_ ?_
        refine xretc ?_
        refine xthen_ret ?_
        refine xin_ret ?_
        refine xthen_ret ?_
        refine xin_ret ?_
        refine xthen_ret ?_
        replace h := h.symm
        subst h
        exact xret2 hg rfl rfl (.refl _) rfl (.refl _) (SubM.of (.keep rfl rfl (.refl _) (.nil _)) (.keep rfl (.nil _))) ⟨i247, rfl, rfl, rfl⟩
       ·replace h := h.2 hp251
        refine xcondF' (not_f (Decidable.of_not_not hp251)) rfl ?_
        refine xskipc ?_
        refine xthen ?_
        refine xregion ?_
        refine mv_ ?_
        refine mv_ ?_
        refine xbuildSliceM (f := ei) [y246.1] UndC.h InfC.h rfl rfl wr_ rfl rfl rfl rfl fun s59 => ?_
        obtain ⟨h252, h⟩ := h
        refine xappendM (l := x183) (l2 := [y246.1]) 2 h252 UndC.h InfC.h rfl rfl rfl (.refl _) rfl rfl rfl fun i253 => ?_
        refine as_ ?_
        refine as_ ?_
        refine xnil ?_
        refine xin_normal ?_
        obtain ⟨m', hm, hI⟩ := hag3 _ h
        exact xagain ⟨(x183 ++ [y246.1]), false, y246.2.2.1.1, y246.2.2.1.2, y246.2.2.2.1, y246.2.2.2.2.1, y246.2.2.2.2.2, i253, i247, hI, rfl⟩ hm ⟨lk_, by refine SubM.trans (SubM.mvT 1 rfl) ?_; refine SubM.trans (SubM.mvT 2 rfl) ?_; (simp only [List.eraseIdx]); exact sm_⟩
      ·replace h := h.2 hp244
       refine xcondF' (not_f (Decidable.of_not_not hp244)) rfl ?_
       refine xexit ?_
       refine xthen_exit ?_
       refine xthen_exit ?_
       refine xin_same rfl ?_
       exact xmeet ⟨x183, f186, f188, f189, f190, f191, i184, i187, h, rfl⟩ ⟨lk_, (SubM.of (.keep rfl rfl (.refl _) (.nil _)) (.keep rfl (.keep rfl (.nil _))))⟩
     ·replace h := h.2 hp241
      refine psetB 43 (decide_eq_false hp241) rfl ?_
      refine xpskip 11 rfl rfl rfl (by kernel_rfl) (by kernel_rfl) (by kernel_rfl) (fun _ _ _ _ h => h) ?_
      refine xpskip 12 rfl rfl rfl (by kernel_rfl) (by kernel_rfl) (by kernel_rfl) (fun _ _ _ _ h => h) ?_
      refine xpskip 13 rfl rfl rfl (by kernel_rfl) (by kernel_rfl) (by kernel_rfl) (fun _ _ _ _ h => h) ?_
      refine pl_ 14 rfl (pv_pick rfl rfl) ?_
      refine xpdone (by kernel_rfl) ?_
      refine xthen ?_
      refine xcondF rfl ?_
      refine xexit ?_
      refine xthen_exit ?_
      refine xthen_exit ?_
      refine xin_same rfl ?_
      exact xmeet ⟨x183, f186, f188, f189, f190, f191, i184, i187, h, rfl⟩ ⟨lk_, by refine SubM.trans (SubM.mvT 0 rfl) ?_; refine SubM.trans (SubM.mvT 1 rfl) ?_; (simp only [List.eraseIdx]); exact sm_⟩
    ·clear h
     rintro _ ⟨x144, f146, f148, f149, f150, f151, i145, i147, h, rfl⟩
     refine xseq ?_
     refine xseq ?_
     refine xregionD (m := 12) (by kernel_rfl) rfl ?_
     refine pl_ 0 rfl (pv_move rfl) ?_
     refine pl_ 1 rfl (pv_move rfl) ?_
     refine pl_ 2 rfl (pv_nilCheck rfl) ?_
     refine pl_ 3 rfl (qv_fieldAddrB FldC.h rfl) ?_
     refine pl_ 5 rfl (pv_move rfl) ?_
     refine pl_ 6 rfl (pv_nilCheck rfl) ?_
     refine pl_ 7 rfl (qv_fieldAddrB FldC.h rfl) ?_
     refine xpvalE 4 [8, 9] rfl (qv_loadB 0 ShpC.h rfl rfl rfl rfl) rfl rfl (by kernel_rfl) (by kernel_rfl) (by kernel_rfl) (fun _ _ _ _ h => h) ?_
     refine xpvalE 8 [] rfl (qv_loadB 0 ShpC.h rfl rfl rfl rfl) rfl rfl (by kernel_rfl) (by kernel_rfl) (by kernel_rfl) (fun _ _ _ _ h => h) ?_
     refine pl_ 9 rfl (pv_lenM UndC.h rfl) ?_
     refine pl_ 10 rfl (pv_bin2 rfl rfl rfl) ?_
     refine pl_ 11 rfl (pv_eqB UndC.h rfl rfl) ?_
     refine xpdone (by kernel_rfl) ?_
     refine xthen ?_
     by_cases hp269 : (x3 == (decide (f150 = (f149.length : Int)))) = true
     ·replace h := h.1 hp269
      refine xcondT' hp269 rfl ?_
      refine sr_ ?_
      refine mv_ ?_
      obtain ⟨y271, h270, h⟩ := h
      refine xcallF (Fb := []) (Ft := [⟨i145, 3, 1, x144.length⟩]) (bre_parser_fail_con ((f146, f148), f149, f150, f151) 14 bx0 i147 _ h270) Try.func22 (by kernel_rfl) rfl (.cons rfl (.refl _) (.cons rfl (.refl _) .nil)) (by exact sm_) rfl rfl ?_
      rintro _ _ _ ⟨rfl, rfl, rfl⟩
      simp only [List.nil_append, List.cons_append]
      refine as_ ?_
      refine as_ ?_
      refine nt_ ?_
      refine xretc ?_
      refine xthen_ret ?_
      replace h := h.symm
      subst h
      exact xret2 hg rfl rfl (.refl _) rfl (.refl _) (SubM.of (.keep rfl rfl (.refl _) (.nil _)) (.keep rfl (.nil _))) ⟨i147, rfl, rfl, rfl⟩
     ·replace h := h.2 hp269
      refine xcondF' (b_f hp269) rfl ?_
      refine xskipc ?_
      refine xthen ?_
      refine sr_ ?_
      refine mv_ ?_
      refine vp_ (pv_nilCheck rfl) ?_
      refine vp_ (qv_fieldAddrB FldC.h rfl) ?_
      refine mv_ ?_
      obtain ⟨y273, h272, h⟩ := h
      refine xcallF (Fb := []) (Ft := [⟨i145, 3, 1, x144.length⟩]) (tree_Builder_Cat_con ((f146, f148), f149, f150, f151) x144 bx0 i147 _ h272) Try.func24 (by kernel_rfl) rfl (.cons rfl (.refl _) (.cons rfl (.tok _ _ _) .nil)) (by exact sm_) rfl rfl ?_
      rintro _ _ _ ⟨i274, rfl, rfl, rfl⟩
      simp only [List.nil_append, List.cons_append]
      refine as_ ?_
      refine nt_ ?_
      refine xseq ?_
      refine sr_ ?_
      refine mv_ ?_
      refine vp_ (pv_bin2 rfl rfl rfl) ?_
      refine nt_ ?_
      by_cases hp280 : y273.1 < 0
      ·replace h := h.1 hp280
       refine xcondT' (decide_eq_true hp280) rfl ?_
       refine sr_ ?_
       refine mv_ ?_
       obtain ⟨y282, h281, h⟩ := h
       refine xcallF (Fb := []) (Ft := [⟨i145, 3, 1, x144.length⟩]) (bre_parser_fail_con ((y273.2.1.1, y273.2.1.2), y273.2.2.1, y273.2.2.2.1, y273.2.2.2.2) 8 bx0 i274 _ h281) Try.func22 (by kernel_rfl) rfl (.cons rfl (.refl _) (.cons rfl (.refl _) .nil)) (by exact sm_) rfl rfl ?_
       rintro _ _ _ ⟨rfl, rfl, rfl⟩
       simp only [List.nil_append, List.cons_append]
       refine as_ ?_
       refine as_ ?_
       refine nt_ ?_
       refine xretc ?_
       refine xthen_ret ?_
       replace h := h.symm
       subst h
       exact xret2 hg rfl rfl (.refl _) rfl (.refl _) (SubM.of (.keep rfl rfl (.refl _) (.nil _)) (.keep rfl (.nil _))) ⟨i274, rfl, rfl, rfl⟩
      ·replace h := h.2 hp280
       refine xcondF' (decide_eq_false hp280) rfl ?_
       refine xskipc ?_
       refine xthen ?_
       refine sr_ ?_
       refine mv_ ?_
       refine as_ ?_
       refine as_ ?_
       refine nt_ ?_
       refine xretc ?_
       replace h := h.symm
       subst h
       exact xret2 hg rfl rfl (.refl _) rfl (Wk.nil_pt _) (SubM.of (.keep rfl rfl (.refl _) (.nil _)) (.keep rfl (.nil _))) ⟨i274, rfl, rfl, rfl⟩
  ·intro o1 first3 bx0 ia2 r h
   obtain ⟨c_bre_parser_branch, c_bre_parser_piece, c_bre_parser_atom, c_bre_parser_escape, c_bre_parser_group, hc_bre_parser_branch, hc_bre_parser_piece, hc_bre_parser_atom, hc_bre_parser_escape, hc_bre_parser_group, h⟩ : ∃ (c_bre_parser_branch : (((List (Int × Int × Int × Int × Int × Int × (Arr 4 (UInt64)))) × Int) × (List UInt8) × Int × (Arr 10 (Bool))) → (Bool) → (Int × (List (Int × Int)) × (((List (Int × Int × Int × Int × Int × Int × (Arr 4 (UInt64)))) × Int) × (List UInt8) × Int × (Arr 10 (Bool)))) → Prop) (c_bre_parser_piece : (((List (Int × Int × Int × Int × Int × Int × (Arr 4 (UInt64)))) × Int) × (List UInt8) × Int × (Arr 10 (Bool))) → (Bool) → (Int × (List (Int × Int)) × (((List (Int × Int × Int × Int × Int × Int × (Arr 4 (UInt64)))) × Int) × (List UInt8) × Int × (Arr 10 (Bool)))) → Prop) (c_bre_parser_atom : (((List (Int × Int × Int × Int × Int × Int × (Arr 4 (UInt64)))) × Int) × (List UInt8) × Int × (Arr 10 (Bool))) → (Int × (List (Int × Int)) × (((List (Int × Int × Int × Int × Int × Int × (Arr 4 (UInt64)))) × Int) × (List UInt8) × Int × (Arr 10 (Bool)))) → Prop) (c_bre_parser_escape : (((List (Int × Int × Int × Int × Int × Int × (Arr 4 (UInt64)))) × Int) × (List UInt8) × Int × (Arr 10 (Bool))) → (Int × (List (Int × Int)) × (((List (Int × Int × Int × Int × Int × Int × (Arr 4 (UInt64)))) × Int) × (List UInt8) × Int × (Arr 10 (Bool)))) → Prop) (c_bre_parser_group : (((List (Int × Int × Int × Int × Int × Int × (Arr 4 (UInt64)))) × Int) × (List UInt8) × Int × (Arr 10 (Bool))) → (Int × (List (Int × Int)) × (((List (Int × Int × Int × Int × Int × Int × (Arr 4 (UInt64)))) × Int) × (List UInt8) × Int × (Arr 10 (Bool)))) → Prop), (∀ a0 a1 r, c_bre_parser_branch a0 a1 r → ∃ m', m' < m ∧ S1 m' a0 a1 r) ∧ (∀ a0 a1 r, c_bre_parser_piece a0 a1 r → ∃ m', m' < m ∧ S2 m' a0 a1 r) ∧ (∀ a0 r, c_bre_parser_atom a0 r → ∃ m', m' < m ∧ S3 m' a0 r) ∧ (∀ a0 r, c_bre_parser_escape a0 r → ∃ m', m' < m ∧ S4 m' a0 r) ∧ (∀ a0 r, c_bre_parser_group a0 r → ∃ m', m' < m ∧ S5 m' a0 r) ∧ bre_parser_piece_B c_bre_parser_branch c_bre_parser_piece c_bre_parser_atom c_bre_parser_escape c_bre_parser_group o1 first3 r := ⟨_, _, _, _, _, fun _ _ _ h => h, fun _ _ _ h => h, fun _ _ h => h, fun _ _ h => h, fun _ _ h => h, H.2.1 m o1 first3 r h⟩
   refine xenter Try.func23 rfl rfl fun g hg => ?_
   simp only [Try.ntmps23, slots]
   refine sr_ ?_
   refine as_ ?_
   refine as_ ?_
   refine nt_ ?_
   refine xseq ?_
   refine xseqM (fun σ => ∃ (x17 : Bool), bre_parser_piece_j1 o1 first3 c_bre_parser_atom x17 r ∧ σ = ⟨[(0, .v (.pointer (some ⟨bx0, 0, none⟩))), (1, .v (.bool first3)), (12, .v (.bool x17))], [⟨bx0, 50, ([.sl 10 (some ia2) (List.map E_palinode_api_Node o1.1.1), .v (.int .i64 o1.1.2), .sl 1 none (List.map eb o1.2.1), .v (.int .i64 o1.2.2.1)] ++ (List.map eB o1.2.2.2.l).flatten)⟩], [⟨ia2, 42, 10, o1.1.1.length⟩]⟩) ?_ ?_
   ·refine xregion ?_
    refine mv_ ?_
    refine mv_ ?_
    by_cases hp18 : first3 = true
    ·replace h := h.1 hp18
     refine xsetB 9 hp18 rfl ?_
     refine mv_ ?_
     obtain ⟨y20, h19, h⟩ := h
     refine xcallF (Fb := []) (Ft := []) (bre_parser_has_con ((o1.1.1, o1.1.2), o1.2.1, o1.2.2.1, o1.2.2.2) (⟨#[92, 123]⟩ : ByteArray) bx0 ia2 _ h19) Try.func20 (by kernel_rfl) rfl (.cons rfl (.refl _) (.cons rfl (.refl _) .nil)) (by exact sm_) rfl rfl ?_
     rintro _ _ _ ⟨rfl, rfl, rfl⟩
     simp only [List.nil_append, List.cons_append]
     refine pk_ ?_
     refine xnil ?_
     exact xmeet ⟨y20, h, rfl⟩ ⟨lk_, (SubM.of (.keep rfl rfl (.refl _) (.nil _)) (.keep rfl (.nil _)))⟩
    ·replace h := h.2 hp18
     refine xsetB 9 (b_f hp18) rfl ?_
     refine sk_ ?_
     refine sk_ ?_
     refine pk_ ?_
     refine xnil ?_
     exact xmeet ⟨false, h, rfl⟩ ⟨lk_, (SubM.of (.keep rfl rfl (.refl _) (.nil _)) (.keep rfl (.nil _)))⟩
   ·clear h
    rintro _ ⟨x17, h, rfl⟩
    by_cases hp21 : x17 = true
    ·replace h := h.1 hp21
     refine xcondT' hp21 rfl ?_
     refine sr_ ?_
     refine mv_ ?_
     obtain ⟨y23, h22, h⟩ := h
     refine xcallF (Fb := []) (Ft := []) (bre_parser_fail_con ((o1.1.1, o1.1.2), o1.2.1, o1.2.2.1, o1.2.2.2) 13 bx0 ia2 _ h22) Try.func22 (by kernel_rfl) rfl (.cons rfl (.refl _) (.cons rfl (.refl _) .nil)) (by exact sm_) rfl rfl ?_
     rintro _ _ _ ⟨rfl, rfl, rfl⟩
     simp only [List.nil_append, List.cons_append]
     refine as_ ?_
     refine as_ ?_
     refine nt_ ?_
     refine xretc ?_
     refine xthen_ret ?_
     replace h := h.symm
     subst h
     exact xret2 hg rfl rfl (.refl _) rfl (.refl _) (SubM.of (.keep rfl rfl (.refl _) (.nil _)) (.keep rfl (.nil _))) ⟨ia2, rfl, rfl, rfl⟩
    ·replace h := h.2 hp21
     refine xcondF' (b_f hp21) rfl ?_
     refine xskipc ?_
     refine xthen ?_
     refine sr_ ?_
     refine as_ ?_
     refine nt_ ?_
     refine sr_ ?_
     refine as_ ?_
     refine nt_ ?_
     refine xseqM (fun σ => ∃ (k38 : Int), ∃ (w39 : List (Int × Int)), ∃ (f40 : List (Int × Int × Int × Int × Int × Int × (Arr 4 (UInt64)))), ∃ (f42 : Int), ∃ (f43 : List UInt8), ∃ (f44 : Int), ∃ (f45 : Arr 10 (Bool)), ∃ (i41 : Option (Nat × Nat)), bre_parser_piece_j2 k38 w39 f40 f42 f43 f44 f45 r ∧ σ = ⟨[(0, .v (.pointer (some ⟨bx0, 0, none⟩))), (6, .v (.int .i64 k38)), (7, .pt (List.isEmpty w39) (PC_palinode_bre_wrong w39))], [⟨bx0, 50, ([.sl 10 (some i41) (List.map E_palinode_api_Node f40), .v (.int .i64 f42), .sl 1 none (List.map eb f43), .v (.int .i64 f44)] ++ (List.map eB f45.l).flatten)⟩], [⟨i41, 42, 10, f40.length⟩]⟩) ?_ ?_
     ·refine xseqM (fun σ => ∃ (x49 : Bool), bre_parser_piece_j3 o1 c_bre_parser_atom x49 r ∧ σ = ⟨[(0, .v (.pointer (some ⟨bx0, 0, none⟩))), (7, .v (.pointer none)), (19, .v (.bool x49))], [⟨bx0, 50, ([.sl 10 (some ia2) (List.map E_palinode_api_Node o1.1.1), .v (.int .i64 o1.1.2), .sl 1 none (List.map eb o1.2.1), .v (.int .i64 o1.2.2.1)] ++ (List.map eB o1.2.2.2.l).flatten)⟩], [⟨ia2, 42, 10, o1.1.1.length⟩]⟩) ?_ ?_
      ·refine xregion ?_
       refine mv_ ?_
       refine mv_ ?_
       by_cases hp50 : first3 = true
       ·replace h := h.1 hp50
        refine xsetB 16 hp50 rfl ?_
        refine mv_ ?_
        obtain ⟨y52, h51, h⟩ := h
        refine xcallF (Fb := []) (Ft := []) (bre_parser_has_con ((o1.1.1, o1.1.2), o1.2.1, o1.2.2.1, o1.2.2.2) (⟨#[42]⟩ : ByteArray) bx0 ia2 _ h51) Try.func20 (by kernel_rfl) rfl (.cons rfl (.refl _) (.cons rfl (.refl _) .nil)) (by exact sm_) rfl rfl ?_
        rintro _ _ _ ⟨rfl, rfl, rfl⟩
        simp only [List.nil_append, List.cons_append]
        refine pk_ ?_
        refine xnil ?_
        exact xmeet ⟨y52, h, rfl⟩ ⟨lk_, (SubM.of (.keep rfl rfl (.refl _) (.nil _)) (.keep rfl (.nil _)))⟩
       ·replace h := h.2 hp50
        refine xsetB 16 (b_f hp50) rfl ?_
        refine sk_ ?_
        refine sk_ ?_
        refine pk_ ?_
        refine xnil ?_
        exact xmeet ⟨false, h, rfl⟩ ⟨lk_, (SubM.of (.keep rfl rfl (.refl _) (.nil _)) (.keep rfl (.nil _)))⟩
      ·clear h
       rintro _ ⟨x49, h, rfl⟩
       by_cases hp53 : x49 = true
       ·replace h := h.1 hp53
        refine xcondT' hp53 rfl ?_
        refine xregion ?_
        refine mv_ ?_
        obtain ⟨y55, h54, h⟩ := h
        refine xcallF (Fb := []) (Ft := []) (bre_parser_one_con ((o1.1.1, o1.1.2), o1.2.1, o1.2.2.1, o1.2.2.2) (42 : UInt8) bx0 ia2 _ h54) Try.func32 (by kernel_rfl) rfl (.cons rfl (.refl _) (.cons rfl (.refl _) .nil)) (by exact sm_) rfl rfl ?_
        rintro _ _ _ ⟨i56, rfl, rfl, rfl⟩
        simp only [List.nil_append, List.cons_append]
        refine as_ ?_
        refine xnil ?_
        exact xmeet ⟨y55.1, ([] : List (Int × Int)), y55.2.1.1, y55.2.1.2, y55.2.2.1, y55.2.2.2.1, y55.2.2.2.2, i56, h, rfl⟩ ⟨(.cons rfl (.refl _) (.cons rfl (.refl _) (.cons rfl (Wk.nil_pt _) (.nil _)))), (SubM.of (.keep rfl rfl (.refl _) (.nil _)) (.keep rfl (.nil _)))⟩
       ·replace h := h.2 hp53
        refine xcondF' (b_f hp53) rfl ?_
        refine xregion ?_
        refine mv_ ?_
        obtain ⟨y58, h57, h⟩ := h
        obtain ⟨m57, hm57, h57⟩ := hc_bre_parser_atom _ _ h57
        refine xcallF (Fb := []) (Ft := []) ((ih m57 hm57).2.2.1 ((o1.1.1, o1.1.2), o1.2.1, o1.2.2.1, o1.2.2.2) bx0 ia2 _ h57) Try.func33 (by kernel_rfl) rfl (.cons rfl (.refl _) .nil) (by exact sm_) rfl rfl ?_
        rintro _ _ _ ⟨i59, rfl, rfl, rfl⟩
        simp only [List.nil_append, List.cons_append]
        refine mv_ ?_
        refine vp_ (pv_extract rfl rfl) ?_
        refine vp_ (pv_extract rfl rfl) ?_
        refine as_ ?_
        refine as_ ?_
        refine xnil ?_
        exact xmeet ⟨y58.1, y58.2.1, y58.2.2.1.1, y58.2.2.1.2, y58.2.2.2.1, y58.2.2.2.2.1, y58.2.2.2.2.2, i59, h, rfl⟩ ⟨lk_, (SubM.of (.keep rfl rfl (.refl _) (.nil _)) (.keep rfl (.nil _)))⟩
     ·clear h
      rintro _ ⟨k38, w39, f40, f42, f43, f44, f45, i41, h, rfl⟩
      refine xseq ?_
      refine xblock ?_
      obtain ⟨Inv, ⟨m0, hI⟩, hS⟩ := h
      refine xloop (fun σ m => ∃ (k240 : Int), ∃ (w241 : List (Int × Int)), ∃ (f242 : List (Int × Int × Int × Int × Int × Int × (Arr 4 (UInt64)))), ∃ (f244 : Int), ∃ (f245 : List UInt8), ∃ (f246 : Int), ∃ (f247 : Arr 10 (Bool)), ∃ (i243 : Option (Nat × Nat)), Inv (k240, w241, f242, f244, f245, f246, f247) m ∧ σ = ⟨[(0, .v (.pointer (some ⟨bx0, 0, none⟩))), (6, .v (.int .i64 k240)), (7, .pt (List.isEmpty w241) (PC_palinode_bre_wrong w241))], [⟨bx0, 50, ([.sl 10 (some i243) (List.map E_palinode_api_Node f242), .v (.int .i64 f244), .sl 1 none (List.map eb f245), .v (.int .i64 f246)] ++ (List.map eB f247.l).flatten)⟩], [⟨i243, 42, 10, f242.length⟩]⟩) ⟨k38, w39, f40, f42, f43, f44, f45, i41, hI, rfl⟩ (by exact ⟨lk_, (SubM.of (.keep rfl rfl (.refl _) (.nil _)) (.keep rfl (.nil _)))⟩) ?_
      rintro _ m ⟨k240, w241, f242, f244, f245, f246, f247, i243, hI, rfl⟩
      obtain ⟨ag4, hag4, h⟩ : ∃ ag, (∀ s', ag s' → ∃ m', m' < m ∧ Inv s' m') ∧ bre_parser_piece_l4 ag k240 w241 f242 f244 f245 f246 f247 r := ⟨_, fun _ h => h, hS (k240, w241, f242, f244, f245, f246, f247) _ hI⟩
      clear hS hI
      refine xseq ?_
      refine xseqM (fun σ => ∃ (x320 : Bool), bre_parser_piece_j5 f242 f244 f245 f246 f247 k240 ag4 w241 x320 r ∧ σ = ⟨[(0, .v (.pointer (some ⟨bx0, 0, none⟩))), (6, .v (.int .i64 k240)), (7, .pt (List.isEmpty w241) (PC_palinode_bre_wrong w241)), (40, .v (.bool x320))], [⟨bx0, 50, ([.sl 10 (some i243) (List.map E_palinode_api_Node f242), .v (.int .i64 f244), .sl 1 none (List.map eb f245), .v (.int .i64 f246)] ++ (List.map eB f247.l).flatten)⟩], [⟨i243, 42, 10, f242.length⟩]⟩) ?_ ?_
      ·refine xregion ?_
       refine mv_ ?_
       refine vp_ (pv_eqPt UndC.h rfl rfl) ?_
       refine mv_ ?_
       by_cases hp322 : (List.isEmpty w241) = true
       ·replace h := h.1 hp322
        refine xsetB 29 hp322 rfl ?_
        refine mv_ ?_
        refine vp_ (pv_bin2 rfl rfl rfl) ?_
        refine pk_ ?_
        refine mv_ ?_
        by_cases hp324 : 0 ≤ k240
        ·replace h := h.1 hp324
         refine xsetB 33 (decide_eq_true hp324) rfl ?_
         refine mv_ ?_
         obtain ⟨y326, h325, h⟩ := h
         refine xcallF (Fb := []) (Ft := []) (bre_parser_has_con ((f242, f244), f245, f246, f247) (⟨#[42]⟩ : ByteArray) bx0 i243 _ h325) Try.func20 (by kernel_rfl) rfl (.cons rfl (.refl _) (.cons rfl (.refl _) .nil)) (by exact sm_) rfl rfl ?_
         rintro _ _ _ ⟨rfl, rfl, rfl⟩
         simp only [List.nil_append, List.cons_append]
         refine mv_ ?_
         by_cases hp327 : y326 = true
         ·replace h := h.1 hp327
          refine xsetB 36 hp327 rfl ?_
          refine sk_ ?_
          refine sk_ ?_
          refine pk_ ?_
          refine pk_ ?_
          refine xnil ?_
          exact xmeet ⟨true, h, rfl⟩ ⟨lk_, (SubM.of (.keep rfl rfl (.refl _) (.nil _)) (.keep rfl (.nil _)))⟩
         ·replace h := h.2 hp327
          refine xsetB 36 (b_f hp327) rfl ?_
          refine mv_ ?_
          obtain ⟨y329, h328, h⟩ := h
          refine xcallF (Fb := []) (Ft := []) (bre_parser_has_con ((f242, f244), f245, f246, f247) (⟨#[92, 123]⟩ : ByteArray) bx0 i243 _ h328) Try.func20 (by kernel_rfl) rfl (.cons rfl (.refl _) (.cons rfl (.refl _) .nil)) (by exact sm_) rfl rfl ?_
          rintro _ _ _ ⟨rfl, rfl, rfl⟩
          simp only [List.nil_append, List.cons_append]
          refine pk_ ?_
          refine pk_ ?_
          refine xnil ?_
          exact xmeet ⟨y329, h, rfl⟩ ⟨lk_, (SubM.of (.keep rfl rfl (.refl _) (.nil _)) (.keep rfl (.nil _)))⟩
        ·replace h := h.2 hp324
         refine xsetB 33 (decide_eq_false hp324) rfl ?_
         refine sk_ ?_
         refine sk_ ?_
         refine sk_ ?_
         refine sk_ ?_
         refine sk_ ?_
         refine sk_ ?_
         refine pk_ ?_
         refine xnil ?_
         exact xmeet ⟨false, h, rfl⟩ ⟨lk_, (SubM.of (.keep rfl rfl (.refl _) (.nil _)) (.keep rfl (.nil _)))⟩
       ·replace h := h.2 hp322
        refine xsetB 29 (b_f hp322) rfl ?_
        refine sk_ ?_
        refine sk_ ?_
        refine pk_ ?_
        refine mv_ ?_
        refine sk_ ?_
        refine sk_ ?_
        refine sk_ ?_
        refine sk_ ?_
        refine sk_ ?_
        refine sk_ ?_
        refine pk_ ?_
        refine xnil ?_
        exact xmeet ⟨false, h, rfl⟩ ⟨lk_, (SubM.of (.keep rfl rfl (.refl _) (.nil _)) (.keep rfl (.nil _)))⟩
      ·clear h
       rintro _ ⟨x320, h, rfl⟩
       by_cases hp330 : x320 = true
       ·replace h := h.1 hp330
        refine xcondT' hp330 rfl ?_
        refine xskipc ?_
        refine xthen ?_
        refine xblock ?_
        refine xregion ?_
        refine mv_ ?_
        refine mv_ ?_
        obtain ⟨y332, h331, h⟩ := h
        refine xcallF (Fb := []) (Ft := []) (bre_parser_repeat_con ((f242, f244), f245, f246, f247) k240 bx0 i243 _ h331) Try.func34 (by kernel_rfl) rfl (.cons rfl (.refl _) (.cons rfl (.refl _) .nil)) (by exact sm_) rfl rfl ?_
        rintro _ _ _ ⟨i333, rfl, rfl, rfl⟩
        simp only [List.nil_append, List.cons_append]
        refine mv_ ?_
        refine vp_ (pv_extract rfl rfl) ?_
        refine vp_ (pv_extract rfl rfl) ?_
        refine as_ ?_
        refine as_ ?_
        refine xnil ?_
        refine xin_normal ?_
        obtain ⟨m', hm, hI⟩ := hag4 _ h
        exact xagain ⟨y332.1, y332.2.1, y332.2.2.1.1, y332.2.2.1.2, y332.2.2.2.1, y332.2.2.2.2.1, y332.2.2.2.2.2, i333, hI, rfl⟩ hm ⟨lk_, (SubM.of (.keep rfl rfl (.refl _) (.nil _)) (.keep rfl (.nil _)))⟩
       ·replace h := h.2 hp330
        refine xcondF' (b_f hp330) rfl ?_
        refine xexit ?_
        refine xthen_exit ?_
        refine xthen_exit ?_
        refine xin_same rfl ?_
        refine xthen ?_
        refine xseqM (fun σ => ∃ (w344 : List (Int × Int)), bre_parser_piece_j6 k240 f242 f244 f245 f246 f247 w344 r ∧ σ = ⟨[(6, .v (.int .i64 k240)), (7, .pt (List.isEmpty w344) (PC_palinode_bre_wrong w344))], [⟨bx0, 50, ([.sl 10 (some i243) (List.map E_palinode_api_Node f242), .v (.int .i64 f244), .sl 1 none (List.map eb f245), .v (.int .i64 f246)] ++ (List.map eB f247.l).flatten)⟩], [⟨i243, 42, 10, f242.length⟩]⟩) ?_ ?_
        ·refine xseqM (fun σ => ∃ (x348 : Bool), bre_parser_piece_j7 f242 f244 f245 f246 f247 k240 w241 x348 r ∧ σ = ⟨[(0, .v (.pointer (some ⟨bx0, 0, none⟩))), (6, .v (.int .i64 k240)), (7, .pt (List.isEmpty w241) (PC_palinode_bre_wrong w241)), (52, .v (.bool x348))], [⟨bx0, 50, ([.sl 10 (some i243) (List.map E_palinode_api_Node f242), .v (.int .i64 f244), .sl 1 none (List.map eb f245), .v (.int .i64 f246)] ++ (List.map eB f247.l).flatten)⟩], [⟨i243, 42, 10, f242.length⟩]⟩) ?_ ?_
         ·refine xregion ?_
          refine mv_ ?_
          refine vp_ (pv_eqPt UndC.h rfl rfl) ?_
          refine mv_ ?_
          by_cases hp350 : (List.isEmpty w241) = true
          ·rw [and_tt (show (List.isEmpty w241) = true from hp350)] at h
           refine xsetB 49 hp350 rfl ?_
           refine mv_ ?_
           refine vp_ (pv_bin2 rfl rfl rfl) ?_
           refine pk_ ?_
           refine xnil ?_
           exact xmeet ⟨(decide (k240 < 0)), h, rfl⟩ ⟨lk_, (SubM.of (.keep rfl rfl (.refl _) (.nil _)) (.keep rfl (.nil _)))⟩
          ·rw [and_ff (show (List.isEmpty w241) = false from (b_f hp350))] at h
           refine xsetB 49 (b_f hp350) rfl ?_
           refine sk_ ?_
           refine sk_ ?_
           refine pk_ ?_
           refine xnil ?_
           exact xmeet ⟨false, h, rfl⟩ ⟨lk_, (SubM.of (.keep rfl rfl (.refl _) (.nil _)) (.keep rfl (.nil _)))⟩
         ·clear h
          rintro _ ⟨x348, h, rfl⟩
          by_cases hp352 : x348 = true
          ·replace h := h.1 hp352
           refine xcondT' hp352 rfl ?_
           refine xregion ?_
           refine mv_ ?_
           obtain ⟨y354, h353, h⟩ := h
           refine xcallF (Fb := []) (Ft := []) (bre_parser_fail_con ((f242, f244), f245, f246, f247) 8 bx0 i243 _ h353) Try.func22 (by kernel_rfl) rfl (.cons rfl (.refl _) (.cons rfl (.refl _) .nil)) (by exact sm_) rfl rfl ?_
           rintro _ _ _ ⟨rfl, rfl, rfl⟩
           simp only [List.nil_append, List.cons_append]
           refine as_ ?_
           refine xnil ?_
           exact xmeet ⟨y354, h, rfl⟩ ⟨lk_, (SubM.of (.keep rfl rfl (.refl _) (.nil _)) (.keep rfl (.nil _)))⟩
          ·replace h := h.2 hp352
           refine xcondF' (b_f hp352) rfl ?_
           refine xskipc ?_
           exact xmeet ⟨w241, h, rfl⟩ ⟨lk_, (SubM.of (.keep rfl rfl (.refl _) (.nil _)) (.keep rfl (.nil _)))⟩
        ·clear h
         rintro _ ⟨w344, h, rfl⟩
         refine sr_ ?_
         refine mv_ ?_
         refine mv_ ?_
         refine as_ ?_
         refine as_ ?_
         refine nt_ ?_
         refine xretc ?_
         replace h := h.symm
         subst h
         exact xret2 hg rfl rfl (.refl _) rfl (.refl _) (SubM.of (.keep rfl rfl (.refl _) (.nil _)) (.keep rfl (.nil _))) ⟨i243, rfl, rfl, rfl⟩
  ·intro o1 bx0 ia2 r h
   obtain ⟨c_bre_parser_branch, c_bre_parser_piece, c_bre_parser_atom, c_bre_parser_escape, c_bre_parser_group, hc_bre_parser_branch, hc_bre_parser_piece, hc_bre_parser_atom, hc_bre_parser_escape, hc_bre_parser_group, h⟩ : ∃ (c_bre_parser_branch : (((List (Int × Int × Int × Int × Int × Int × (Arr 4 (UInt64)))) × Int) × (List UInt8) × Int × (Arr 10 (Bool))) → (Bool) → (Int × (List (Int × Int)) × (((List (Int × Int × Int × Int × Int × Int × (Arr 4 (UInt64)))) × Int) × (List UInt8) × Int × (Arr 10 (Bool)))) → Prop) (c_bre_parser_piece : (((List (Int × Int × Int × Int × Int × Int × (Arr 4 (UInt64)))) × Int) × (List UInt8) × Int × (Arr 10 (Bool))) → (Bool) → (Int × (List (Int × Int)) × (((List (Int × Int × Int × Int × Int × Int × (Arr 4 (UInt64)))) × Int) × (List UInt8) × Int × (Arr 10 (Bool)))) → Prop) (c_bre_parser_atom : (((List (Int × Int × Int × Int × Int × Int × (Arr 4 (UInt64)))) × Int) × (List UInt8) × Int × (Arr 10 (Bool))) → (Int × (List (Int × Int)) × (((List (Int × Int × Int × Int × Int × Int × (Arr 4 (UInt64)))) × Int) × (List UInt8) × Int × (Arr 10 (Bool)))) → Prop) (c_bre_parser_escape : (((List (Int × Int × Int × Int × Int × Int × (Arr 4 (UInt64)))) × Int) × (List UInt8) × Int × (Arr 10 (Bool))) → (Int × (List (Int × Int)) × (((List (Int × Int × Int × Int × Int × Int × (Arr 4 (UInt64)))) × Int) × (List UInt8) × Int × (Arr 10 (Bool)))) → Prop) (c_bre_parser_group : (((List (Int × Int × Int × Int × Int × Int × (Arr 4 (UInt64)))) × Int) × (List UInt8) × Int × (Arr 10 (Bool))) → (Int × (List (Int × Int)) × (((List (Int × Int × Int × Int × Int × Int × (Arr 4 (UInt64)))) × Int) × (List UInt8) × Int × (Arr 10 (Bool)))) → Prop), (∀ a0 a1 r, c_bre_parser_branch a0 a1 r → ∃ m', m' < m ∧ S1 m' a0 a1 r) ∧ (∀ a0 a1 r, c_bre_parser_piece a0 a1 r → ∃ m', m' < m ∧ S2 m' a0 a1 r) ∧ (∀ a0 r, c_bre_parser_atom a0 r → ∃ m', m' < m ∧ S3 m' a0 r) ∧ (∀ a0 r, c_bre_parser_escape a0 r → ∃ m', m' < m ∧ S4 m' a0 r) ∧ (∀ a0 r, c_bre_parser_group a0 r → ∃ m', m' < m ∧ S5 m' a0 r) ∧ bre_parser_atom_B c_bre_parser_branch c_bre_parser_piece c_bre_parser_atom c_bre_parser_escape c_bre_parser_group o1 r := ⟨_, _, _, _, _, fun _ _ _ h => h, fun _ _ _ h => h, fun _ _ h => h, fun _ _ h => h, fun _ _ h => h, H.2.2.1 m o1 r h⟩
   refine xenter Try.func33 rfl rfl fun g hg => ?_
   simp only [Try.ntmps33, slots]
   refine sr_ ?_
   refine as_ ?_
   refine as_ ?_
   refine nt_ ?_
   refine xseq ?_
   refine xregionD (m := 11) (by kernel_rfl) rfl ?_
   obtain ⟨h6a, h⟩ := h
   obtain ⟨y5, h6b, h⟩ := h
   refine pl_ 0 rfl (pv_move rfl) ?_
   refine pl_ 1 rfl (pv_nilCheck rfl) ?_
   refine pl_ 2 rfl (qv_fieldAddrB FldC.h rfl) ?_
   refine pl_ 4 rfl (pv_move rfl) ?_
   refine pl_ 5 rfl (pv_nilCheck rfl) ?_
   refine pl_ 6 rfl (qv_fieldAddrB FldC.h rfl) ?_
   refine xpvalE 3 [7] rfl (qv_loadB 0 ShpC.h rfl rfl rfl rfl) rfl rfl (by kernel_rfl) (by kernel_rfl) (by kernel_rfl) (fun _ _ _ _ h => h) ?_
   refine xpvalE 7 [] rfl (qv_loadB 0 ShpC.h rfl rfl rfl rfl) rfl rfl (by kernel_rfl) (by kernel_rfl) (by kernel_rfl) (fun _ _ _ _ h => h) ?_
   refine pl_ 8 rfl (pv_indexAddrM h6a h6b UndC.h ShpC.h rfl rfl) ?_
   refine xpvalE 9 [] rfl (qv_load ShpC.h rfl rfl rfl) rfl rfl (by kernel_rfl) (by kernel_rfl) (by kernel_rfl) (fun _ _ _ _ h => h) ?_
   refine pl_ 10 rfl (pv_assign rfl) ?_
   refine xpdone (by kernel_rfl) ?_
   refine xthen ?_
   refine xseq ?_
   refine xblock ?_
   refine sr_ ?_
   refine mv_ ?_
   refine vp_ (pv_bin2 rfl rfl rfl) ?_
   refine as_ ?_
   refine nt_ ?_
   by_cases hp64 : (y5.toNat : Int) = 92
   ·replace h := h.1 hp64
    refine xcondT' (decide_eq_true hp64) rfl ?_
    refine sr_ ?_
    refine mv_ ?_
    obtain ⟨y66, h65, h⟩ := h
    obtain ⟨m65, hm65, h65⟩ := hc_bre_parser_escape _ _ h65
    refine xcallF (Fb := []) (Ft := []) ((ih m65 hm65).2.2.2.1 ((o1.1.1, o1.1.2), o1.2.1, o1.2.2.1, o1.2.2.2) bx0 ia2 _ h65) Try.func47 (by kernel_rfl) rfl (.cons rfl (.refl _) .nil) (by exact sm_) rfl rfl ?_
    rintro _ _ _ ⟨i67, rfl, rfl, rfl⟩
    simp only [List.nil_append, List.cons_append]
    refine vp_ (pv_extract rfl rfl) ?_
    refine vp_ (pv_extract rfl rfl) ?_
    refine as_ ?_
    refine as_ ?_
    refine nt_ ?_
    refine xretc ?_
    refine xin_ret ?_
    refine xthen_ret ?_
    replace h := h.symm
    subst h
    exact xret2 hg rfl rfl (.refl _) rfl (.refl _) (SubM.of (.keep rfl rfl (.refl _) (.nil _)) (.keep rfl (.nil _))) ⟨i67, rfl, rfl, rfl⟩
   ·replace h := h.2 hp64
    refine xcondF' (decide_eq_false hp64) rfl ?_
    refine sr_ ?_
    refine mv_ ?_
    refine vp_ (pv_bin2 rfl rfl rfl) ?_
    refine as_ ?_
    refine nt_ ?_
    by_cases hp69 : (y5.toNat : Int) = 46
    ·replace h := h.1 hp69
     refine xcondT' (decide_eq_true hp69) rfl ?_
     refine sr_ ?_
     refine mv_ ?_
     refine vp_ (pv_nilCheck rfl) ?_
     refine vp_ (qv_fieldAddrB FldC.h rfl) ?_
     refine v_ (qv_loadB 0 ShpC.h rfl rfl rfl rfl) ?_
     obtain ⟨h70, h⟩ := h
     refine vp_ (pv_addI h70 rfl rfl) ?_
     refine vp_ (pv_nilCheck rfl) ?_
     refine vp_ (qv_fieldAddrB FldC.h rfl) ?_
     refine xstore 0 ShpC.h rfl rfl rfl rfl rfl rfl rfl ?_
     refine nt_ ?_
     refine xseq ?_
     refine xregionD (m := 8) (by kernel_rfl) rfl ?_
     obtain ⟨y77, h76, h⟩ := h
     obtain ⟨y79, h78, h⟩ := h
     refine pl_ 0 rfl (pv_move rfl) ?_
     refine pl_ 1 rfl (pv_nilCheck rfl) ?_
     refine pl_ 2 rfl (qv_fieldAddrB FldC.h rfl) ?_
     refine pl_ 3 rfl (pv_buildAC (cs := ((List.map ew ((Arr.rep 4 (0 : UInt64))).l).flatten)) UndC.h ShpC.h InfC.h rfl (by rfl)) ?_
     refine xpstep (i := 4) (by kernel_rfl) rfl ?_
     refine wcall0 (class_Not_con (Arr.rep 4 (0 : UInt64)) _ h76) Try.func48 (by kernel_rfl) rfl (.cons rfl (.refl _) .nil) rfl rfl ?_
     refine xpstep (i := 5) (by kernel_rfl) rfl ?_
     refine wcallF (Fb := []) (Ft := []) (tree_Builder_Set_con ((o1.1.1, o1.1.2), o1.2.1, (o1.2.2.1 + 1), o1.2.2.2) y77 bx0 ia2 _ h78) Try.func45 (by kernel_rfl) rfl (.cons rfl (.refl _) (.cons rfl (.refl _) .nil)) (by exact sm_) rfl rfl ?_
     rintro _ _ _ ⟨i80, rfl, rfl, rfl⟩
     simp only [List.nil_append, List.cons_append]
     refine pl_ 6 rfl (pv_assign rfl) ?_
     refine pl_ 7 rfl (pv_assign rfl) ?_
     refine xpdone (by kernel_rfl) ?_
     refine xthen ?_
     refine xretc ?_
     refine xin_ret ?_
     refine xthen_ret ?_
     replace h := h.symm
     subst h
     exact xret2 hg rfl rfl (.refl _) rfl (Wk.nil_pt _) (SubM.of (.keep rfl rfl (.refl _) (.nil _)) (.keep rfl (.nil _))) ⟨i80, rfl, rfl, rfl⟩
    ·replace h := h.2 hp69
     refine xcondF' (decide_eq_false hp69) rfl ?_
     refine sr_ ?_
     refine mv_ ?_
     refine vp_ (pv_bin2 rfl rfl rfl) ?_
     refine as_ ?_
     refine nt_ ?_
     by_cases hp82 : (y5.toNat : Int) = 91
     ·replace h := h.1 hp82
      refine xcondT' (decide_eq_true hp82) rfl ?_
      refine xseq ?_
      refine xregionD (m := 18) (by kernel_rfl) rfl ?_
      obtain ⟨h87, h⟩ := h
      obtain ⟨y89, h88, h⟩ := h
      refine xpcut 3 #[true, true, true, true, true, true, true, true, true, true, true, true, true, true, true, false, false, false] (fun σ => ∃ (b5 : Nat), σ = ⟨[(0, .v (.pointer (some ⟨bx0, 0, none⟩))), (5, .v (.pointer (some ⟨b5, 0, none⟩))), (55, .agg ((List.map ew y89.1.l).flatten)), (56, .v (.int .i64 y89.2.1)), (57, .v (.int .i64 y89.2.2))], [⟨b5, 40, ((List.map ew ((Arr.rep 4 (0 : UInt64))).l).flatten)⟩, ⟨bx0, 50, ([.sl 10 (some ia2) (List.map E_palinode_api_Node o1.1.1), .v (.int .i64 o1.1.2), .sl 1 none (List.map eb o1.2.1), .v (.int .i64 o1.2.2.1)] ++ (List.map eB o1.2.2.2.l).flatten)⟩], [⟨ia2, 42, 10, o1.1.1.length⟩]⟩) ?_ (fun key90 => ?_)
      ·rintro _ ⟨b5, rfl⟩
       refine xpstep (i := 15) (by kernel_rfl) rfl ?_
       refine wstoreQ 0 [] ((List.map ew ((Arr.rep 4 (0 : UInt64))).l).flatten) [] ((List.map ew y89.1.l).flatten) ShpC.h rfl rfl rfl rfl rfl ?_
       refine pl_ 16 rfl (pv_assign rfl) ?_
       refine pl_ 17 rfl (pv_assign rfl) ?_
       refine xpdone (by kernel_rfl) ?_
       refine xthen ?_
       refine xseq ?_
       refine sr_ ?_
       refine mv_ ?_
       refine vp_ (pv_bin2 rfl rfl rfl) ?_
       refine nt_ ?_
       by_cases hp96 : ¬ (y89.2.2 = 0)
       ·replace h := h.1 hp96
        refine xcondT' (not_t (decide_eq_false hp96)) rfl ?_
        refine sr_ ?_
        refine mv_ ?_
        refine mv_ ?_
        obtain ⟨y98, h97, h⟩ := h
        refine xcallF (Fb := [⟨b5, 40, ((List.map ew y89.1.l).flatten)⟩]) (Ft := []) (bre_parser_fail_con ((o1.1.1, o1.1.2), o1.2.1, o1.2.2.1, o1.2.2.2) y89.2.2 bx0 ia2 _ h97) Try.func22 (by kernel_rfl) rfl (.cons rfl (.refl _) (.cons rfl (.refl _) .nil)) (by refine SubM.trans (SubM.mvB 1 rfl) ?_; (simp only [List.eraseIdx]); exact sm_) rfl rfl ?_
        rintro _ _ _ ⟨rfl, rfl, rfl⟩
        simp only [List.nil_append, List.cons_append]
        refine as_ ?_
        refine as_ ?_
        refine nt_ ?_
        refine xretc ?_
        refine xthen_ret ?_
        refine xin_ret ?_
        refine xthen_ret ?_
        replace h := h.symm
        subst h
        exact xret2 hg rfl rfl (.refl _) rfl (.refl _) (SubM.of (.keep rfl rfl (.refl _) (.nil _)) (.keep rfl (.nil _))) ⟨ia2, rfl, rfl, rfl⟩
       ·replace h := h.2 hp96
        refine xcondF' (not_f (decide_eq_true (Decidable.of_not_not hp96))) rfl ?_
        refine xskipc ?_
        refine xthen ?_
        refine sr_ ?_
        refine mv_ ?_
        refine mv_ ?_
        refine vp_ (pv_nilCheck rfl) ?_
        refine vp_ (qv_fieldAddrB FldC.h rfl) ?_
        refine xstore 1 ShpC.h rfl rfl rfl rfl rfl rfl rfl ?_
        refine nt_ ?_
        refine xseq ?_
        refine xregionD (m := 7) (by kernel_rfl) rfl ?_
        obtain ⟨y103, h102, h⟩ := h
        refine pl_ 0 rfl (pv_move rfl) ?_
        refine pl_ 1 rfl (pv_nilCheck rfl) ?_
        refine pl_ 2 rfl (qv_fieldAddrB FldC.h rfl) ?_
        refine xpvalE 3 [] rfl (qv_loadP 0 [] ((List.map ew y89.1.l).flatten) [] sq_ sl_ sl_ (part_all (seg_lenE (by rfl))) ShpC.h rfl rfl) rfl rfl (by kernel_rfl) (by kernel_rfl) (by kernel_rfl) (fun _ _ _ _ h => h) ?_
        refine xpstep (i := 4) (by kernel_rfl) rfl ?_
        refine wcallF (Fb := [⟨b5, 40, ((List.map ew y89.1.l).flatten)⟩]) (Ft := []) (tree_Builder_Set_con ((o1.1.1, o1.1.2), o1.2.1, y89.2.1, o1.2.2.2) y89.1 bx0 ia2 _ h102) Try.func45 (by kernel_rfl) rfl (.cons rfl (.refl _) (.cons rfl (.refl _) .nil)) (by refine SubM.trans (SubM.mvB 1 rfl) ?_; (simp only [List.eraseIdx]); exact sm_) rfl rfl ?_
        rintro _ _ _ ⟨i104, rfl, rfl, rfl⟩
        simp only [List.nil_append, List.cons_append]
        refine pl_ 5 rfl (pv_assign rfl) ?_
        refine pl_ 6 rfl (pv_assign rfl) ?_
        refine xpdone (by kernel_rfl) ?_
        refine xthen ?_
        refine xretc ?_
        refine xin_ret ?_
        refine xthen_ret ?_
        replace h := h.symm
        subst h
        exact xret2 hg rfl rfl (.refl _) rfl (Wk.nil_pt _) (SubM.of (.keep rfl rfl (.refl _) (.nil _)) (.keep rfl (.nil _))) ⟨i104, rfl, rfl, rfl⟩
      refine pl_ 0 rfl (pv_move rfl) ?_
      refine pl_ 1 rfl (pv_nilCheck rfl) ?_
      refine pl_ 2 rfl (qv_fieldAddrB FldC.h rfl) ?_
      refine pl_ 4 rfl (pv_move rfl) ?_
      refine pl_ 5 rfl (pv_nilCheck rfl) ?_
      refine pl_ 6 rfl (qv_fieldAddrB FldC.h rfl) ?_
      refine xpvalE 7 [3, 14] rfl (qv_loadB 0 ShpC.h rfl rfl rfl rfl) rfl rfl (by kernel_rfl) (by kernel_rfl) (by kernel_rfl) (fun _ _ _ _ h => h) ?_
      refine pl_ 8 rfl (pv_addI h87 rfl rfl) ?_
      refine xpvalE 3 [14] rfl (qv_loadB 0 ShpC.h rfl rfl rfl rfl) rfl rfl (by kernel_rfl) (by kernel_rfl) (by kernel_rfl) (fun _ _ _ _ h => h) ?_
      refine xpstepN (is := [9, 14]) (by kernel_rfl) (by simp) ?_
      intro i hi; simp only [List.mem_cons, List.not_mem_nil, or_false] at hi; rcases hi with rfl | rfl
      ·refine ⟨_, rfl, ?_⟩
       refine wcallF (Fb := [⟨bx0, 50, ([.sl 10 (some ia2) (List.map E_palinode_api_Node o1.1.1), .v (.int .i64 o1.1.2), .sl 1 none (List.map eb o1.2.1), .v (.int .i64 o1.2.2.1)] ++ (List.map eB o1.2.2.2.l).flatten)⟩]) (Ft := [⟨ia2, 42, 10, o1.1.1.length⟩]) (brack_Parse_con o1.2.1 (o1.2.2.1 + 1) _ h88) Try.func49 (by kernel_rfl) rfl (.cons rfl (.refl _) (.cons rfl (.refl _) .nil)) (by exact sm_) rfl rfl ?_
       rintro _ _ _ ⟨rfl, rfl, rfl⟩
       simp only [List.nil_append, List.cons_append]
       refine pl_ 10 rfl (pv_move rfl) ?_
       refine pl_ 11 rfl (pv_extract rfl rfl) ?_
       refine pl_ 12 rfl (pv_extract rfl rfl) ?_
       refine pl_ 13 rfl (pv_extract rfl rfl) ?_
       refine xpstep (i := 14) (by kernel_rfl) rfl ?_
       refine walloc InfC.h rfl rfl fun b5 => ?_
       refine preb 0 ((List.map ew ((Arr.rep 4 (0 : UInt64))).l).flatten) rfl rfl ?_
       exact xpuse key90 ⟨b5, rfl⟩ ⟨lk_, (SubM.of (.keep rfl rfl (.refl _) (.keep rfl rfl (.refl _) (.nil _))) (.keep rfl (.nil _)))⟩ rfl (by kernel_rfl)
      ·refine ⟨_, rfl, ?_⟩
       refine walloc InfC.h rfl rfl fun b5 => ?_
       refine preb 0 ((List.map ew ((Arr.rep 4 (0 : UInt64))).l).flatten) rfl rfl ?_
       refine xpstep (i := 9) (by kernel_rfl) rfl ?_
       refine wcallF (Fb := [⟨b5, 40, ((List.map ew ((Arr.rep 4 (0 : UInt64))).l).flatten)⟩, ⟨bx0, 50, ([.sl 10 (some ia2) (List.map E_palinode_api_Node o1.1.1), .v (.int .i64 o1.1.2), .sl 1 none (List.map eb o1.2.1), .v (.int .i64 o1.2.2.1)] ++ (List.map eB o1.2.2.2.l).flatten)⟩]) (Ft := [⟨ia2, 42, 10, o1.1.1.length⟩]) (brack_Parse_con o1.2.1 (o1.2.2.1 + 1) _ h88) Try.func49 (by kernel_rfl) rfl (.cons rfl (.refl _) (.cons rfl (.refl _) .nil)) (by exact sm_) rfl rfl ?_
       rintro _ _ _ ⟨rfl, rfl, rfl⟩
       simp only [List.nil_append, List.cons_append]
       refine pl_ 10 rfl (pv_move rfl) ?_
       refine pl_ 11 rfl (pv_extract rfl rfl) ?_
       refine pl_ 12 rfl (pv_extract rfl rfl) ?_
       refine pl_ 13 rfl (pv_extract rfl rfl) ?_
       exact xpuse key90 ⟨b5, rfl⟩ ⟨lk_, (SubM.of (.keep rfl rfl (.refl _) (.keep rfl rfl (.refl _) (.nil _))) (.keep rfl (.nil _)))⟩ rfl (by kernel_rfl)
     ·replace h := h.2 hp82
      refine xcondF' (decide_eq_false hp82) rfl ?_
      refine xseqM (fun σ => ∃ (x109 : Bool), bre_parser_atom_j1 o1 y5 x109 r ∧ σ = ⟨[(0, .v (.pointer (some ⟨bx0, 0, none⟩))), (4, .v (.int .u8 ((y5.toNat : Int)))), (72, .v (.bool x109))], [⟨bx0, 50, ([.sl 10 (some ia2) (List.map E_palinode_api_Node o1.1.1), .v (.int .i64 o1.1.2), .sl 1 none (List.map eb o1.2.1), .v (.int .i64 o1.2.2.1)] ++ (List.map eB o1.2.2.2.l).flatten)⟩], [⟨ia2, 42, 10, o1.1.1.length⟩]⟩) ?_ ?_
      ·refine xregion ?_
       refine mv_ ?_
       refine vp_ (pv_bin2 rfl rfl rfl) ?_
       refine mv_ ?_
       by_cases hp111 : (y5.toNat : Int) = 36
       ·replace h := h.1 hp111
        refine xsetB 75 (decide_eq_true hp111) rfl ?_
        refine mv_ ?_
        obtain ⟨y113, h112, h⟩ := h
        refine xcallF (Fb := []) (Ft := []) (bre_parser_isEnd_con ((o1.1.1, o1.1.2), o1.2.1, o1.2.2.1, o1.2.2.2) bx0 ia2 _ h112) Try.func50 (by kernel_rfl) rfl (.cons rfl (.refl _) .nil) (by exact sm_) rfl rfl ?_
        rintro _ _ _ ⟨rfl, rfl, rfl⟩
        simp only [List.nil_append, List.cons_append]
        refine pk_ ?_
        refine as_ ?_
        refine xnil ?_
        exact xmeet ⟨y113, h, rfl⟩ ⟨lk_, (SubM.of (.keep rfl rfl (.refl _) (.nil _)) (.keep rfl (.nil _)))⟩
       ·replace h := h.2 hp111
        refine xsetB 75 (decide_eq_false hp111) rfl ?_
        refine sk_ ?_
        refine sk_ ?_
        refine pk_ ?_
        refine as_ ?_
        refine xnil ?_
        exact xmeet ⟨false, h, rfl⟩ ⟨lk_, (SubM.of (.keep rfl rfl (.refl _) (.nil _)) (.keep rfl (.nil _)))⟩
      ·clear h
       rintro _ ⟨x109, h, rfl⟩
       by_cases hp114 : x109 = true
       ·replace h := h.1 hp114
        refine xcondT' hp114 rfl ?_
        refine sr_ ?_
        refine mv_ ?_
        refine vp_ (pv_nilCheck rfl) ?_
        refine vp_ (qv_fieldAddrB FldC.h rfl) ?_
        refine v_ (qv_loadB 0 ShpC.h rfl rfl rfl rfl) ?_
        obtain ⟨h115, h⟩ := h
        refine vp_ (pv_addI h115 rfl rfl) ?_
        refine vp_ (pv_nilCheck rfl) ?_
        refine vp_ (qv_fieldAddrB FldC.h rfl) ?_
        refine xstore 0 ShpC.h rfl rfl rfl rfl rfl rfl rfl ?_
        refine nt_ ?_
        refine sr_ ?_
        refine mv_ ?_
        refine vp_ (pv_nilCheck rfl) ?_
        refine vp_ (qv_fieldAddrB FldC.h rfl) ?_
        obtain ⟨y117, h116, h⟩ := h
        refine xcallF (Fb := []) (Ft := []) (tree_Builder_Eol_con ((o1.1.1, o1.1.2), o1.2.1, (o1.2.2.1 + 1), o1.2.2.2) bx0 ia2 _ h116) Try.func51 (by kernel_rfl) rfl (.cons rfl (.refl _) .nil) (by exact sm_) rfl rfl ?_
        rintro _ _ _ ⟨i118, rfl, rfl, rfl⟩
        simp only [List.nil_append, List.cons_append]
        refine as_ ?_
        refine as_ ?_
        refine nt_ ?_
        refine xretc ?_
        refine xin_ret ?_
        refine xthen_ret ?_
        replace h := h.symm
        subst h
        exact xret2 hg rfl rfl (.refl _) rfl (Wk.nil_pt _) (SubM.of (.keep rfl rfl (.refl _) (.nil _)) (.keep rfl (.nil _))) ⟨i118, rfl, rfl, rfl⟩
       ·replace h := h.2 hp114
        refine xcondF' (b_f hp114) rfl ?_
        refine xskipc ?_
        refine xin_normal ?_
        refine xthen ?_
        refine sr_ ?_
        refine mv_ ?_
        refine mv_ ?_
        obtain ⟨y120, h119, h⟩ := h
        refine xcallF (Fb := []) (Ft := []) (bre_parser_one_con ((o1.1.1, o1.1.2), o1.2.1, o1.2.2.1, o1.2.2.2) y5 bx0 ia2 _ h119) Try.func32 (by kernel_rfl) rfl (.cons rfl (.refl _) (.cons rfl (.refl _) .nil)) (by exact sm_) rfl rfl ?_
        rintro _ _ _ ⟨i121, rfl, rfl, rfl⟩
        simp only [List.nil_append, List.cons_append]
        refine as_ ?_
        refine as_ ?_
        refine nt_ ?_
        refine xretc ?_
        replace h := h.symm
        subst h
        exact xret2 hg rfl rfl (.refl _) rfl (Wk.nil_pt _) (SubM.of (.keep rfl rfl (.refl _) (.nil _)) (.keep rfl (.nil _))) ⟨i121, rfl, rfl, rfl⟩
  ·intro o1 bx0 ia2 r h
   obtain ⟨c_bre_parser_branch, c_bre_parser_piece, c_bre_parser_atom, c_bre_parser_escape, c_bre_parser_group, hc_bre_parser_branch, hc_bre_parser_piece, hc_bre_parser_atom, hc_bre_parser_escape, hc_bre_parser_group, h⟩ : ∃ (c_bre_parser_branch : (((List (Int × Int × Int × Int × Int × Int × (Arr 4 (UInt64)))) × Int) × (List UInt8) × Int × (Arr 10 (Bool))) → (Bool) → (Int × (List (Int × Int)) × (((List (Int × Int × Int × Int × Int × Int × (Arr 4 (UInt64)))) × Int) × (List UInt8) × Int × (Arr 10 (Bool)))) → Prop) (c_bre_parser_piece : (((List (Int × Int × Int × Int × Int × Int × (Arr 4 (UInt64)))) × Int) × (List UInt8) × Int × (Arr 10 (Bool))) → (Bool) → (Int × (List (Int × Int)) × (((List (Int × Int × Int × Int × Int × Int × (Arr 4 (UInt64)))) × Int) × (List UInt8) × Int × (Arr 10 (Bool)))) → Prop) (c_bre_parser_atom : (((List (Int × Int × Int × Int × Int × Int × (Arr 4 (UInt64)))) × Int) × (List UInt8) × Int × (Arr 10 (Bool))) → (Int × (List (Int × Int)) × (((List (Int × Int × Int × Int × Int × Int × (Arr 4 (UInt64)))) × Int) × (List UInt8) × Int × (Arr 10 (Bool)))) → Prop) (c_bre_parser_escape : (((List (Int × Int × Int × Int × Int × Int × (Arr 4 (UInt64)))) × Int) × (List UInt8) × Int × (Arr 10 (Bool))) → (Int × (List (Int × Int)) × (((List (Int × Int × Int × Int × Int × Int × (Arr 4 (UInt64)))) × Int) × (List UInt8) × Int × (Arr 10 (Bool)))) → Prop) (c_bre_parser_group : (((List (Int × Int × Int × Int × Int × Int × (Arr 4 (UInt64)))) × Int) × (List UInt8) × Int × (Arr 10 (Bool))) → (Int × (List (Int × Int)) × (((List (Int × Int × Int × Int × Int × Int × (Arr 4 (UInt64)))) × Int) × (List UInt8) × Int × (Arr 10 (Bool)))) → Prop), (∀ a0 a1 r, c_bre_parser_branch a0 a1 r → ∃ m', m' < m ∧ S1 m' a0 a1 r) ∧ (∀ a0 a1 r, c_bre_parser_piece a0 a1 r → ∃ m', m' < m ∧ S2 m' a0 a1 r) ∧ (∀ a0 r, c_bre_parser_atom a0 r → ∃ m', m' < m ∧ S3 m' a0 r) ∧ (∀ a0 r, c_bre_parser_escape a0 r → ∃ m', m' < m ∧ S4 m' a0 r) ∧ (∀ a0 r, c_bre_parser_group a0 r → ∃ m', m' < m ∧ S5 m' a0 r) ∧ bre_parser_escape_B c_bre_parser_branch c_bre_parser_piece c_bre_parser_atom c_bre_parser_escape c_bre_parser_group o1 r := ⟨_, _, _, _, _, fun _ _ _ h => h, fun _ _ _ h => h, fun _ _ h => h, fun _ _ h => h, fun _ _ h => h, H.2.2.2.1 m o1 r h⟩
   refine xenter Try.func47 rfl rfl fun g hg => ?_
   simp only [Try.ntmps47, slots]
   refine sr_ ?_
   refine as_ ?_
   refine as_ ?_
   refine nt_ ?_
   refine xseq ?_
   refine xseq ?_
   refine xregionD (m := 11) (by kernel_rfl) rfl ?_
   obtain ⟨h15, h⟩ := h
   refine pl_ 0 rfl (pv_move rfl) ?_
   refine pl_ 1 rfl (pv_nilCheck rfl) ?_
   refine pl_ 2 rfl (qv_fieldAddrB FldC.h rfl) ?_
   refine pl_ 5 rfl (pv_move rfl) ?_
   refine pl_ 6 rfl (pv_nilCheck rfl) ?_
   refine pl_ 7 rfl (qv_fieldAddrB FldC.h rfl) ?_
   refine xpvalE 3 [8, 9] rfl (qv_loadB 0 ShpC.h rfl rfl rfl rfl) rfl rfl (by kernel_rfl) (by kernel_rfl) (by kernel_rfl) (fun _ _ _ _ h => h) ?_
   refine pl_ 4 rfl (pv_addI h15 rfl rfl) ?_
   refine xpvalE 8 [] rfl (qv_loadB 0 ShpC.h rfl rfl rfl rfl) rfl rfl (by kernel_rfl) (by kernel_rfl) (by kernel_rfl) (fun _ _ _ _ h => h) ?_
   refine pl_ 9 rfl (pv_lenM UndC.h rfl) ?_
   refine pl_ 10 rfl (pv_bin2 rfl rfl rfl) ?_
   refine xpdone (by kernel_rfl) ?_
   refine xthen ?_
   by_cases hp18 : (o1.2.2.1 + 1) = (o1.2.1.length : Int)
   ·replace h := h.1 hp18
    refine xcondT' (decide_eq_true hp18) rfl ?_
    refine sr_ ?_
    refine mv_ ?_
    obtain ⟨y20, h19, h⟩ := h
    refine xcallF (Fb := []) (Ft := []) (bre_parser_fail_con ((o1.1.1, o1.1.2), o1.2.1, o1.2.2.1, o1.2.2.2) 10 bx0 ia2 _ h19) Try.func22 (by kernel_rfl) rfl (.cons rfl (.refl _) (.cons rfl (.refl _) .nil)) (by exact sm_) rfl rfl ?_
    rintro _ _ _ ⟨rfl, rfl, rfl⟩
    simp only [List.nil_append, List.cons_append]
    refine as_ ?_
    refine as_ ?_
    refine nt_ ?_
    refine xretc ?_
    refine xthen_ret ?_
    replace h := h.symm
    subst h
    exact xret2 hg rfl rfl (.refl _) rfl (.refl _) (SubM.of (.keep rfl rfl (.refl _) (.nil _)) (.keep rfl (.nil _))) ⟨ia2, rfl, rfl, rfl⟩
   ·replace h := h.2 hp18
    refine xcondF' (decide_eq_false hp18) rfl ?_
    refine xskipc ?_
    refine xthen ?_
    refine xseq ?_
    refine xregionD (m := 12) (by kernel_rfl) rfl ?_
    obtain ⟨h24, h⟩ := h
    obtain ⟨h26a, h⟩ := h
    obtain ⟨y25, h26b, h⟩ := h
    refine pl_ 0 rfl (pv_move rfl) ?_
    refine pl_ 1 rfl (pv_nilCheck rfl) ?_
    refine pl_ 2 rfl (qv_fieldAddrB FldC.h rfl) ?_
    refine pl_ 4 rfl (pv_move rfl) ?_
    refine pl_ 5 rfl (pv_nilCheck rfl) ?_
    refine pl_ 6 rfl (qv_fieldAddrB FldC.h rfl) ?_
    refine xpvalE 7 [3] rfl (qv_loadB 0 ShpC.h rfl rfl rfl rfl) rfl rfl (by kernel_rfl) (by kernel_rfl) (by kernel_rfl) (fun _ _ _ _ h => h) ?_
    refine pl_ 8 rfl (pv_addI h24 rfl rfl) ?_
    refine xpvalE 3 [] rfl (qv_loadB 0 ShpC.h rfl rfl rfl rfl) rfl rfl (by kernel_rfl) (by kernel_rfl) (by kernel_rfl) (fun _ _ _ _ h => h) ?_
    refine pl_ 9 rfl (pv_indexAddrM h26a h26b UndC.h ShpC.h rfl rfl) ?_
    refine xpvalE 10 [] rfl (qv_load ShpC.h rfl rfl rfl) rfl rfl (by kernel_rfl) (by kernel_rfl) (by kernel_rfl) (fun _ _ _ _ h => h) ?_
    refine pl_ 11 rfl (pv_assign rfl) ?_
    refine xpdone (by kernel_rfl) ?_
    refine xthen ?_
    refine sr_ ?_
    refine mv_ ?_
    obtain ⟨y28, h27, h⟩ := h
    refine xcallF (Fb := [⟨bx0, 50, ([.sl 10 (some ia2) (List.map E_palinode_api_Node o1.1.1), .v (.int .i64 o1.1.2), .sl 1 none (List.map eb o1.2.1), .v (.int .i64 o1.2.2.1)] ++ (List.map eB o1.2.2.2.l).flatten)⟩]) (Ft := [⟨ia2, 42, 10, o1.1.1.length⟩]) (digit_Is_con (⟨#[97, 108, 110, 117, 109]⟩ : ByteArray) y25 _ h27) Try.func62 (by kernel_rfl) rfl (.cons rfl (.refl _) (.cons rfl (.refl _) .nil)) (by exact sm_) rfl rfl ?_
    rintro _ _ _ ⟨rfl, rfl, rfl⟩
    simp only [List.nil_append, List.cons_append]
    refine mv_ ?_
    refine vp_ (pv_extract rfl rfl) ?_
    refine vp_ (pv_extract rfl rfl) ?_
    refine as_ ?_
    refine as_ ?_
    refine nt_ ?_
    refine xseq ?_
    refine xblock ?_
    refine sr_ ?_
    refine mv_ ?_
    refine vp_ (pv_bin2 rfl rfl rfl) ?_
    refine as_ ?_
    refine nt_ ?_
    by_cases hp69 : (y25.toNat : Int) = 40
    ·replace h := h.1 hp69
     refine xcondT' (decide_eq_true hp69) rfl ?_
     refine sr_ ?_
     refine mv_ ?_
     obtain ⟨y71, h70, h⟩ := h
     obtain ⟨m70, hm70, h70⟩ := hc_bre_parser_group _ _ h70
     refine xcallF (Fb := []) (Ft := []) ((ih m70 hm70).2.2.2.2 ((o1.1.1, o1.1.2), o1.2.1, o1.2.2.1, o1.2.2.2) bx0 ia2 _ h70) Try.func63 (by kernel_rfl) rfl (.cons rfl (.refl _) .nil) (by exact sm_) rfl rfl ?_
     rintro _ _ _ ⟨i72, rfl, rfl, rfl⟩
     simp only [List.nil_append, List.cons_append]
     refine vp_ (pv_extract rfl rfl) ?_
     refine vp_ (pv_extract rfl rfl) ?_
     refine as_ ?_
     refine as_ ?_
     refine nt_ ?_
     refine xretc ?_
     refine xin_ret ?_
     refine xthen_ret ?_
     replace h := h.symm
     subst h
     exact xret2 hg rfl rfl (.refl _) rfl (.refl _) (SubM.of (.keep rfl rfl (.refl _) (.nil _)) (.keep rfl (.nil _))) ⟨i72, rfl, rfl, rfl⟩
    ·replace h := h.2 hp69
     refine xcondF' (decide_eq_false hp69) rfl ?_
     refine xseqM (fun σ => ∃ (x76 : Bool), bre_parser_escape_j1 y25 o1 y28 x76 r ∧ σ = ⟨[(0, .v (.pointer (some ⟨bx0, 0, none⟩))), (4, .v (.int .u8 ((y25.toNat : Int)))), (5, .v (.bool y28.1)), (44, .v (.bool x76))], [⟨bx0, 50, ([.sl 10 (some ia2) (List.map E_palinode_api_Node o1.1.1), .v (.int .i64 o1.1.2), .sl 1 none (List.map eb o1.2.1), .v (.int .i64 o1.2.2.1)] ++ (List.map eB o1.2.2.2.l).flatten)⟩], [⟨ia2, 42, 10, o1.1.1.length⟩]⟩) ?_ ?_
     ·refine xregion ?_
      refine mv_ ?_
      refine vp_ (pv_bin2 rfl rfl rfl) ?_
      refine mv_ ?_
      by_cases hp78 : 49 ≤ (y25.toNat : Int)
      ·rw [and_tt (show (decide (49 ≤ (y25.toNat : Int))) = true from (decide_eq_true hp78))] at h
       refine xsetB 47 (decide_eq_true hp78) rfl ?_
       refine mv_ ?_
       refine vp_ (pv_bin2 rfl rfl rfl) ?_
       refine pk_ ?_
       refine as_ ?_
       refine xnil ?_
       exact xmeet ⟨(decide ((y25.toNat : Int) ≤ 57)), h, rfl⟩ ⟨lk_, (SubM.of (.keep rfl rfl (.refl _) (.nil _)) (.keep rfl (.nil _)))⟩
      ·rw [and_ff (show (decide (49 ≤ (y25.toNat : Int))) = false from (decide_eq_false hp78))] at h
       refine xsetB 47 (decide_eq_false hp78) rfl ?_
       refine sk_ ?_
       refine sk_ ?_
       refine pk_ ?_
       refine as_ ?_
       refine xnil ?_
       exact xmeet ⟨false, h, rfl⟩ ⟨lk_, (SubM.of (.keep rfl rfl (.refl _) (.nil _)) (.keep rfl (.nil _)))⟩
     ·clear h
      rintro _ ⟨x76, h, rfl⟩
      by_cases hp80 : x76 = true
      ·replace h := h.1 hp80
       refine xcondT' hp80 rfl ?_
       refine sr_ ?_
       refine mv_ ?_
       obtain ⟨c82, h81, h⟩ := h
       refine vp_ (pv_wr h81 rfl rfl rfl) ?_
       refine vp_ (pv_convW (w8 c82) UndC.h UndC.h rfl) ?_
       refine as_ ?_
       refine nt_ ?_
       refine xseq ?_
       refine sr_ ?_
       refine mv_ ?_
       refine mv_ ?_
       refine vp_ (pv_nilCheck rfl) ?_
       refine vp_ (qv_fieldAddrB FldC.h rfl) ?_
       obtain ⟨h89, h⟩ := h
       obtain ⟨y90, h89b, h⟩ := h
       refine vp_ (pv_indexAddrBA h89 UndC.h ShpC.h rfl rfl) ?_
       refine v_ (qv_loadA (f := eB) (a := o1.2.2.2) (k := 1) (off := 0) (i := ((c82.toNat : Int) : Int).toNat) 0 [.sl 10 (some ia2) (List.map E_palinode_api_Node o1.1.1), .v (.int .i64 o1.1.2), .sl 1 none (List.map eb o1.2.1), .v (.int .i64 o1.2.2.1)] [] h89b sq_ so_ (by decide) rfl ShpC.h rfl rfl) ?_
       refine vp_ (pv_not rfl) ?_
       refine nt_ ?_
       by_cases hp91 : ¬ (y90 = true)
       ·replace h := h.1 hp91
        refine xcondT' (not_t (b_f hp91)) rfl ?_
        refine sr_ ?_
        refine mv_ ?_
        obtain ⟨y93, h92, h⟩ := h
        refine xcallF (Fb := []) (Ft := []) (bre_parser_fail_con ((o1.1.1, o1.1.2), o1.2.1, o1.2.2.1, o1.2.2.2) 16 bx0 ia2 _ h92) Try.func22 (by kernel_rfl) rfl (.cons rfl (.refl _) (.cons rfl (.refl _) .nil)) (by exact sm_) rfl rfl ?_
        rintro _ _ _ ⟨rfl, rfl, rfl⟩
        simp only [List.nil_append, List.cons_append]
        refine as_ ?_
        refine as_ ?_
        refine nt_ ?_
        refine xretc ?_
        refine xthen_ret ?_
        refine xin_ret ?_
        refine xthen_ret ?_
        replace h := h.symm
        subst h
        exact xret2 hg rfl rfl (.refl _) rfl (.refl _) (SubM.of (.keep rfl rfl (.refl _) (.nil _)) (.keep rfl (.nil _))) ⟨ia2, rfl, rfl, rfl⟩
       ·replace h := h.2 hp91
        refine xcondF' (not_f (Decidable.of_not_not hp91)) rfl ?_
        refine xskipc ?_
        refine xthen ?_
        refine sr_ ?_
        refine mv_ ?_
        refine vp_ (pv_nilCheck rfl) ?_
        refine vp_ (qv_fieldAddrB FldC.h rfl) ?_
        refine v_ (qv_loadB 0 ShpC.h rfl rfl rfl rfl) ?_
        obtain ⟨h94, h⟩ := h
        refine vp_ (pv_addI h94 rfl rfl) ?_
        refine vp_ (pv_nilCheck rfl) ?_
        refine vp_ (qv_fieldAddrB FldC.h rfl) ?_
        refine xstore 0 ShpC.h rfl rfl rfl rfl rfl rfl rfl ?_
        refine nt_ ?_
        refine sr_ ?_
        refine mv_ ?_
        refine vp_ (pv_nilCheck rfl) ?_
        refine vp_ (qv_fieldAddrB FldC.h rfl) ?_
        refine mv_ ?_
        obtain ⟨y96, h95, h⟩ := h
        refine xcallF (Fb := []) (Ft := []) (tree_Builder_Back_con ((o1.1.1, o1.1.2), o1.2.1, (o1.2.2.1 + 2), o1.2.2.2) (c82.toNat : Int) bx0 ia2 _ h95) Try.func64 (by kernel_rfl) rfl (.cons rfl (.refl _) (.cons rfl (.refl _) .nil)) (by exact sm_) rfl rfl ?_
        rintro _ _ _ ⟨i97, rfl, rfl, rfl⟩
        simp only [List.nil_append, List.cons_append]
        refine as_ ?_
        refine as_ ?_
        refine nt_ ?_
        refine xretc ?_
        refine xin_ret ?_
        refine xthen_ret ?_
        replace h := h.symm
        subst h
        exact xret2 hg rfl rfl (.refl _) rfl (Wk.nil_pt _) (SubM.of (.keep rfl rfl (.refl _) (.nil _)) (.keep rfl (.nil _))) ⟨i97, rfl, rfl, rfl⟩
      ·replace h := h.2 hp80
       refine xcondF' (b_f hp80) rfl ?_
       refine sr_ ?_
       refine mv_ ?_
       refine vp_ (pv_bin2 rfl rfl rfl) ?_
       refine as_ ?_
       refine nt_ ?_
       by_cases hp99 : (y25.toNat : Int) = 110
       ·replace h := h.1 hp99
        refine xcondT' (decide_eq_true hp99) rfl ?_
        refine sr_ ?_
        refine mv_ ?_
        refine vp_ (pv_nilCheck rfl) ?_
        refine vp_ (qv_fieldAddrB FldC.h rfl) ?_
        refine v_ (qv_loadB 0 ShpC.h rfl rfl rfl rfl) ?_
        obtain ⟨h100, h⟩ := h
        refine vp_ (pv_addI h100 rfl rfl) ?_
        refine vp_ (pv_nilCheck rfl) ?_
        refine vp_ (qv_fieldAddrB FldC.h rfl) ?_
        refine xstore 0 ShpC.h rfl rfl rfl rfl rfl rfl rfl ?_
        refine nt_ ?_
        refine sr_ ?_
        refine mv_ ?_
        obtain ⟨y102, h101, h⟩ := h
        refine xcallF (Fb := []) (Ft := []) (bre_parser_one_con ((o1.1.1, o1.1.2), o1.2.1, (o1.2.2.1 + 1), o1.2.2.2) (10 : UInt8) bx0 ia2 _ h101) Try.func32 (by kernel_rfl) rfl (.cons rfl (.refl _) (.cons rfl (.refl _) .nil)) (by exact sm_) rfl rfl ?_
        rintro _ _ _ ⟨i103, rfl, rfl, rfl⟩
        simp only [List.nil_append, List.cons_append]
        refine as_ ?_
        refine as_ ?_
        refine nt_ ?_
        refine xretc ?_
        refine xin_ret ?_
        refine xthen_ret ?_
        replace h := h.symm
        subst h
        exact xret2 hg rfl rfl (.refl _) rfl (Wk.nil_pt _) (SubM.of (.keep rfl rfl (.refl _) (.nil _)) (.keep rfl (.nil _))) ⟨i103, rfl, rfl, rfl⟩
       ·replace h := h.2 hp99
        refine xcondF' (decide_eq_false hp99) rfl ?_
        refine sr_ ?_
        refine mv_ ?_
        refine as_ ?_
        refine nt_ ?_
        by_cases hp104 : y28.1 = true
        ·replace h := h.1 hp104
         refine xcondT' hp104 rfl ?_
         refine sr_ ?_
         refine mv_ ?_
         obtain ⟨y106, h105, h⟩ := h
         refine xcallF (Fb := []) (Ft := []) (bre_parser_fail_con ((o1.1.1, o1.1.2), o1.2.1, o1.2.2.1, o1.2.2.2) 10 bx0 ia2 _ h105) Try.func22 (by kernel_rfl) rfl (.cons rfl (.refl _) (.cons rfl (.refl _) .nil)) (by exact sm_) rfl rfl ?_
         rintro _ _ _ ⟨rfl, rfl, rfl⟩
         simp only [List.nil_append, List.cons_append]
         refine as_ ?_
         refine as_ ?_
         refine nt_ ?_
         refine xretc ?_
         refine xin_ret ?_
         refine xthen_ret ?_
         replace h := h.symm
         subst h
         exact xret2 hg rfl rfl (.refl _) rfl (.refl _) (SubM.of (.keep rfl rfl (.refl _) (.nil _)) (.keep rfl (.nil _))) ⟨ia2, rfl, rfl, rfl⟩
        ·replace h := h.2 hp104
         refine xcondF' (b_f hp104) rfl ?_
         refine xskipc ?_
         refine xin_normal ?_
         refine xthen ?_
         refine sr_ ?_
         refine mv_ ?_
         refine vp_ (pv_nilCheck rfl) ?_
         refine vp_ (qv_fieldAddrB FldC.h rfl) ?_
         refine v_ (qv_loadB 0 ShpC.h rfl rfl rfl rfl) ?_
         obtain ⟨h107, h⟩ := h
         refine vp_ (pv_addI h107 rfl rfl) ?_
         refine vp_ (pv_nilCheck rfl) ?_
         refine vp_ (qv_fieldAddrB FldC.h rfl) ?_
         refine xstore 0 ShpC.h rfl rfl rfl rfl rfl rfl rfl ?_
         refine nt_ ?_
         refine sr_ ?_
         refine mv_ ?_
         refine mv_ ?_
         obtain ⟨y109, h108, h⟩ := h
         refine xcallF (Fb := []) (Ft := []) (bre_parser_one_con ((o1.1.1, o1.1.2), o1.2.1, (o1.2.2.1 + 1), o1.2.2.2) y25 bx0 ia2 _ h108) Try.func32 (by kernel_rfl) rfl (.cons rfl (.refl _) (.cons rfl (.refl _) .nil)) (by exact sm_) rfl rfl ?_
         rintro _ _ _ ⟨i110, rfl, rfl, rfl⟩
         simp only [List.nil_append, List.cons_append]
         refine as_ ?_
         refine as_ ?_
         refine nt_ ?_
         refine xretc ?_
         replace h := h.symm
         subst h
         exact xret2 hg rfl rfl (.refl _) rfl (Wk.nil_pt _) (SubM.of (.keep rfl rfl (.refl _) (.nil _)) (.keep rfl (.nil _))) ⟨i110, rfl, rfl, rfl⟩
  ·intro o1 bx0 ia2 r h
   obtain ⟨c_bre_parser_branch, c_bre_parser_piece, c_bre_parser_atom, c_bre_parser_escape, c_bre_parser_group, hc_bre_parser_branch, hc_bre_parser_piece, hc_bre_parser_atom, hc_bre_parser_escape, hc_bre_parser_group, h⟩ : ∃ (c_bre_parser_branch : (((List (Int × Int × Int × Int × Int × Int × (Arr 4 (UInt64)))) × Int) × (List UInt8) × Int × (Arr 10 (Bool))) → (Bool) → (Int × (List (Int × Int)) × (((List (Int × Int × Int × Int × Int × Int × (Arr 4 (UInt64)))) × Int) × (List UInt8) × Int × (Arr 10 (Bool)))) → Prop) (c_bre_parser_piece : (((List (Int × Int × Int × Int × Int × Int × (Arr 4 (UInt64)))) × Int) × (List UInt8) × Int × (Arr 10 (Bool))) → (Bool) → (Int × (List (Int × Int)) × (((List (Int × Int × Int × Int × Int × Int × (Arr 4 (UInt64)))) × Int) × (List UInt8) × Int × (Arr 10 (Bool)))) → Prop) (c_bre_parser_atom : (((List (Int × Int × Int × Int × Int × Int × (Arr 4 (UInt64)))) × Int) × (List UInt8) × Int × (Arr 10 (Bool))) → (Int × (List (Int × Int)) × (((List (Int × Int × Int × Int × Int × Int × (Arr 4 (UInt64)))) × Int) × (List UInt8) × Int × (Arr 10 (Bool)))) → Prop) (c_bre_parser_escape : (((List (Int × Int × Int × Int × Int × Int × (Arr 4 (UInt64)))) × Int) × (List UInt8) × Int × (Arr 10 (Bool))) → (Int × (List (Int × Int)) × (((List (Int × Int × Int × Int × Int × Int × (Arr 4 (UInt64)))) × Int) × (List UInt8) × Int × (Arr 10 (Bool)))) → Prop) (c_bre_parser_group : (((List (Int × Int × Int × Int × Int × Int × (Arr 4 (UInt64)))) × Int) × (List UInt8) × Int × (Arr 10 (Bool))) → (Int × (List (Int × Int)) × (((List (Int × Int × Int × Int × Int × Int × (Arr 4 (UInt64)))) × Int) × (List UInt8) × Int × (Arr 10 (Bool)))) → Prop), (∀ a0 a1 r, c_bre_parser_branch a0 a1 r → ∃ m', m' < m ∧ S1 m' a0 a1 r) ∧ (∀ a0 a1 r, c_bre_parser_piece a0 a1 r → ∃ m', m' < m ∧ S2 m' a0 a1 r) ∧ (∀ a0 r, c_bre_parser_atom a0 r → ∃ m', m' < m ∧ S3 m' a0 r) ∧ (∀ a0 r, c_bre_parser_escape a0 r → ∃ m', m' < m ∧ S4 m' a0 r) ∧ (∀ a0 r, c_bre_parser_group a0 r → ∃ m', m' < m ∧ S5 m' a0 r) ∧ bre_parser_group_B c_bre_parser_branch c_bre_parser_piece c_bre_parser_atom c_bre_parser_escape c_bre_parser_group o1 r := ⟨_, _, _, _, _, fun _ _ _ h => h, fun _ _ _ h => h, fun _ _ h => h, fun _ _ h => h, fun _ _ h => h, H.2.2.2.2 m o1 r h⟩
   refine xenter Try.func63 rfl rfl fun g hg => ?_
   simp only [Try.ntmps63, slots]
   refine sr_ ?_
   refine as_ ?_
   refine as_ ?_
   refine nt_ ?_
   refine sr_ ?_
   refine mv_ ?_
   refine vp_ (pv_nilCheck rfl) ?_
   refine vp_ (qv_fieldAddrB FldC.h rfl) ?_
   obtain ⟨y4, h3, h⟩ := h
   refine xcallF (Fb := []) (Ft := []) (tree_Builder_Open_con ((o1.1.1, o1.1.2), o1.2.1, o1.2.2.1, o1.2.2.2) bx0 ia2 _ h3) Try.func79 (by kernel_rfl) rfl (.cons rfl (.refl _) .nil) (by exact sm_) rfl rfl ?_
   rintro _ _ _ ⟨i5, rfl, rfl, rfl⟩
   simp only [List.nil_append, List.cons_append]
   refine as_ ?_
   refine nt_ ?_
   refine xseq ?_
   refine sr_ ?_
   refine mv_ ?_
   refine vp_ (pv_bin2 rfl rfl rfl) ?_
   refine nt_ ?_
   by_cases hp11 : y4.1 < 0
   ·replace h := h.1 hp11
    refine xcondT' (decide_eq_true hp11) rfl ?_
    refine sr_ ?_
    refine mv_ ?_
    obtain ⟨y13, h12, h⟩ := h
    refine xcallF (Fb := []) (Ft := []) (bre_parser_fail_con ((y4.2.1.1, y4.2.1.2), y4.2.2.1, y4.2.2.2.1, y4.2.2.2.2) 17 bx0 i5 _ h12) Try.func22 (by kernel_rfl) rfl (.cons rfl (.refl _) (.cons rfl (.refl _) .nil)) (by exact sm_) rfl rfl ?_
    rintro _ _ _ ⟨rfl, rfl, rfl⟩
    simp only [List.nil_append, List.cons_append]
    refine as_ ?_
    refine as_ ?_
    refine nt_ ?_
    refine xretc ?_
    refine xthen_ret ?_
    replace h := h.symm
    subst h
    exact xret2 hg rfl rfl (.refl _) rfl (.refl _) (SubM.of (.keep rfl rfl (.refl _) (.nil _)) (.keep rfl (.nil _))) ⟨i5, rfl, rfl, rfl⟩
   ·replace h := h.2 hp11
    refine xcondF' (decide_eq_false hp11) rfl ?_
    refine xskipc ?_
    refine xthen ?_
    refine sr_ ?_
    refine mv_ ?_
    refine vp_ (pv_nilCheck rfl) ?_
    refine vp_ (qv_fieldAddrB FldC.h rfl) ?_
    refine v_ (qv_loadB 0 ShpC.h rfl rfl rfl rfl) ?_
    obtain ⟨h14, h⟩ := h
    refine vp_ (pv_addI h14 rfl rfl) ?_
    refine vp_ (pv_nilCheck rfl) ?_
    refine vp_ (qv_fieldAddrB FldC.h rfl) ?_
    refine xstore 0 ShpC.h rfl rfl rfl rfl rfl rfl rfl ?_
    refine nt_ ?_
    refine sr_ ?_
    refine mv_ ?_
    obtain ⟨y16, h15, h⟩ := h
    obtain ⟨m15, hm15, h15⟩ := hc_bre_parser_branch _ _ _ h15
    refine xcallF (Fb := []) (Ft := []) ((ih m15 hm15).1 ((y4.2.1.1, y4.2.1.2), y4.2.2.1, (y4.2.2.2.1 + 2), y4.2.2.2.2) true bx0 i5 _ h15) Try.func14 (by kernel_rfl) rfl (.cons rfl (.refl _) (.cons rfl (.refl _) .nil)) (by exact sm_) rfl rfl ?_
    rintro _ _ _ ⟨i17, rfl, rfl, rfl⟩
    simp only [List.nil_append, List.cons_append]
    refine mv_ ?_
    refine vp_ (pv_extract rfl rfl) ?_
    refine vp_ (pv_extract rfl rfl) ?_
    refine as_ ?_
    refine as_ ?_
    refine nt_ ?_
    refine xseq ?_
    refine sr_ ?_
    refine mv_ ?_
    refine vp_ (pv_nePt UndC.h rfl rfl) ?_
    refine nt_ ?_
    by_cases hp21 : ¬ ((List.isEmpty y16.2.1) = true)
    ·replace h := h.1 hp21
     refine xcondT' (not_t (b_f hp21)) rfl ?_
     refine sr_ ?_
     refine mv_ ?_
     refine as_ ?_
     refine as_ ?_
     refine nt_ ?_
     refine xretc ?_
     refine xthen_ret ?_
     replace h := h.symm
     subst h
     exact xret2 hg rfl rfl (.refl _) rfl (.refl _) (SubM.of (.keep rfl rfl (.refl _) (.nil _)) (.keep rfl (.nil _))) ⟨i17, rfl, rfl, rfl⟩
    ·replace h := h.2 hp21
     refine xcondF' (not_f (Decidable.of_not_not hp21)) rfl ?_
     refine xskipc ?_
     refine xthen ?_
     refine sr_ ?_
     refine mv_ ?_
     refine vp_ (pv_nilCheck rfl) ?_
     refine vp_ (qv_fieldAddrB FldC.h rfl) ?_
     refine v_ (qv_loadB 0 ShpC.h rfl rfl rfl rfl) ?_
     obtain ⟨h22, h⟩ := h
     refine vp_ (pv_addI h22 rfl rfl) ?_
     refine vp_ (pv_nilCheck rfl) ?_
     refine vp_ (qv_fieldAddrB FldC.h rfl) ?_
     refine xstore 0 ShpC.h rfl rfl rfl rfl rfl rfl rfl ?_
     refine nt_ ?_
     refine sr_ ?_
     refine mv_ ?_
     refine mv_ ?_
     refine vp_ (pv_nilCheck rfl) ?_
     refine vp_ (qv_fieldAddrB FldC.h rfl) ?_
     obtain ⟨h23, h⟩ := h
     obtain ⟨y24, h23b, h⟩ := h
     refine vp_ (pv_indexAddrBA h23 UndC.h ShpC.h rfl rfl) ?_
     refine xstoreA (f := eB) (a := y16.2.2.2.2.2) (k := 1) (off := 0) (i := (y4.1 : Int).toNat) 0 [.sl 10 (some i17) (List.map E_palinode_api_Node y16.2.2.1.1), .v (.int .i64 y16.2.2.1.2), .sl 1 none (List.map eb y16.2.2.2.1), .v (.int .i64 ((y16.2.2.2.2.1 + 2)))] [] true h23b sq_ so_ (by decide) ShpC.h rfl rfl rfl rfl sl_ rfl rfl ?_
     refine xreb 0 ([.sl 10 (some i17) (List.map E_palinode_api_Node y16.2.2.1.1), .v (.int .i64 y16.2.2.1.2), .sl 1 none (List.map eb y16.2.2.2.1), .v (.int .i64 ((y16.2.2.2.2.1 + 2)))] ++ (List.map eB ((Arr.set y16.2.2.2.2.2 (y4.1 : Int).toNat true)).l).flatten) rfl sq_ ?_
     refine nt_ ?_
     refine sr_ ?_
     refine mv_ ?_
     refine vp_ (pv_nilCheck rfl) ?_
     refine vp_ (qv_fieldAddrB FldC.h rfl) ?_
     refine mv_ ?_
     refine mv_ ?_
     obtain ⟨y26, h25, h⟩ := h
     refine xcallF (Fb := []) (Ft := []) (tree_Builder_Group_con ((y16.2.2.1.1, y16.2.2.1.2), y16.2.2.2.1, (y16.2.2.2.2.1 + 2), (Arr.set y16.2.2.2.2.2 (y4.1 : Int).toNat true)) y4.1 y16.1 bx0 i17 _ h25) Try.func80 (by kernel_rfl) rfl (.cons rfl (.refl _) (.cons rfl (.refl _) (.cons rfl (.refl _) .nil))) (by exact sm_) rfl rfl ?_
     rintro _ _ _ ⟨i27, rfl, rfl, rfl⟩
     simp only [List.nil_append, List.cons_append]
     refine as_ ?_
     refine as_ ?_
     refine nt_ ?_
     refine xretc ?_
     replace h := h.symm
     subst h
     exact xret2 hg rfl rfl (.refl _) rfl (Wk.nil_pt _) (SubM.of (.keep rfl rfl (.refl _) (.nil _)) (.keep rfl (.nil _))) ⟨i27, rfl, rfl, rfl⟩
theorem bre_parser_branch_con (o1 : ((List (Int × Int × Int × Int × Int × Int × (Arr 4 (UInt64)))) × Int) × (List UInt8) × Int × (Arr 10 (Bool))) (x3 : Bool) (bx0 : Nat) (ia2 : Option (Nat × Nat)) (r : Int × (List (Int × Int)) × (((List (Int × Int × Int × Int × Int × Int × (Arr 4 (UInt64)))) × Int) × (List UInt8) × Int × (Arr 10 (Bool)))) (h : bre_parser_branch_R o1 x3 r) : Con Try.prog 14 [.v (.pointer (some ⟨bx0, 0, none⟩)), .v (.bool x3)] [⟨bx0, 50, ([.sl 10 (some ia2) (List.map E_palinode_api_Node o1.1.1), .v (.int .i64 o1.1.2), .sl 1 none (List.map eb o1.2.1), .v (.int .i64 o1.2.2.1)] ++ (List.map eB o1.2.2.2.l).flatten)⟩] [⟨ia2, 42, 10, o1.1.1.length⟩] (fun rr bx tk => ∃ j1, rr = .tup [.v (.int .i64 r.1), .pt (List.isEmpty r.2.1) (PC_palinode_bre_wrong r.2.1)] ∧ bx = [⟨bx0, 50, ([.sl 10 (some j1) (List.map E_palinode_api_Node r.2.2.1.1), .v (.int .i64 r.2.2.1.2), .sl 1 none (List.map eb r.2.2.2.1), .v (.int .i64 r.2.2.2.2.1)] ++ (List.map eB r.2.2.2.2.2.l).flatten)⟩] ∧ tk = [⟨j1, 42, 10, r.2.2.1.1.length⟩]) := by
 obtain ⟨S1, S2, S3, S4, S5, H, m, h⟩ := h
 exact (rec_bre_parser_branch_con H m).1 o1 x3 bx0 ia2 r h
end Go.Proofs.Ytpddiffpanihdaa
