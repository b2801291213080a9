/- How many bits a word has, by parts. -/
import Derived.Below
namespace Go.Proofs.Ytgplmognfmjllaa
/-- A number out of its bytes. -/
def valB : List Nat → Nat
  | [] => 0
  | b :: l => b + 256 * valB l
theorem and_byte {b c v m : Nat} (hb : b < 256) (hc : c < 256) : (b + 256 * v) &&& (c + 256 * m) = (b &&& c) + 256 * (v &&& m) := by
  have h1 : ((b + 256 * v) &&& (c + 256 * m)) % 2 ^ 8 = b &&& c := by
    rw [Nat.and_mod_two_pow, show (b + 256 * v) % 2 ^ 8 = b by omega, show (c + 256 * m) % 2 ^ 8 = c by omega]
  have h2 : ((b + 256 * v) &&& (c + 256 * m)) / 2 ^ 8 = v &&& m := by
    rw [Nat.and_div_two_pow, show (b + 256 * v) / 2 ^ 8 = v by omega, show (c + 256 * m) / 2 ^ 8 = m by omega]
  omega
theorem valB_and (c : Nat) (hc : c < 256) : ∀ l : List Nat, (∀ b ∈ l, b < 256) → valB l &&& valB (List.replicate l.length c) = valB (l.map (· &&& c))
  | [], _ => Nat.zero_and 0
  | b :: l, h => by
    show (b + 256 * valB l) &&& (c + 256 * valB (List.replicate l.length c)) = _
    rw [and_byte (h b (by simp)) hc, valB_and c hc l fun x hx => h x (by simp [hx])]
    rfl
theorem valB_add (f g : Nat → Nat) : ∀ l : List Nat, valB (l.map f) + valB (l.map g) = valB (l.map fun b => f b + g b)
  | [] => rfl
  | b :: l => by
    have ih := valB_add f g l
    show (f b + 256 * valB (l.map f)) + (g b + 256 * valB (l.map g)) = (f b + g b) + 256 * valB (l.map fun b => f b + g b)
    omega
theorem valB_sh1 : ∀ l : List Nat, (∀ b ∈ l, b < 256) → (valB l / 2) &&& valB (List.replicate l.length 85) = valB (l.map fun b => (b / 2) &&& 85)
  | [], _ => rfl
  | b :: l, h => by
    have hb := h b (by simp)
    show ((b + 256 * valB l) / 2) &&& (85 + 256 * valB (List.replicate l.length 85)) = ((b / 2) &&& 85) + 256 * valB (l.map fun b => (b / 2) &&& 85)
    rw [show (b + 256 * valB l) / 2 = (b / 2 + 128 * (valB l % 2)) + 256 * (valB l / 2) by omega, and_byte (by omega) (by omega), valB_sh1 l fun x hx => h x (by simp [hx])]
    congr 1
    have : ∀ b : Fin 256, ∀ q : Fin 2, (b.1 / 2 + 128 * q.1) &&& 85 = (b.1 / 2) &&& 85 := by decide +kernel
    exact this ⟨b, hb⟩ ⟨valB l % 2, by omega⟩
theorem valB_sh2 : ∀ l : List Nat, (∀ b ∈ l, b < 256) → (valB l / 4) &&& valB (List.replicate l.length 51) = valB (l.map fun b => (b / 4) &&& 51)
  | [], _ => rfl
  | b :: l, h => by
    have hb := h b (by simp)
    show ((b + 256 * valB l) / 4) &&& (51 + 256 * valB (List.replicate l.length 51)) = ((b / 4) &&& 51) + 256 * valB (l.map fun b => (b / 4) &&& 51)
    rw [show (b + 256 * valB l) / 4 = (b / 4 + 64 * (valB l % 4)) + 256 * (valB l / 4) by omega, and_byte (by omega) (by omega), valB_sh2 l fun x hx => h x (by simp [hx])]
    congr 1
    have : ∀ b : Fin 256, ∀ q : Fin 4, (b.1 / 4 + 64 * q.1) &&& 51 = (b.1 / 4) &&& 51 := by decide +kernel
    exact this ⟨b, hb⟩ ⟨valB l % 4, by omega⟩
theorem valB_sh4 : ∀ l : List Nat, (∀ b ∈ l, b / 16 ≤ 4 ∧ b % 16 ≤ 4) → (valB l / 16 + valB l) &&& valB (List.replicate l.length 15) = valB (l.map fun b => b / 16 + b % 16) ∧ valB l % 16 ≤ 4
  | [], _ => ⟨rfl, by decide⟩
  | b :: l, h => by
    have hb := h b (by simp)
    obtain ⟨ih, hv⟩ := valB_sh4 l fun x hx => h x (by simp [hx])
    refine ⟨?_, by show (b + 256 * valB l) % 16 ≤ 4; omega⟩
    show ((b + 256 * valB l) / 16 + (b + 256 * valB l)) &&& (15 + 256 * valB (List.replicate l.length 15)) = (b / 16 + b % 16) + 256 * valB (l.map fun b => b / 16 + b % 16)
    rw [show (b + 256 * valB l) / 16 + (b + 256 * valB l) = (b / 16 + b + 16 * (valB l % 16)) + 256 * (valB l / 16 + valB l) by omega, and_byte (by omega) (by omega), ih]
    congr 1
    rw [show (15 : Nat) = 2 ^ 4 - 1 from rfl, Nat.and_two_pow_sub_one_eq_mod]
    omega
def pc1 (b : Nat) : Nat := ((b / 2) &&& 85) + (b &&& 85)
def pc2 (b : Nat) : Nat := ((b / 4) &&& 51) + (b &&& 51)
def pc3 (b : Nat) : Nat := b / 16 + b % 16
/-- A byte's bits. -/
def pcB (b : Nat) : Nat := pc3 (pc2 (pc1 b))
theorem pcB_bits : ∀ b : Fin 256, pcB b.1 = b.1 % 2 + b.1 / 2 % 2 + b.1 / 4 % 2 + b.1 / 8 % 2 + b.1 / 16 % 2 + b.1 / 32 % 2 + b.1 / 64 % 2 + b.1 / 128 % 2 := by decide +kernel
theorem pc_fine : ∀ b : Fin 256, pc1 b.1 < 256 ∧ pc2 (pc1 b.1) < 256 ∧ pc2 (pc1 b.1) / 16 ≤ 4 ∧ pc2 (pc1 b.1) % 16 ≤ 4 ∧ pcB b.1 ≤ 8 := by decide +kernel
/-- The bytes of a word. -/
def bytesW (x : Nat) : List Nat := [x % 256, x / 256 % 256, x / 65536 % 256, x / 16777216 % 256, x / 4294967296 % 256, x / 1099511627776 % 256, x / 281474976710656 % 256, x / 72057594037927936 % 256]
theorem bytesW_val {x : Nat} (h : x < 18446744073709551616) : valB (bytesW x) = x := by
  simp only [bytesW, valB]; omega
theorem bytesW_lt (x : Nat) : ∀ b ∈ bytesW x, b < 256 := by
  intro b hb
  simp only [bytesW, List.mem_cons, List.not_mem_nil, or_false] at hb
  omega
def popW (x : Nat) : Nat := ((bytesW x).map pcB).sum
theorem rep85 : valB (List.replicate 8 85) = 6148914691236517205 := by decide +kernel
theorem rep51 : valB (List.replicate 8 51) = 3689348814741910323 := by decide +kernel
theorem rep15 : valB (List.replicate 8 15) = 1085102592571150095 := by decide +kernel
theorem valB_div {a : Nat} {l : List Nat} (h : a < 256) : valB (a :: l) / 256 = valB l := by
  show (a + 256 * valB l) / 256 = _
  omega
theorem valB_lt : ∀ {l : List Nat}, (∀ b ∈ l, b < 256) → valB l < 256 ^ l.length
  | [], _ => by decide
  | b :: l, h => by
    have h1 := h b (by simp)
    have h2 := valB_lt (l := l) fun x hx => h x (by simp [hx])
    show b + 256 * valB l < 256 ^ (l.length + 1)
    rw [Nat.pow_succ]
    omega
theorem valB_snoc : ∀ (l : List Nat) (c : Nat), valB (l ++ [c]) = valB l + 256 ^ l.length * c
  | [], c => by show c + 256 * 0 = 0 + 1 * c; omega
  | b :: l, c => by
    show b + 256 * valB (l ++ [c]) = b + 256 * valB l + 256 ^ (l.length + 1) * c
    rw [valB_snoc l c, Nat.pow_succ, Nat.mul_add, Nat.mul_comm (256 ^ l.length) 256, Nat.mul_assoc, Nat.add_assoc]
/-- The bytes' sum, by doubling. -/
theorem sum_steps {c0 c1 c2 c3 c4 c5 c6 c7 y3 y4 y5 y6 : Nat} (p0 : c0 ≤ 8) (p1 : c1 ≤ 8) (p2 : c2 ≤ 8) (p3 : c3 ≤ 8) (p4 : c4 ≤ 8) (p5 : c5 ≤ 8) (p6 : c6 ≤ 8) (p7 : c7 ≤ 8) (h3 : y3 = valB [c0, c1, c2, c3, c4, c5, c6, c7]) (h4 : y4 = y3 + y3 / 256) (h5 : y5 = y4 + y4 / 65536) (h6 : y6 = y5 + y5 / 4294967296) :
    y6 % 128 = c0 + c1 + c2 + c3 + c4 + c5 + c6 + c7 ∧ y3 < 18446744073709551616 ∧ y4 < 18446744073709551616 ∧ y5 < 18446744073709551616 ∧ y6 < 9223372036854775808 := by
  have e4 : y4 = valB [c0 + c1, c1 + c2, c2 + c3, c3 + c4, c4 + c5, c5 + c6, c6 + c7, c7] := by
    rw [h4, h3, valB_div (by omega)]
    simp only [valB]
    omega
  have e5 : y5 = valB [c0 + c1 + c2 + c3, c1 + c2 + c3 + c4, c2 + c3 + c4 + c5, c3 + c4 + c5 + c6, c4 + c5 + c6 + c7, c5 + c6 + c7, c6 + c7, c7] := by
    rw [h5, show (65536 : Nat) = 256 * 256 from rfl, ← Nat.div_div_eq_div_mul, e4, valB_div (by omega), valB_div (by omega)]
    simp only [valB]
    omega
  have e6 : y6 = valB [c0 + c1 + c2 + c3 + c4 + c5 + c6 + c7, c1 + c2 + c3 + c4 + c5 + c6 + c7, c2 + c3 + c4 + c5 + c6 + c7, c3 + c4 + c5 + c6 + c7, c4 + c5 + c6 + c7, c5 + c6 + c7, c6 + c7, c7] := by
    rw [h6, show (4294967296 : Nat) = 256 * 256 * 256 * 256 from rfl, ← Nat.div_div_eq_div_mul, ← Nat.div_div_eq_div_mul, ← Nat.div_div_eq_div_mul, e5, valB_div (by omega), valB_div (by omega), valB_div (by omega), valB_div (by omega)]
    simp only [valB]
    omega
  have lt : ∀ a0 a1 a2 a3 a4 a5 a6 a7 : Nat, a0 < 256 → a1 < 256 → a2 < 256 → a3 < 256 → a4 < 256 → a5 < 256 → a6 < 256 → a7 < 256 → valB [a0, a1, a2, a3, a4, a5, a6, a7] < 18446744073709551616 := by
    intro a0 a1 a2 a3 a4 a5 a6 a7 h0 h1 h2 h3 h4 h5 h6 h7
    refine Nat.lt_of_lt_of_le (valB_lt ?_) (show 256 ^ 8 ≤ 18446744073709551616 by decide)
    intro b hb
    simp only [List.mem_cons, List.not_mem_nil, or_false] at hb
    rcases hb with rfl | rfl | rfl | rfl | rfl | rfl | rfl | rfl <;> assumption
  refine ⟨?_, ?_, ?_, ?_, ?_⟩
  · rw [e6]
    show (c0 + c1 + c2 + c3 + c4 + c5 + c6 + c7 + 256 * valB _) % 128 = _
    omega
  · rw [h3]; apply lt <;> omega
  · rw [e4]; apply lt <;> omega
  · rw [e5]; apply lt <;> omega
  · rw [e6]
    have hv : valB [c0 + c1 + c2 + c3 + c4 + c5 + c6 + c7, c1 + c2 + c3 + c4 + c5 + c6 + c7, c2 + c3 + c4 + c5 + c6 + c7, c3 + c4 + c5 + c6 + c7, c4 + c5 + c6 + c7, c5 + c6 + c7, c6 + c7] < 256 ^ 7 := by
      refine valB_lt (l := [_, _, _, _, _, _, _]) ?_
      intro b hb
      simp only [List.mem_cons, List.not_mem_nil, or_false] at hb
      rcases hb with rfl | rfl | rfl | rfl | rfl | rfl | rfl <;> omega
    have hs := valB_snoc [c0 + c1 + c2 + c3 + c4 + c5 + c6 + c7, c1 + c2 + c3 + c4 + c5 + c6 + c7, c2 + c3 + c4 + c5 + c6 + c7, c3 + c4 + c5 + c6 + c7, c4 + c5 + c6 + c7, c5 + c6 + c7, c6 + c7] c7
    simp only [List.cons_append, List.nil_append] at hs
    rw [hs]
    generalize valB [c0 + c1 + c2 + c3 + c4 + c5 + c6 + c7, c1 + c2 + c3 + c4 + c5 + c6 + c7, c2 + c3 + c4 + c5 + c6 + c7, c3 + c4 + c5 + c6 + c7, c4 + c5 + c6 + c7, c5 + c6 + c7, c6 + c7] = v at hv
    show v + 256 ^ 7 * c7 < _
    simp only [Nat.reducePow] at hv ⊢
    omega
/-- The steps by which bits are counted. -/
theorem pop_steps {x y1 y2 y3 y4 y5 y6 : Nat} (hx : x < 18446744073709551616) (h1 : y1 = ((x / 2) &&& 6148914691236517205) + (x &&& 6148914691236517205)) (h2 : y2 = ((y1 / 4) &&& 3689348814741910323) + (y1 &&& 3689348814741910323)) (h3 : y3 = (y2 / 16 + y2) &&& 1085102592571150095)
    (h4 : y4 = y3 + y3 / 256) (h5 : y5 = y4 + y4 / 65536) (h6 : y6 = y5 + y5 / 4294967296) : y6 &&& 127 = popW x ∧ y1 < 18446744073709551616 ∧ y2 < 18446744073709551616 ∧ y2 / 16 + y2 < 18446744073709551616 ∧ y4 < 18446744073709551616 ∧ y5 < 18446744073709551616 ∧ y6 < 9223372036854775808 ∧ popW x ≤ 64 := by
  have hl := bytesW_lt x
  have e1 : y1 = valB ((bytesW x).map pc1) := by
    have a1 := valB_sh1 _ hl
    have a2 := valB_and 85 (by decide) _ hl
    rw [bytesW_val hx, show (bytesW x).length = 8 from rfl, rep85] at a1 a2
    rw [h1, a1, a2, valB_add]; rfl
  have l1 : ∀ b ∈ (bytesW x).map pc1, b < 256 := by
    intro b hb
    obtain ⟨c, hc, rfl⟩ := List.mem_map.1 hb
    exact (pc_fine ⟨c, hl c hc⟩).1
  have e2 : y2 = valB (((bytesW x).map pc1).map pc2) := by
    have a1 := valB_sh2 _ l1
    have a2 := valB_and 51 (by decide) _ l1
    rw [← e1, show ((bytesW x).map pc1).length = 8 from rfl, rep51] at a1 a2
    rw [h2, a1, a2, valB_add]; rfl
  have l2 : ∀ b ∈ ((bytesW x).map pc1).map pc2, b / 16 ≤ 4 ∧ b % 16 ≤ 4 := by
    intro b hb
    rw [List.map_map] at hb
    obtain ⟨c, hc, rfl⟩ := List.mem_map.1 hb
    exact ⟨(pc_fine ⟨c, hl c hc⟩).2.2.1, (pc_fine ⟨c, hl c hc⟩).2.2.2.1⟩
  have e3 : y3 = valB ((bytesW x).map pcB) := by
    have a1 := (valB_sh4 _ l2).1
    rw [← e2, show (((bytesW x).map pc1).map pc2).length = 8 from rfl, rep15] at a1
    rw [h3, a1, List.map_map, List.map_map]; rfl
  have b1 : y1 < 256 ^ 8 := by
    rw [e1]; exact valB_lt l1
  have b2 : y2 < 68 * 256 ^ 7 + 68 * 256 ^ 7 := by
    rw [e2]
    have hq : ∀ b ∈ ((bytesW x).map pc1).map pc2, b ≤ 68 := fun b hb => by have := l2 b hb; omega
    have hm : ∀ l : List Nat, (∀ b ∈ l, b ≤ 68) → 255 * valB l ≤ 68 * (256 ^ l.length - 1) := by
      intro l
      induction l with
      | nil => intro _; decide
      | cons b l ih =>
        intro h
        have := h b (by simp)
        have := ih fun x hx => h x (by simp [hx])
        have hp : 0 < 256 ^ l.length := Nat.pow_pos (by decide)
        show 255 * (b + 256 * valB l) ≤ 68 * (256 ^ (l.length + 1) - 1)
        rw [Nat.pow_succ]
        omega
    have := hm _ hq
    rw [show (((bytesW x).map pc1).map pc2).length = 8 from rfl] at this
    omega
  have hc : ∀ b, b < 256 → pcB b ≤ 8 := fun b hb => (pc_fine ⟨b, hb⟩).2.2.2.2
  obtain ⟨s1, s2, s3, s4, s5⟩ := sum_steps (hc _ (Nat.mod_lt x (by decide))) (hc _ (Nat.mod_lt _ (by decide))) (hc _ (Nat.mod_lt _ (by decide))) (hc _ (Nat.mod_lt _ (by decide))) (hc _ (Nat.mod_lt _ (by decide))) (hc _ (Nat.mod_lt _ (by decide))) (hc _ (Nat.mod_lt _ (by decide))) (hc _ (Nat.mod_lt _ (by decide))) e3 h4 h5 h6
  have hp : popW x = pcB (x % 256) + pcB (x / 256 % 256) + pcB (x / 65536 % 256) + pcB (x / 16777216 % 256) + pcB (x / 4294967296 % 256) + pcB (x / 1099511627776 % 256) + pcB (x / 281474976710656 % 256) + pcB (x / 72057594037927936 % 256) := by
    show pcB _ + (pcB _ + (pcB _ + (pcB _ + (pcB _ + (pcB _ + (pcB _ + (pcB _ + 0))))))) = _
    omega
  refine ⟨?_, by omega, by omega, by omega, s3, s4, s5, ?_⟩
  · rw [show (127 : Nat) = 2 ^ 7 - 1 from rfl, Nat.and_two_pow_sub_one_eq_mod, hp]; exact s1
  · rw [hp]
    have := hc _ (Nat.mod_lt x (show 0 < 256 by decide)); have := hc _ (Nat.mod_lt (x / 256) (show 0 < 256 by decide)); have := hc _ (Nat.mod_lt (x / 65536) (show 0 < 256 by decide)); have := hc _ (Nat.mod_lt (x / 16777216) (show 0 < 256 by decide))
    have := hc _ (Nat.mod_lt (x / 4294967296) (show 0 < 256 by decide)); have := hc _ (Nat.mod_lt (x / 1099511627776) (show 0 < 256 by decide)); have := hc _ (Nat.mod_lt (x / 281474976710656) (show 0 < 256 by decide)); have := hc _ (Nat.mod_lt (x / 72057594037927936) (show 0 < 256 by decide))
    omega
end Go.Proofs.Ytgplmognfmjllaa
