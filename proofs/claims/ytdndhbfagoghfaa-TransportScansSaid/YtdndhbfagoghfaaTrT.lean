/- What is written reads back: the walk's end. No condition of its own. -/
import Derived.Test.YtdndhbfagoghfaaTrT0
namespace Go.Proofs.Ytdndhbfagoghfaa.P
open Go.RowKit Go.Proofs.YtdndhbfagoghfaaW.PrintWords Go.Proofs.YtdndhbfagoghfaaW.PrintLast Go.Proofs.YtdndhbfagoghfaaW.PrintMore
set_option linter.unusedVariables false
set_option linter.unusedSimpArgs false

theorem clone_f (l : List Int) (h : l.length ≤ 188) : slices_Clone_byte_byte.f l = some l := by
  unfold slices_Clone_byte_byte.f; rw [if_pos (by omega)]

theorem drop_pay (a0 a1 : Int) (a2 : Bool) (a3 : Int) (l : List Int) (h : VB a0 a1 a2 a3 l.length) : ((pkt a0 a1 a2 a3 l).take 188).drop (188 - l.length) = l := by
  obtain ⟨h1, h2, h3, h4', h5, h6, h7, h8, h9⟩ := id h
  rw [List.take_of_length_le (by rw [pkt_len a0 a1 a2 a3 l h]; exact Nat.le_refl _)]
  unfold pkt
  rw [← List.append_assoc]
  refine List.drop_left' ?_
  rw [List.length_append]
  by_cases c : l.length = 184
  · rw [if_pos c, c]; rfl
  · rw [if_neg c, adB_len a3 l.length h8 (by omega)]
    show 4 + (184 - l.length) = 188 - l.length
    omega

theorem rd_1 (a b : Int) (r : List Int) : rd (a :: b :: r) 1 = b := rfl
theorem rd_2 (a b c : Int) (r : List Int) : rd (a :: b :: c :: r) 2 = c := rfl
theorem rd_3 (a b c d : Int) (r : List Int) : rd (a :: b :: c :: d :: r) 3 = d := rfl
theorem rd_4 (a b c d e : Int) (r : List Int) : rd (a :: b :: c :: d :: e :: r) 4 = e := rfl
theorem rd_5 (a b c d e f : Int) (r : List Int) : rd (a :: b :: c :: d :: e :: f :: r) 5 = f := rfl
theorem rd_6 (a b c d e f g : Int) (r : List Int) : rd (a :: b :: c :: d :: e :: f :: g :: r) 6 = g := rfl
theorem rd_7 (a b c d e f g h : Int) (r : List Int) : rd (a :: b :: c :: d :: e :: f :: g :: h :: r) 7 = h := rfl
theorem rd_8 (a b c d e f g h i : Int) (r : List Int) : rd (a :: b :: c :: d :: e :: f :: g :: h :: i :: r) 8 = i := rfl
theorem rd_9 (a b c d e f g h i j : Int) (r : List Int) : rd (a :: b :: c :: d :: e :: f :: g :: h :: i :: j :: r) 9 = j := rfl
theorem rd_10 (a b c d e f g h i j k : Int) (r : List Int) : rd (a :: b :: c :: d :: e :: f :: g :: h :: i :: j :: k :: r) 10 = k := rfl
theorem rd_11 (a b c d e f g h i j k m : Int) (r : List Int) : rd (a :: b :: c :: d :: e :: f :: g :: h :: i :: j :: k :: m :: r) 11 = m := rfl

theorem pkt_cons (a0 a1 : Int) (a2 : Bool) (a3 : Int) (l : List Int) : pkt a0 a1 a2 a3 l = 71 :: ((if a2 = true then 64 else 0) + a0 / 256) :: (a0 % 256) :: (16 * ctl l.length + a1) :: ((if l.length = 184 then [] else adB a3 l.length) ++ l) := by
  unfold pkt hdr
  simp only [List.cons_append, List.nil_append]

/-- read, with what it looks at told by its own: the places, the length, the payload. -/
theorem read_short (L : List Int) (hL : (L.length : Int) = 188) (x1 x2 x3 : Int) (r1 : rd L 1 = x1) (r2 : rd L 2 = x2) (r3 : rd L 3 = x3) (hc : x3 / 16 = 1) (l : List Int) (hd : slices_Clone_byte_byte.f ((L.take 188).drop 4) = some l) :
    transport_read.f L = some (Go.bits .or .i64 (wrap64 ((wrap64 (Go.bits .and .u8 x1 31)) * 256)) (wrap64 x2), wrap64 (Go.bits .and .u8 x3 15), ((Go.bits .and .u8 x1 64) != 0), (-1), l) := by
  unfold transport_read.f
  simp only [hL, r1, r2, r3, hc, hd, if_true, Option.bind_some, if_pos (show (1 : Int) < 188 by decide), if_pos (show (2 : Int) < 188 by decide), if_pos (show (3 : Int) < 188 by decide), if_pos (show (4 : Nat) ≤ 188 by decide), if_pos (show (188 : Int) ≤ 188 by decide)]

theorem read_long (L : List Int) (hL : (L.length : Int) = 188) (x1 x2 x3 x4 m : Int) (r1 : rd L 1 = x1) (r2 : rd L 2 = x2) (r3 : rd L 3 = x3) (r4 : rd L 4 = x4) (hc : ¬ x3 / 16 = 1) (hm : mn (wrap64 (5 + (wrap64 x4))) 188 = m) (m0 : 0 ≤ m) (m1 : m ≤ 188)
    (hx : ¬ (wrap64 x4 ≥ 7) ∨ ¬ rd L 5 = 16) (l : List Int) (hd : slices_Clone_byte_byte.f ((L.take 188).drop m.toNat) = some l) :
    transport_read.f L = some (Go.bits .or .i64 (wrap64 ((wrap64 (Go.bits .and .u8 x1 31)) * 256)) (wrap64 x2), wrap64 (Go.bits .and .u8 x3 15), ((Go.bits .and .u8 x1 64) != 0), (-1), l) := by
  unfold transport_read.f
  simp only [hL, r1, r2, r3, r4, if_neg hc, hm, hd, Option.bind_some, if_pos (show (1 : Int) < 188 by decide), if_pos (show (2 : Int) < 188 by decide), if_pos (show (3 : Int) < 188 by decide), if_pos (show (4 : Int) < 188 by decide), if_pos (show (5 : Int) < 188 by decide), if_pos (show (188 : Int) ≤ 188 by decide), if_pos m0, if_pos m1]
  by_cases c : wrap64 x4 ≥ 7
  · rw [if_pos c]
    rcases hx with h | h
    · exact absurd c h
    · rw [if_neg h]
  · rw [if_neg c]

theorem read_clock (L : List Int) (hL : (L.length : Int) = 188) (x1 x2 x3 x4 m x6 x7 x8 x9 x10 x11 : Int) (r1 : rd L 1 = x1) (r2 : rd L 2 = x2) (r3 : rd L 3 = x3) (r4 : rd L 4 = x4) (hc : ¬ x3 / 16 = 1) (hm : mn (wrap64 (5 + (wrap64 x4))) 188 = m) (m0 : 0 ≤ m) (m1 : m ≤ 188)
    (h7 : wrap64 x4 ≥ 7) (r5 : rd L 5 = 16) (r6 : rd L 6 = x6) (r7 : rd L 7 = x7) (r8 : rd L 8 = x8) (r9 : rd L 9 = x9) (r10 : rd L 10 = x10) (r11 : rd L 11 = x11) (l : List Int) (hd : slices_Clone_byte_byte.f ((L.take 188).drop m.toNat) = some l) :
    transport_read.f L = some (Go.bits .or .i64 (wrap64 ((wrap64 (Go.bits .and .u8 x1 31)) * 256)) (wrap64 x2), wrap64 (Go.bits .and .u8 x3 15), ((Go.bits .and .u8 x1 64) != 0), wrap64 ((wrap64 ((wrap64 ((Go.bits .or .i64 (Go.bits .or .i64 (Go.bits .or .i64 (Go.bits .or .i64 (wrap64 ((wrap64 x6) * 33554432)) (wrap64 ((wrap64 x7) * 131072))) (wrap64 ((wrap64 x8) * 512))) (wrap64 ((wrap64 x9) * 2))) (wrap64 (x10 / 128))) * 300)) + (wrap64 ((wrap64 (Go.bits .and .u8 x10 1)) * 256)))) + (wrap64 x11)), l) := by
  unfold transport_read.f
  simp only [hL, r1, r2, r3, r4, r5, r6, r7, r8, r9, r10, r11, if_neg hc, hm, hd, if_true, Option.bind_some, if_pos (show (1 : Int) < 188 by decide), if_pos (show (2 : Int) < 188 by decide), if_pos (show (3 : Int) < 188 by decide), if_pos (show (4 : Int) < 188 by decide), if_pos (show (5 : Int) < 188 by decide), if_pos (show (6 : Int) < 188 by decide), if_pos (show (7 : Int) < 188 by decide), if_pos (show (8 : Int) < 188 by decide), if_pos (show (9 : Int) < 188 by decide), if_pos (show (10 : Int) < 188 by decide), if_pos (show (11 : Int) < 188 by decide), if_pos (show (188 : Int) ≤ 188 by decide), if_pos m0, if_pos m1, if_pos h7]

theorem read_pkt (a0 a1 : Int) (a2 : Bool) (a3 : Int) (l : List Int) (h : VB a0 a1 a2 a3 l.length) : transport_read.f (pkt a0 a1 a2 a3 l) = some (a0, a1, a2, a3, l) := by
  obtain ⟨h1, h2, h3, h4', h5, h6, h7, h8, h9⟩ := id h
  have hc : 1 ≤ ctl l.length ∧ ctl l.length ≤ 3 := by unfold ctl; split <;> (try split) <;> omega
  have f1 : 0 ≤ a0 / 256 := by omega
  have f2 : a0 / 256 < 32 := by omega
  have e16 : (16 * ctl l.length + a1) / 16 = ctl l.length := by omega
  have f4 : 0 ≤ 16 * ctl l.length + a1 := by omega
  have f5 : 16 * ctl l.length + a1 < 256 := by omega
  have f6 : (16 * ctl l.length + a1) % 16 = a1 := by omega
  have w1 := w64 (x := a1) (by omega) (by omega)
  have w5 : -9223372036854775808 ≤ 183 - (l.length : Int) ∧ 183 - (l.length : Int) < 9223372036854775808 := by omega
  have w6 : -9223372036854775808 ≤ 5 + (183 - (l.length : Int)) ∧ 5 + (183 - (l.length : Int)) < 9223372036854775808 := by omega
  have w7 : 5 + (183 - (l.length : Int)) = 188 - (l.length : Int) := by omega
  have w8 : ¬ (188 : Int) < 188 - (l.length : Int) := by omega
  have w9 : (188 - (l.length : Int)).toNat = 188 - l.length := by omega
  have w10 : 0 ≤ 188 - (l.length : Int) := by omega
  have w11 : 188 - (l.length : Int) ≤ 188 := by omega
  have f7 : l.length ≤ 188 := by omega
  have g1 : l.length = 184 → a3 = -1 := by omega
  have g2 : l.length = 183 → a3 = -1 ∧ 183 - (l.length : Int) = 0 ∧ ¬ (183 - (l.length : Int)) ≥ 7 := by omega
  have g3 : ¬ a3 = -1 → 0 ≤ a3 ∧ (183 - (l.length : Int)) ≥ 7 := by omega
  have hL : ((pkt a0 a1 a2 a3 l).length : Int) = 188 := by rw [pkt_len a0 a1 a2 a3 l h]; rfl
  have hs : (if a2 = true then (64 : Int) else 0) = 64 ∨ (if a2 = true then (64 : Int) else 0) = 0 := by cases a2 <;> simp
  have r1 : rd (pkt a0 a1 a2 a3 l) 1 = (if a2 = true then 64 else 0) + a0 / 256 := by rw [pkt_cons]; exact rd_1 _ _ _
  have r2 : rd (pkt a0 a1 a2 a3 l) 2 = a0 % 256 := by rw [pkt_cons]; exact rd_2 _ _ _ _
  have r3 : rd (pkt a0 a1 a2 a3 l) 3 = 16 * ctl l.length + a1 := by rw [pkt_cons]; exact rd_3 _ _ _ _ _
  have ePid := pid_eq a0 _ h1 h2 hs
  have eFlag := flag64' a2 (a0 / 256) f1 f2
  have eCc : wrap64 (Go.bits .and .u8 (16 * ctl l.length + a1) 15) = a1 := by rw [and15 f4 f5, f6, w1]
  have eDrop := drop_pay a0 a1 a2 a3 l h
  have hcl := clone_f l f7
  by_cases c : l.length = 184
  · have hd : slices_Clone_byte_byte.f (((pkt a0 a1 a2 a3 l).take 188).drop 4) = some l := by
      have e4 : 188 - l.length = 4 := by rw [c]
      rw [e4] at eDrop
      rw [eDrop, hcl]
    rw [read_short _ hL _ _ _ r1 r2 r3 (by rw [e16]; unfold ctl; rw [if_pos c]) l hd, ePid, eFlag, eCc, g1 c]
  · have hn1 : ¬ (16 * ctl l.length + a1) / 16 = 1 := by rw [e16]; unfold ctl; rw [if_neg c]; split <;> decide
    have e7 := w64 w5.1 w5.2
    have e5 : wrap64 (5 + wrap64 (183 - (l.length : Int))) = 188 - (l.length : Int) := by rw [e7, w64 w6.1 w6.2, w7]
    have em : mn (wrap64 (5 + wrap64 (183 - (l.length : Int)))) 188 = 188 - (l.length : Int) := by rw [e5]; unfold mn; rw [if_neg w8]
    have hd : slices_Clone_byte_byte.f (((pkt a0 a1 a2 a3 l).take 188).drop (188 - (l.length : Int)).toNat) = some l := by
      rw [w9, eDrop, hcl]
    by_cases c2 : l.length = 183
    · have r4 : rd (pkt a0 a1 a2 a3 l) 4 = 183 - (l.length : Int) := by
        rw [pkt_cons, if_neg c]; unfold adB; rw [if_pos c2, (g2 c2).2.1]; exact rd_4 _ _ _ _ _ _
      rw [read_long _ hL _ _ _ _ _ r1 r2 r3 r4 hn1 em w10 w11 (Or.inl (by rw [e7]; exact (g2 c2).2.2)) l hd, ePid, eFlag, eCc, (g2 c2).1]
    · have hp : pkt a0 a1 a2 a3 l = 71 :: ((if a2 = true then 64 else 0) + a0 / 256) :: (a0 % 256) :: (16 * ctl l.length + a1) :: (183 - (l.length : Int)) :: (flagB a3 ++ (List.replicate (183 - l.length - (flagB a3).length) 255 ++ l)) := by
        rw [pkt_cons, if_neg c]; unfold adB; rw [if_neg c2]
        simp only [List.cons_append, List.nil_append, List.append_assoc]
      have r4 : rd (pkt a0 a1 a2 a3 l) 4 = 183 - (l.length : Int) := by rw [hp]; exact rd_4 _ _ _ _ _ _
      by_cases c4 : a3 = -1
      · have r5 : ¬ rd (pkt a0 a1 a2 a3 l) 5 = 16 := by
          rw [hp, show flagB a3 = [0] by unfold flagB; rw [if_pos c4]]
          simp only [List.cons_append, List.nil_append]
          rw [rd_5]; decide
        rw [read_long _ hL _ _ _ _ _ r1 r2 r3 r4 hn1 em w10 w11 (Or.inr r5) l hd, ePid, eFlag, eCc, c4]
      · generalize hrep : List.replicate (183 - l.length - (flagB a3).length) (255 : Int) ++ l = rest at hp
        rw [show flagB a3 = pcrB a3 by unfold flagB; rw [if_neg c4]] at hp
        unfold pcrB at hp
        simp only [List.cons_append, List.nil_append] at hp
        have r5 : rd (pkt a0 a1 a2 a3 l) 5 = 16 := by rw [hp]; exact rd_5 _ _ _ _ _ _ _
        have r6 : rd (pkt a0 a1 a2 a3 l) 6 = a3 / 300 / 33554432 % 256 := by rw [hp]; exact rd_6 _ _ _ _ _ _ _ _
        have r7 : rd (pkt a0 a1 a2 a3 l) 7 = a3 / 300 / 131072 % 256 := by rw [hp]; exact rd_7 _ _ _ _ _ _ _ _ _
        have r8 : rd (pkt a0 a1 a2 a3 l) 8 = a3 / 300 / 512 % 256 := by rw [hp]; exact rd_8 _ _ _ _ _ _ _ _ _ _
        have r9 : rd (pkt a0 a1 a2 a3 l) 9 = a3 / 300 / 2 % 256 := by rw [hp]; exact rd_9 _ _ _ _ _ _ _ _ _ _ _
        have r10 : rd (pkt a0 a1 a2 a3 l) 10 = a3 / 300 % 2 * 128 + 126 + a3 % 300 / 256 := by rw [hp]; exact rd_10 _ _ _ _ _ _ _ _ _ _ _ _
        have r11 : rd (pkt a0 a1 a2 a3 l) 11 = a3 % 300 % 256 := by rw [hp]; exact rd_11 _ _ _ _ _ _ _ _ _ _ _ _ _
        rw [read_clock _ hL _ _ _ _ _ _ _ _ _ _ _ r1 r2 r3 r4 hn1 em w10 w11 (by rw [e7]; exact (g3 c4).2) r5 r6 r7 r8 r9 r10 r11 l hd, ePid, eFlag, eCc, pcr_eq a3 (g3 c4).1 h6]

theorem take_pkt (a0 a1 : Int) (a2 : Bool) (a3 : Int) (l : List Int) (h : VB a0 a1 a2 a3 l.length) : Ev (fun k => transport_Take.f k (pkt a0 a1 a2 a3 l)) (a0, a1, a2, a3, l, 0) := by
  have hL : ((pkt a0 a1 a2 a3 l).length : Int) = 188 := by rw [pkt_len a0 a1 a2 a3 l h]; rfl
  unfold transport_Take.f
  rw [hL]
  simp only [if_neg (show ¬ (188 : Int) < 188 by decide), if_neg (show ¬ (188 : Int) > 188 by decide), read_pkt a0 a1 a2 a3 l h, Option.bind_some]
  have hp := put_ev a0 a1 a2 a3 l
  rw [if_pos h] at hp
  refine Ev.bind hp ?_
  simp only [if_true, equal_bytes, Option.bind_some]
  exact Ev.now _

end Go.Proofs.Ytdndhbfagoghfaa.P
