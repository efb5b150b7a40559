/- What any bytes are read as, by the product and by the reference. No condition of its own. -/
import Derived.Test.YtdndhbfagoghfaaTrT
import Derived.Test.YtdndhbfagoghfaaTrQ
import Derived.Test.YtdndhbfagoghfaaPx19
import Derived.Lib.Strings
namespace Go.Proofs.Ytdndhbfagoghfaa.P
open Go.RowKit Go.Proofs.YtdndhbfagoghfaaW.PrintWords Go.Proofs.YtdndhbfagoghfaaW.PrintLast Go.Proofs.YtdndhbfagoghfaaW.PrintMore
set_option linter.unusedVariables false
set_option linter.unusedSimpArgs false

theorem Ev.uniq {α : Type} {g : Nat → Option α} {a b : α} (h1 : Ev g a) (h2 : Ev g b) : a = b := by
  obtain ⟨K1, e1⟩ := h1
  obtain ⟨K2, e2⟩ := h2
  have x1 := e1 (max K1 K2) (Nat.le_max_left ..)
  have x2 := e2 (max K1 K2) (Nat.le_max_right ..)
  rw [x1] at x2
  exact Option.some.inj x2
def By (b : List Int) : Prop := ∀ v ∈ b, 0 ≤ v ∧ v ≤ 255
theorem by_rd {b : List Int} (h : By b) (i : Nat) (hi : i < b.length) : 0 ≤ rd b (i : Int) ∧ rd b (i : Int) ≤ 255 := by
  have e : rd b (i : Int) = b[i] := by simp [rd, List.getD, hi]
  rw [e]
  exact h _ (List.getElem_mem hi)
theorem back {a : List Int} (h : By a) : (a.map fun n => UInt8.ofNat n.toNat).map (fun u => (u.toNat : Int)) = a := by
  rw [List.map_map]
  have : ∀ n ∈ a, ((fun u : UInt8 => (u.toNat : Int)) ∘ fun n : Int => UInt8.ofNat n.toNat) n = n := fun n hn => by
    have := h n hn
    show ((UInt8.ofNat n.toNat).toNat : Int) = n
    rw [UInt8.toNat_ofNat']
    omega
  rw [List.map_congr_left this, List.map_id']
theorem str_inj {a b : List Int} (ha : By a) (hb : By b) : ((strOfNums a).toList == (strOfNums b).toList) = (a == b) := by
  rw [Bool.eq_iff_iff, beq_iff_eq, beq_iff_eq]
  constructor
  · intro h
    rw [Lib.toList_data, Lib.toList_data, strOfNums_data, strOfNums_data] at h
    rw [← back ha, ← back hb, h]
  · rintro rfl; rfl
theorem same_eq {a b : List Int} (ha : By a) (hb : By b) : cutroomref02_SameBytes.f a b = some (a == b) := by unfold cutroomref02_SameBytes.f; rw [str_inj ha hb]
theorem bytes_eq {a b : List Int} (ha : By a) (hb : By b) : bytes_Equal.f a b = some (a == b) := by unfold bytes_Equal.f; rw [str_inj ha hb]
theorem by_app {a b : List Int} (ha : By a) (hb : By b) : By (a ++ b) := fun v hv => by
  rcases List.mem_append.1 hv with h | h
  · exact ha v h
  · exact hb v h
theorem by_cons {x : Int} {a : List Int} (h0 : 0 ≤ x) (h1 : x ≤ 255) (ha : By a) : By (x :: a) := fun v hv => by
  rcases List.mem_cons.1 hv with rfl | h
  · exact ⟨h0, h1⟩
  · exact ha v h
theorem by_nil : By [] := fun v hv => absurd hv (by simp)
theorem by_drop {b : List Int} (h : By b) (n : Nat) : By (b.drop n) := fun v hv => h v (List.mem_of_mem_drop hv)
theorem by_take {b : List Int} (h : By b) (n : Nat) : By (b.take n) := fun v hv => h v (List.mem_of_mem_take hv)
theorem by_pkt {a0 a1 : Int} {a2 : Bool} {a3 : Int} {l : List Int} (h : VB a0 a1 a2 a3 l.length) (hl : By l) : By (pkt a0 a1 a2 a3 l) := by
  obtain ⟨h1, h2, h3, h4, h5, h6, h7, h8, h9⟩ := id h
  have hc : 1 ≤ ctl l.length ∧ ctl l.length ≤ 3 := by unfold ctl; split <;> (try split) <;> omega
  have hs : (if a2 = true then (64 : Int) else 0) = 64 ∨ (if a2 = true then (64 : Int) else 0) = 0 := by cases a2 <;> simp
  unfold pkt hdr
  refine by_app (by_cons (by decide) (by decide) (by_cons (by omega) (by omega) (by_cons (by omega) (by omega) (by_cons (by omega) (by omega) by_nil)))) (by_app ?_ hl)
  split
  · exact by_nil
  · unfold adB
    split
    · exact by_cons (by decide) (by decide) by_nil
    · refine by_app (by_app (by_cons (by omega) (by omega) by_nil) ?_) (fun v hv => by rw [(List.mem_replicate.1 hv).2]; omega)
      unfold flagB
      split
      · exact by_cons (by decide) (by decide) by_nil
      · unfold pcrB
        exact by_cons (by decide) (by decide) (by_cons (by omega) (by omega) (by_cons (by omega) (by omega) (by_cons (by omega) (by omega) (by_cons (by omega) (by omega) (by_cons (by omega) (by omega) (by_cons (by omega) (by omega) by_nil))))))
theorem min_bd (x : Int) (h0 : 0 ≤ x) (h1 : x ≤ 255) : 0 ≤ mn (wrap64 (5 + wrap64 x)) 188 ∧ mn (wrap64 (5 + wrap64 x)) 188 ≤ 188 := by
  rw [w64 (x := x) (by omega) (by omega), w64 (x := 5 + x) (by omega) (by omega)]
  unfold mn
  split <;> omega

/-- a packet's fields -/
structure Pk where
  a0 : Int
  a1 : Int
  a2 : Bool
  a3 : Int
  l : List Int
def Pk.ok (s : Pk) (b : List Int) : Prop := VB s.a0 s.a1 s.a2 s.a3 s.l.length ∧ pkt s.a0 s.a1 s.a2 s.a3 s.l = b
def Pk.t (s : Pk) : Int × Int × Bool × Int × List Int × Int := (s.a0, s.a1, s.a2, s.a3, s.l, 0)

theorem read_some (b : List Int) (hL : (b.length : Int) = 188) (hb : By b) : ∃ s0 s1 s2 s3 n, transport_read.f b = some (s0, s1, s2, s3, (b.take 188).drop n) := by
  have h4 := by_rd hb 4 (by omega)
  have hm := min_bd (rd b 4) h4.1 h4.2
  have hcl : ∀ n, slices_Clone_byte_byte.f ((b.take 188).drop n) = some ((b.take 188).drop n) := fun n => clone_f _ (by rw [List.length_drop, List.length_take]; omega)
  by_cases c1 : rd b 3 / 16 = 1
  · exact ⟨_, _, _, _, _, read_short b hL _ _ _ rfl rfl rfl c1 _ (hcl 4)⟩
  · by_cases c2 : wrap64 (rd b 4) ≥ 7
    · by_cases c3 : rd b 5 = 16
      · exact ⟨_, _, _, _, _, read_clock b hL _ _ _ _ _ _ _ _ _ _ _ rfl rfl rfl rfl c1 rfl hm.1 hm.2 c2 c3 rfl rfl rfl rfl rfl rfl _ (hcl _)⟩
      · exact ⟨_, _, _, _, _, read_long b hL _ _ _ _ _ rfl rfl rfl rfl c1 rfl hm.1 hm.2 (.inr c3) _ (hcl _)⟩
    · exact ⟨_, _, _, _, _, read_long b hL _ _ _ _ _ rfl rfl rfl rfl c1 rfl hm.1 hm.2 (.inl c2) _ (hcl _)⟩

theorem take_any (b : List Int) (hL : (b.length : Int) = 188) (hb : By b) : (∃ s : Pk, s.ok b ∧ Ev (fun k => transport_Take.f k b) s.t) ∨ Ev (fun k => transport_Take.f k b) (0, 0, false, 0, [], 3) := by
  obtain ⟨s0, s1, s2, s3, n, hs⟩ := read_some b hL hb
  have hyl : By ((b.take 188).drop n) := by_drop (by_take hb _) _
  generalize (b.take 188).drop n = y at *
  have hp := put_ev s0 s1 s2 s3 y
  by_cases c : VB s0 s1 s2 s3 y.length
  · rw [if_pos c] at hp
    by_cases e : pkt s0 s1 s2 s3 y = b
    · left
      refine ⟨⟨s0, s1, s2, s3, y⟩, ⟨c, e⟩, ?_⟩
      unfold transport_Take.f
      rw [hL]
      simp only [if_neg (show ¬ (188 : Int) < 188 by decide), if_neg (show ¬ (188 : Int) > 188 by decide), hs, Option.bind_some]
      refine Ev.bind hp ?_
      simp only [if_true, e, equal_bytes, Option.bind_some]
      exact Ev.now _
    · right
      unfold transport_Take.f
      rw [hL]
      simp only [if_neg (show ¬ (188 : Int) < 188 by decide), if_neg (show ¬ (188 : Int) > 188 by decide), hs, Option.bind_some]
      refine Ev.bind hp ?_
      simp only [if_true, bytes_eq (by_pkt c hyl) hb, Option.bind_some, beq_eq_false_iff_ne.2 e, Bool.false_eq_true, if_false]
      exact Ev.now _
  · right
    rw [if_neg c] at hp
    unfold transport_Take.f
    rw [hL]
    simp only [if_neg (show ¬ (188 : Int) < 188 by decide), if_neg (show ¬ (188 : Int) > 188 by decide), hs, Option.bind_some]
    refine Ev.bind hp ?_
    simp only [if_neg (show ¬ (1 : Int) = 0 by decide)]
    exact Ev.now _

/-! ### the reference's -/
theorem rj0 (b : List Int) (hL : (b.length : Int) = 188) (hb : By b) (m : Int) (m0 : 0 ≤ m) (m1 : m ≤ 188) (a0 a1 : Int) (a2 : Bool) (a3 : Int) :
    (Pk.ok ⟨a0, a1, a2, a3, b.drop m.toNat⟩ b ∧ Ev (fun k => cutroomref17_Take.j0 k b m a0 a1 a2 a3) (a0, a1, a2, a3, b.drop m.toNat, 0)) ∨ (¬ Pk.ok ⟨a0, a1, a2, a3, b.drop m.toNat⟩ b ∧ Ev (fun k => cutroomref17_Take.j0 k b m a0 a1 a2 a3) (0, 0, false, 0, [], 3)) := by
  have hl : (b.drop m.toNat).length ≤ 188 := by rw [List.length_drop]; omega
  have hp := ref_put_ev a0 a1 a2 a3 (b.drop m.toNat)
  have start : ∀ r, Ev (fun k => (cutroomref17_Put.f k a0 a1 a2 a3 (b.drop m.toNat)).bind fun bt352 => (if bt352.2 = 0 then ((cutroomref02_SameBytes.f b bt352.1).bind fun t356 => (if t356 = true then (some (a0, a1, a2, a3, b.drop m.toNat, 0)) else (some (0, 0, false, 0, ([] : List Int), 3)))) else (some (0, 0, false, 0, ([] : List Int), 3)))) r →
      Ev (fun k => cutroomref17_Take.j0 k b m a0 a1 a2 a3) r := fun r h => by
    refine Ev.step (fun k => by rw [cutroomref17_Take.j0]) ?_
    simp only [Option.bind_some, if_pos m0, if_pos (show m ≤ (b.length : Int) by omega), List.length_nil, List.nil_append, if_pos (show 0 + (b.drop m.toNat).length < 140737488355328 by omega)]
    exact h
  by_cases c : VB a0 a1 a2 a3 (b.drop m.toNat).length
  · rw [if_pos c] at hp
    by_cases e : pkt a0 a1 a2 a3 (b.drop m.toNat) = b
    · left
      refine ⟨⟨c, e⟩, start _ ?_⟩
      refine Ev.bind hp ?_
      simp only [if_true, e, same_bytes, Option.bind_some]
      exact Ev.now _
    · right
      refine ⟨fun h => e h.2, start _ ?_⟩
      refine Ev.bind hp ?_
      simp only [if_true, same_eq hb (by_pkt c (by_drop hb _)), Option.bind_some, beq_eq_false_iff_ne.2 (fun h => e h.symm), Bool.false_eq_true, if_false]
      exact Ev.now _
  · rw [if_neg c] at hp
    right
    refine ⟨fun h => c h.1, start _ ?_⟩
    refine Ev.bind hp ?_
    simp only [if_neg (show ¬ (1 : Int) = 0 by decide)]
    exact Ev.now _

def pidE (x1 x2 : Int) : Int := Go.bits .or .i64 (wrap64 ((wrap64 (Go.bits .and .u8 x1 31)) * 256)) (wrap64 x2)
def ccE (x3 : Int) : Int := wrap64 (Go.bits .and .u8 x3 15)
def flE (x1 : Int) : Bool := (Go.bits .and .u8 x1 64) != 0
def clE (x6 x7 x8 x9 x10 x11 : Int) : Int := wrap64 ((wrap64 ((wrap64 ((Go.bits .or .i64 (Go.bits .or .i64 (Go.bits .or .i64 (Go.bits .or .i64 (wrap64 ((wrap64 x6) * 33554432)) (wrap64 ((wrap64 x7) * 131072))) (wrap64 ((wrap64 x8) * 512))) (wrap64 ((wrap64 x9) * 2))) (wrap64 (x10 / 128))) * 300)) + (wrap64 ((wrap64 (Go.bits .and .u8 x10 1)) * 256)))) + (wrap64 x11))

theorem rread_short (L : List Int) (hL : (L.length : Int) = 188) (hc : Go.bits .and .u8 (rd L 3) 32 = 0) (r : Int × Int × Bool × Int × List Int × Int)
    (h : Ev (fun k => cutroomref17_Take.j0 k L 4 (pidE (rd L 1) (rd L 2)) (ccE (rd L 3)) (flE (rd L 1)) (-1)) r) : Ev (fun k => cutroomref17_Take.f k L) r := by
  unfold cutroomref17_Take.f
  simp only [hL, hc, if_true, if_neg (show ¬ (188 : Int) < 188 by decide), if_neg (show ¬ (188 : Int) > 188 by decide), if_pos (show (1 : Int) < 188 by decide), if_pos (show (2 : Int) < 188 by decide), if_pos (show (3 : Int) < 188 by decide)]
  exact h
theorem rread_long (L : List Int) (hL : (L.length : Int) = 188) (hc : ¬ Go.bits .and .u8 (rd L 3) 32 = 0) (hx : ¬ rd L 4 > 6 ∨ Go.bits .and .u8 (rd L 5) 16 = 0) (r : Int × Int × Bool × Int × List Int × Int)
    (h : Ev (fun k => cutroomref17_Take.j0 k L (mn (wrap64 (5 + (wrap64 (rd L 4)))) 188) (pidE (rd L 1) (rd L 2)) (ccE (rd L 3)) (flE (rd L 1)) (-1)) r) : Ev (fun k => cutroomref17_Take.f k L) r := by
  unfold cutroomref17_Take.f
  simp only [hL, if_neg hc, if_neg (show ¬ (188 : Int) < 188 by decide), if_neg (show ¬ (188 : Int) > 188 by decide), if_pos (show (1 : Int) < 188 by decide), if_pos (show (2 : Int) < 188 by decide), if_pos (show (3 : Int) < 188 by decide), if_pos (show (4 : Int) < 188 by decide), if_pos (show (5 : Int) < 188 by decide)]
  by_cases c : rd L 4 > 6
  · simp only [if_pos c]
    rcases hx with e | e
    · exact absurd c e
    · simp only [if_pos e]; exact h
  · simp only [if_neg c]; exact h
theorem rread_clock (L : List Int) (hL : (L.length : Int) = 188) (hc : ¬ Go.bits .and .u8 (rd L 3) 32 = 0) (h6 : rd L 4 > 6) (h5 : ¬ Go.bits .and .u8 (rd L 5) 16 = 0) (r : Int × Int × Bool × Int × List Int × Int)
    (h : Ev (fun k => cutroomref17_Take.j0 k L (mn (wrap64 (5 + (wrap64 (rd L 4)))) 188) (pidE (rd L 1) (rd L 2)) (ccE (rd L 3)) (flE (rd L 1)) (clE (rd L 6) (rd L 7) (rd L 8) (rd L 9) (rd L 10) (rd L 11))) r) : Ev (fun k => cutroomref17_Take.f k L) r := by
  unfold cutroomref17_Take.f
  simp only [hL, if_neg hc, if_pos h6, if_neg h5, if_neg (show ¬ (188 : Int) < 188 by decide), if_neg (show ¬ (188 : Int) > 188 by decide), if_pos (show (1 : Int) < 188 by decide), if_pos (show (2 : Int) < 188 by decide), if_pos (show (3 : Int) < 188 by decide), if_pos (show (4 : Int) < 188 by decide), if_pos (show (5 : Int) < 188 by decide), if_pos (show (6 : Int) < 188 by decide), if_pos (show (7 : Int) < 188 by decide), if_pos (show (8 : Int) < 188 by decide), if_pos (show (9 : Int) < 188 by decide), if_pos (show (10 : Int) < 188 by decide), if_pos (show (11 : Int) < 188 by decide)]
  exact h

theorem rtake_any (b : List Int) (hL : (b.length : Int) = 188) (hb : By b) : (∃ s : Pk, s.ok b ∧ Ev (fun k => cutroomref17_Take.f k b) s.t) ∨ Ev (fun k => cutroomref17_Take.f k b) (0, 0, false, 0, [], 3) := by
  have h4 := by_rd hb 4 (by omega)
  have hm := min_bd (rd b 4) h4.1 h4.2
  by_cases c1 : Go.bits .and .u8 (rd b 3) 32 = 0
  · rcases rj0 b hL hb 4 (by decide) (by decide) (pidE (rd b 1) (rd b 2)) (ccE (rd b 3)) (flE (rd b 1)) (-1) with ⟨h1, h2⟩ | ⟨_, h2⟩
    · exact .inl ⟨_, h1, rread_short b hL c1 _ h2⟩
    · exact .inr (rread_short b hL c1 _ h2)
  · by_cases c2 : rd b 4 > 6 ∧ ¬ Go.bits .and .u8 (rd b 5) 16 = 0
    · rcases rj0 b hL hb _ hm.1 hm.2 (pidE (rd b 1) (rd b 2)) (ccE (rd b 3)) (flE (rd b 1)) (clE (rd b 6) (rd b 7) (rd b 8) (rd b 9) (rd b 10) (rd b 11)) with ⟨h1, h2⟩ | ⟨_, h2⟩
      · exact .inl ⟨_, h1, rread_clock b hL c1 c2.1 c2.2 _ h2⟩
      · exact .inr (rread_clock b hL c1 c2.1 c2.2 _ h2)
    · have hx : ¬ rd b 4 > 6 ∨ Go.bits .and .u8 (rd b 5) 16 = 0 := by
        by_cases e : rd b 4 > 6
        · right
          by_cases e2 : Go.bits .and .u8 (rd b 5) 16 = 0
          · exact e2
          · exact absurd ⟨e, e2⟩ c2
        · exact .inl e
      rcases rj0 b hL hb _ hm.1 hm.2 (pidE (rd b 1) (rd b 2)) (ccE (rd b 3)) (flE (rd b 1)) (-1) with ⟨h1, h2⟩ | ⟨_, h2⟩
      · exact .inl ⟨_, h1, rread_long b hL c1 hx _ h2⟩
      · exact .inr (rread_long b hL c1 hx _ h2)

theorem and32c : ∀ (c : Fin 4) (a : Fin 16), (Go.bits .and .u8 (16 * (c.val : Int) + (a.val : Int)) 32 = 0) = (c.val < 2) := by decide +kernel
theorem rtake_pkt (a0 a1 : Int) (a2 : Bool) (a3 : Int) (l : List Int) (h : VB a0 a1 a2 a3 l.length) (hl : By l) : Ev (fun k => cutroomref17_Take.f k (pkt a0 a1 a2 a3 l)) (a0, a1, a2, a3, l, 0) := by
  obtain ⟨h1, h2, h3, h4', h5, h6, h7, h8, h9⟩ := id h
  have hc : 1 ≤ ctl l.length ∧ ctl l.length ≤ 3 := by unfold ctl; split <;> (try split) <;> omega
  have f1 : 0 ≤ a0 / 256 := by omega
  have f2 : a0 / 256 < 32 := by omega
  have f4 : 0 ≤ 16 * ctl l.length + a1 := by omega
  have f5 : 16 * ctl l.length + a1 < 256 := by omega
  have f6 : (16 * ctl l.length + a1) % 16 = a1 := by omega
  have w1 := w64 (x := a1) (by omega) (by omega)
  have w5 : -9223372036854775808 ≤ 183 - (l.length : Int) ∧ 183 - (l.length : Int) < 9223372036854775808 := by omega
  have w6 : -9223372036854775808 ≤ 5 + (183 - (l.length : Int)) ∧ 5 + (183 - (l.length : Int)) < 9223372036854775808 := by omega
  have w7 : 5 + (183 - (l.length : Int)) = 188 - (l.length : Int) := by omega
  have w8 : ¬ (188 : Int) < 188 - (l.length : Int) := by omega
  have w9 : (188 - (l.length : Int)).toNat = 188 - l.length := by omega
  have w10 : 0 ≤ 188 - (l.length : Int) := by omega
  have w11 : 188 - (l.length : Int) ≤ 188 := by omega
  have k1 : (ctl l.length).toNat < 4 := by omega
  have k2 : a1.toNat < 16 := by omega
  have k3 : 0 ≤ ctl l.length := by omega
  have g1 : l.length = 184 → a3 = -1 := by omega
  have g2 : l.length = 183 → a3 = -1 ∧ 183 - (l.length : Int) = 0 ∧ ¬ (183 - (l.length : Int)) > 6 := by omega
  have g3 : ¬ a3 = -1 → 0 ≤ a3 ∧ (183 - (l.length : Int)) > 6 := by omega
  have hL : ((pkt a0 a1 a2 a3 l).length : Int) = 188 := by rw [pkt_len a0 a1 a2 a3 l h]; rfl
  have hs : (if a2 = true then (64 : Int) else 0) = 64 ∨ (if a2 = true then (64 : Int) else 0) = 0 := by cases a2 <;> simp
  have r1 : rd (pkt a0 a1 a2 a3 l) 1 = (if a2 = true then 64 else 0) + a0 / 256 := by rw [pkt_cons]; exact rd_1 _ _ _
  have r2 : rd (pkt a0 a1 a2 a3 l) 2 = a0 % 256 := by rw [pkt_cons]; exact rd_2 _ _ _ _
  have r3 : rd (pkt a0 a1 a2 a3 l) 3 = 16 * ctl l.length + a1 := by rw [pkt_cons]; exact rd_3 _ _ _ _ _
  have eP : pidE (rd (pkt a0 a1 a2 a3 l) 1) (rd (pkt a0 a1 a2 a3 l) 2) = a0 := by rw [r1, r2]; exact pid_eq a0 _ h1 h2 hs
  have eF : flE (rd (pkt a0 a1 a2 a3 l) 1) = a2 := by rw [r1]; exact flag64' a2 (a0 / 256) f1 f2
  have eC : ccE (rd (pkt a0 a1 a2 a3 l) 3) = a1 := by rw [r3]; unfold ccE; rw [and15 f4 f5, f6, w1]
  have eDrop : (pkt a0 a1 a2 a3 l).drop (188 - l.length) = l := by
    have := drop_pay a0 a1 a2 a3 l h
    rwa [List.take_of_length_le (Nat.le_of_eq (pkt_len a0 a1 a2 a3 l h))] at this
  have bit : (Go.bits .and .u8 (16 * ctl l.length + a1) 32 = 0) ↔ l.length = 184 := by
    have := and32c ⟨(ctl l.length).toNat, k1⟩ ⟨a1.toNat, k2⟩
    simp only [Int.toNat_of_nonneg k3, Int.toNat_of_nonneg h3] at this
    rw [this]
    unfold ctl
    split
    · rename_i e; exact ⟨fun _ => e, fun _ => by decide⟩
    · rename_i e
      split
      · exact ⟨fun z => absurd z (by decide), fun z => absurd z e⟩
      · exact ⟨fun z => absurd z (by decide), fun z => absurd z e⟩
  have fin : ∀ m : Int, m.toNat = 188 - l.length → 0 ≤ m → m ≤ 188 → Ev (fun k => cutroomref17_Take.j0 k (pkt a0 a1 a2 a3 l) m a0 a1 a2 a3) (a0, a1, a2, a3, l, 0) := fun m e m0 m1 => by
    rcases rj0 (pkt a0 a1 a2 a3 l) hL (by_pkt h hl) m m0 m1 a0 a1 a2 a3 with ⟨_, q⟩ | ⟨q, _⟩
    · rwa [e, eDrop] at q
    · exact absurd ⟨by rw [e, eDrop]; exact h, by rw [e, eDrop]⟩ q
  by_cases c : l.length = 184
  · refine rread_short _ hL (by rw [r3]; exact bit.2 c) _ ?_
    rw [eP, eF, eC, ← g1 c]
    exact fin 4 (by rw [c]; rfl) (by decide) (by decide)
  · have hn : ¬ Go.bits .and .u8 (rd (pkt a0 a1 a2 a3 l) 3) 32 = 0 := by rw [r3]; exact fun z => c (bit.1 z)
    have e7 := w64 w5.1 w5.2
    have em : mn (wrap64 (5 + wrap64 (183 - (l.length : Int)))) 188 = 188 - (l.length : Int) := by rw [e7, w64 w6.1 w6.2, w7]; unfold mn; rw [if_neg w8]
    have f9 := fin (188 - (l.length : Int)) w9 w10 w11
    by_cases c2 : l.length = 183
    · have r4 : rd (pkt a0 a1 a2 a3 l) 4 = 183 - (l.length : Int) := by
        rw [pkt_cons, if_neg c]; unfold adB; rw [if_pos c2, (g2 c2).2.1]; exact rd_4 _ _ _ _ _ _
      refine rread_long _ hL hn (.inl (by rw [r4]; exact (g2 c2).2.2)) _ ?_
      rw [eP, eF, eC, r4, em, ← (g2 c2).1]
      exact f9
    · have hp : pkt a0 a1 a2 a3 l = 71 :: ((if a2 = true then 64 else 0) + a0 / 256) :: (a0 % 256) :: (16 * ctl l.length + a1) :: (183 - (l.length : Int)) :: (flagB a3 ++ (List.replicate (183 - l.length - (flagB a3).length) 255 ++ l)) := by
        rw [pkt_cons, if_neg c]; unfold adB; rw [if_neg c2]
        simp only [List.cons_append, List.nil_append, List.append_assoc]
      have r4 : rd (pkt a0 a1 a2 a3 l) 4 = 183 - (l.length : Int) := by rw [hp]; exact rd_4 _ _ _ _ _ _
      by_cases c4 : a3 = -1
      · have r5 : Go.bits .and .u8 (rd (pkt a0 a1 a2 a3 l) 5) 16 = 0 := by
          have : rd (pkt a0 a1 a2 a3 l) 5 = 0 := by
            rw [hp, show flagB a3 = [0] by unfold flagB; rw [if_pos c4]]
            simp only [List.cons_append, List.nil_append]
            rw [rd_5]
          rw [this]
          decide +kernel
        refine rread_long _ hL hn (.inr r5) _ ?_
        rw [eP, eF, eC, r4, em, ← c4]
        exact f9
      · have hcl : clE (rd (pkt a0 a1 a2 a3 l) 6) (rd (pkt a0 a1 a2 a3 l) 7) (rd (pkt a0 a1 a2 a3 l) 8) (rd (pkt a0 a1 a2 a3 l) 9) (rd (pkt a0 a1 a2 a3 l) 10) (rd (pkt a0 a1 a2 a3 l) 11) = a3 ∧ rd (pkt a0 a1 a2 a3 l) 5 = 16 := by
          generalize hrep : List.replicate (183 - l.length - (flagB a3).length) (255 : Int) ++ l = rest at hp
          rw [show flagB a3 = pcrB a3 by unfold flagB; rw [if_neg c4]] at hp
          unfold pcrB at hp
          simp only [List.cons_append, List.nil_append] at hp
          have r5 : rd (pkt a0 a1 a2 a3 l) 5 = 16 := by rw [hp]; exact rd_5 _ _ _ _ _ _ _
          have r6 : rd (pkt a0 a1 a2 a3 l) 6 = a3 / 300 / 33554432 % 256 := by rw [hp]; exact rd_6 _ _ _ _ _ _ _ _
          have r7 : rd (pkt a0 a1 a2 a3 l) 7 = a3 / 300 / 131072 % 256 := by rw [hp]; exact rd_7 _ _ _ _ _ _ _ _ _
          have r8 : rd (pkt a0 a1 a2 a3 l) 8 = a3 / 300 / 512 % 256 := by rw [hp]; exact rd_8 _ _ _ _ _ _ _ _ _ _
          have r9 : rd (pkt a0 a1 a2 a3 l) 9 = a3 / 300 / 2 % 256 := by rw [hp]; exact rd_9 _ _ _ _ _ _ _ _ _ _ _
          have r10 : rd (pkt a0 a1 a2 a3 l) 10 = a3 / 300 % 2 * 128 + 126 + a3 % 300 / 256 := by rw [hp]; exact rd_10 _ _ _ _ _ _ _ _ _ _ _ _
          have r11 : rd (pkt a0 a1 a2 a3 l) 11 = a3 % 300 % 256 := by rw [hp]; exact rd_11 _ _ _ _ _ _ _ _ _ _ _ _ _
          rw [r6, r7, r8, r9, r10, r11]
          exact ⟨pcr_eq a3 (g3 c4).1 h6, r5⟩
        refine rread_clock _ hL hn (by rw [r4]; exact (g3 c4).2) (by rw [hcl.2]; decide +kernel) _ ?_
        rw [eP, eF, eC, hcl.1, r4, em]
        exact f9

/-- the product's answer is the reference's -/
theorem takes_same (b : List Int) (hL : (b.length : Int) = 188) (hb : By b) :
    (∃ s : Pk, s.ok b ∧ Ev (fun k => transport_Take.f k b) s.t ∧ Ev (fun k => cutroomref17_Take.f k b) s.t) ∨ (Ev (fun k => transport_Take.f k b) (0, 0, false, 0, [], 3) ∧ Ev (fun k => cutroomref17_Take.f k b) (0, 0, false, 0, [], 3)) := by
  rcases take_any b hL hb with ⟨s, hs, h1⟩ | h1
  · left
    refine ⟨s, hs, h1, ?_⟩
    have hl : By s.l := fun v hv => hb v (by
      rw [← hs.2]
      unfold pkt
      exact List.mem_append_right _ (List.mem_append_right _ hv))
    have := rtake_pkt s.a0 s.a1 s.a2 s.a3 s.l hs.1 hl
    rw [hs.2] at this
    exact this
  · right
    refine ⟨h1, ?_⟩
    rcases rtake_any b hL hb with ⟨t, ht, h2⟩ | h2
    · have := take_pkt t.a0 t.a1 t.a2 t.a3 t.l ht.1
      rw [ht.2] at this
      have e := Ev.uniq h1 this
      simp at e
    · exact h2

end Go.Proofs.Ytdndhbfagoghfaa.P
