/- What the reference's Put comes to: the same bytes. No condition of its own. -/
import Derived.Test.YtdndhbfagoghfaaTrQ0
namespace Go.Proofs.Ytdndhbfagoghfaa.P
open Go.RowKit Go.Proofs.YtdndhbfagoghfaaW.PrintWords Go.Proofs.YtdndhbfagoghfaaW.PrintLast Go.Proofs.YtdndhbfagoghfaaW.PrintMore
set_option linter.unusedVariables false
set_option linter.unusedSimpArgs false

theorem ref_adaptation_ev (p : Int) (h : -1 ≤ p) (h1 : p < 2576980377600) : Ev (fun k => cutroomref17_adaptation.f k p) (flagB p) := by
  unfold cutroomref17_adaptation.f flagB
  by_cases c : p < 0
  · simp only [if_pos c, if_pos (show p = -1 by omega)]; exact Ev.now _
  · simp only [if_neg c, if_neg (show ¬ p = -1 by omega)]
    rw [Int.tdiv_eq_ediv_of_nonneg (a := p) (by omega), Int.tmod_eq_emod_of_nonneg (a := p) (by omega), w64 (x := p / 300) (by omega) (by omega), wu (x := p / 300) (by omega) (by omega), and32 (by omega) (by omega)]
    obtain ⟨B, hB⟩ : ∃ B, B = p / 300 := ⟨_, rfl⟩
    obtain ⟨e, he⟩ : ∃ e, e = p % 300 := ⟨_, rfl⟩
    rw [← hB, ← he]
    have b0 : 0 ≤ B := by omega
    have b1 : B < 8589934592 := by omega
    rw [show B / 4294967296 % 4294967296 = B / 4294967296 by omega, show B % 4294967296 % 4294967296 = B % 4294967296 by omega, show e % 4294967296 = e by omega]
    have v1 : Ev (fun k => cutroomref02_Bits.f k (B / 4294967296) 1) (bitl (B / 4294967296) 1) := bits_ev _ 1 (by omega) (by omega) (by decide)
    have v2 : Ev (fun k => cutroomref02_Bits.f k (B % 4294967296) 32) (bitl (B % 4294967296) 32) := bits_ev _ 32 (by omega) (by omega) (by decide)
    have v3 : Ev (fun k => cutroomref02_Bits.f k 63 6) (bitl 63 6) := bits_ev _ 6 (by omega) (by omega) (by decide)
    have v4 : Ev (fun k => cutroomref02_Bits.f k e 9) (bitl e 9) := bits_ev _ 9 (by omega) (by omega) (by decide)
    have v5 := pay_ev (pb B e) (getD_bits (pb_mem B e)) (pb_len B e)
    rw [pb0 B e b0 b1, pb1 B e b0 b1, pb2 B e b0 b1, pb3 B e b0 b1, pb4 B e b0 b1 (by omega) (by omega), pb5 B e b0 b1 (by omega) (by omega)] at v5
    unfold pb at v5
    have l1 := bitl_len (B / 4294967296) 1
    have l2 := bitl_len (B % 4294967296) 32
    have l3 := bitl_len 63 6
    have l4 := bitl_len e 9
    generalize bitl (B / 4294967296) 1 = A1 at v1 v5 l1
    generalize bitl (B % 4294967296) 32 = A2 at v2 v5 l2
    generalize bitl 63 6 = A3 at v3 v5 l3
    generalize bitl e 9 = A4 at v4 v5 l4
    have k1 : A1.length + A2.length < 140737488355328 := by omega
    have k2 : (A1 ++ A2).length + A3.length < 140737488355328 := by rw [List.length_append]; omega
    have k3 : (A1 ++ A2 ++ A3).length + A4.length < 140737488355328 := by rw [List.length_append, List.length_append]; omega
    refine Ev.bind v1 ?_
    refine Ev.bind v2 ?_
    refine Ev.congr (fun n => if_pos k1) ?_
    refine Ev.bind (Ev.now (A1 ++ A2)) ?_
    refine Ev.bind v3 ?_
    refine Ev.congr (fun n => if_pos k2) ?_
    refine Ev.bind (Ev.now (A1 ++ A2 ++ A3)) ?_
    refine Ev.bind v4 ?_
    refine Ev.congr (fun n => if_pos k3) ?_
    refine Ev.bind (Ev.now [16]) ?_
    refine Ev.bind v5 ?_
    refine Ev.congr (fun n => if_pos (show (6 : Int) ≤ ((7 : Nat) : Int) by decide)) ?_
    refine Ev.bind (Ev.now [B / 33554432 % 256, B / 131072 % 256, B / 512 % 256, B / 2 % 256, B % 2 * 128 + 126 + e / 256, e % 256]) ?_
    refine Ev.congr (fun n => if_pos (show 1 + 6 < 140737488355328 by decide)) ?_
    unfold pcrB
    rw [← hB, ← he]
    exact Ev.now _

theorem fill (a0 a1 : Int) (a2 : Bool) (a3 : Int) (l : List Int) (hn : l.length ≤ 184) : ∀ (m : Nat) (x4 : List Int), x4.length + m = 188 - l.length →
    Ev (fun k => cutroomref17_Put.l0 k x4 (l.length : Int) a0 a1 a2 a3 l) (x4 ++ (List.replicate m 255 ++ l), 0) := by
  intro m
  induction m with
  | zero =>
    intro x4 hx
    refine Ev.step (fun k => by rw [cutroomref17_Put.l0]) ?_
    rw [w64 (by omega) (by omega)]
    simp only [if_neg (show ¬ (x4.length : Int) < 188 - (l.length : Int) by omega), if_pos (show x4.length + l.length < 140737488355328 by omega), List.replicate_zero, List.nil_append]
    exact Ev.now _
  | succ m ih =>
    intro x4 hx
    refine Ev.step (fun k => by rw [cutroomref17_Put.l0]) ?_
    rw [w64 (by omega) (by omega)]
    simp only [if_pos (show (x4.length : Int) < 188 - (l.length : Int) by omega), if_pos (show x4.length < 140737488355328 by omega)]
    have := ih (x4 ++ [255]) (by simp; omega)
    rw [List.append_assoc] at this
    exact this

theorem ref_j1 (h4 : List Int) (hh : h4.length = 4) (a0 a1 : Int) (a2 : Bool) (a3 : Int) (l : List Int) (h : VB a0 a1 a2 a3 l.length) :
    Ev (fun k => cutroomref17_Put.j1 k h4 (l.length : Int) a0 a1 a2 a3 l) (h4 ++ ((if l.length = 184 then [] else adB a3 l.length) ++ l), 0) := by
  obtain ⟨h1, h2, h3, h4', h5, h6, h7, h8, h9⟩ := id h
  refine Ev.step (fun k => by rw [cutroomref17_Put.j1]) ?_
  by_cases c : l.length = 184
  · simp only [if_neg (show ¬ (l.length : Int) < 184 by omega), if_pos c, List.nil_append]
    refine Ev.step (fun k => by rw [cutroomref17_Put.j2]) ?_
    simp only [if_neg (show ¬ (l.length : Int) < 183 by omega), if_pos (show h4.length + l.length < 140737488355328 by omega)]
    exact Ev.now _
  · simp only [if_pos (show (l.length : Int) < 184 by omega), if_neg c, if_pos (show h4.length < 140737488355328 by omega)]
    rw [w64 (by omega) (by omega), show (183 - (l.length : Int)) % 256 = 183 - (l.length : Int) by omega]
    refine Ev.step (fun k => by rw [cutroomref17_Put.j2]) ?_
    have hl5 : (h4 ++ [183 - (l.length : Int)]).length = 5 := by simp [hh]
    unfold adB
    by_cases c2 : l.length = 183
    · simp only [if_neg (show ¬ (l.length : Int) < 183 by omega), if_pos c2, hl5, if_pos (show 5 + l.length < 140737488355328 by omega)]
      rw [show (183 - (l.length : Int)) = 0 by omega, List.append_assoc]
      exact Ev.now _
    · simp only [if_pos (show (l.length : Int) < 183 by omega), if_neg c2, hl5]
      refine Ev.bind (ref_adaptation_ev a3 h5 h6) ?_
      have f1 := flag_len a3
      have f2 := flag_len' a3
      simp only [if_pos (show 5 + (flagB a3).length < 140737488355328 by omega)]
      have := fill a0 a1 a2 a3 l h7 (183 - l.length - (flagB a3).length) ((h4 ++ [183 - (l.length : Int)]) ++ flagB a3) (by rw [List.length_append, hl5]; omega)
      simp only [List.append_assoc] at this ⊢
      exact this

theorem ref_put_j0 (b1 a0 a1 : Int) (a2 : Bool) (a3 : Int) (l : List Int) (h : VB a0 a1 a2 a3 l.length) (hb : b1 = (if a2 = true then 64 else 0) + a0 / 256) :
    Ev (fun k => cutroomref17_Put.j0 k [71, b1, a0 % 256, a1 % 256] a0 a1 a2 a3 l) (pkt a0 a1 a2 a3 l, 0) := by
  obtain ⟨h1, h2, h3, h4', h5, h6, h7, h8, h9⟩ := id h
  refine Ev.step (fun k => by rw [cutroomref17_Put.j0]) ?_
  have s3 : ∀ v, ([71, b1, a0 % 256, a1 % 256] : List Int).set (3 : Int).toNat v = [71, b1, a0 % 256, v] := fun v => rfl
  have r3 : rd [71, b1, a0 % 256, a1 % 256] 3 = a1 % 256 := rfl
  have l3 : (3 : Int) < (([71, b1, a0 % 256, a1 % 256] : List Int).length : Int) := by simp
  simp only [s3, r3, if_pos l3]
  unfold pkt hdr
  rw [← hb]
  by_cases c : l.length = 184
  · simp only [if_pos (show (l.length : Int) = 184 by omega)]
    rw [show (a1 % 256 + 16) % 256 = 16 * ctl l.length + a1 by unfold ctl; rw [if_pos c]; omega]
    exact ref_j1 [71, b1, a0 % 256, 16 * ctl l.length + a1] rfl a0 a1 a2 a3 l h
  · simp only [if_neg (show ¬ (l.length : Int) = 184 by omega)]
    by_cases c2 : l.length = 0
    · simp only [if_pos (show (l.length : Int) = 0 by omega)]
      rw [show (a1 % 256 + 32) % 256 = 16 * ctl l.length + a1 by unfold ctl; rw [if_neg c, if_pos c2]; omega]
      exact ref_j1 [71, b1, a0 % 256, 16 * ctl l.length + a1] rfl a0 a1 a2 a3 l h
    · simp only [if_neg (show ¬ (l.length : Int) = 0 by omega)]
      rw [show (a1 % 256 + 48) % 256 = 16 * ctl l.length + a1 by unfold ctl; rw [if_neg c, if_neg c2]; omega]
      exact ref_j1 [71, b1, a0 % 256, 16 * ctl l.length + a1] rfl a0 a1 a2 a3 l h

theorem ref_put_ev (a0 a1 : Int) (a2 : Bool) (a3 : Int) (l : List Int) : Ev (fun k => cutroomref17_Put.f k a0 a1 a2 a3 l) (if VB a0 a1 a2 a3 l.length then (pkt a0 a1 a2 a3 l, 0) else ([], 1)) := by
  unfold cutroomref17_Put.f
  rw [ref_valid_f]
  simp only [Option.bind_some]
  by_cases h : VB a0 a1 a2 a3 l.length
  · obtain ⟨h1, h2, h3, h4', h5, h6, h7, h8, h9⟩ := id h
    simp only [decide_eq_true h, if_pos h, if_true]
    rw [show a0 / 256 % 256 = a0 / 256 by omega]
    by_cases c : a2 = true
    · simp only [if_pos c]
      have s1 : ∀ v, ([71, a0 / 256, a0 % 256, a1 % 256] : List Int).set (1 : Int).toNat v = [71, v, a0 % 256, a1 % 256] := fun v => rfl
      have r1 : rd [71, a0 / 256, a0 % 256, a1 % 256] 1 = a0 / 256 := rfl
      have l1 : (1 : Int) < (([71, a0 / 256, a0 % 256, a1 % 256] : List Int).length : Int) := by simp
      simp only [s1, r1, if_pos l1]
      rw [show (a0 / 256 + 64) % 256 = 64 + a0 / 256 by omega]
      exact ref_put_j0 _ a0 a1 a2 a3 l h (by rw [if_pos c])
    · simp only [if_neg c]
      exact ref_put_j0 _ a0 a1 a2 a3 l h (by rw [if_neg c]; omega)
  · simp only [decide_eq_false h, if_neg h, Bool.false_eq_true, if_false]
    exact Ev.now _

end Go.Proofs.Ytdndhbfagoghfaa.P
