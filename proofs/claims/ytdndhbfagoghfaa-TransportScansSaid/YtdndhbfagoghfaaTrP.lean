/- What the two Puts come to: the same bytes. No condition of its own. -/
import Derived.Test.YtdndhbfagoghfaaTrV
import Derived.Test.YtdndhbfagoghfaaPx12
import Derived.Test.YtdndhbfagoghfaaPx42
import Derived.Test.YtdndhbfagoghfaaPx36
import Derived.Test.YtdndhbfagoghfaaPx35
import Derived.Test.YtdndhbfagoghfaaPx49
namespace Go.Proofs.Ytdndhbfagoghfaa.P
open Go.RowKit Go.Proofs.YtdndhbfagoghfaaW.PrintWords Go.Proofs.YtdndhbfagoghfaaW.PrintLast Go.Proofs.YtdndhbfagoghfaaW.PrintMore
set_option linter.unusedVariables false
set_option linter.unusedSimpArgs false

/-- A packet that may be written: of the payload only its length counts. -/
def VB (a0 a1 : Int) (a2 : Bool) (a3 : Int) (n : Nat) : Prop :=
  0 ≤ a0 ∧ a0 ≤ 8191 ∧ 0 ≤ a1 ∧ a1 < 16 ∧ -1 ≤ a3 ∧ a3 < 2576980377600 ∧ n ≤ 184 ∧ (a3 = -1 ∨ n ≤ 176) ∧ (a2 = false ∨ n ≠ 0)
instance (a0 a1 : Int) (a2 : Bool) (a3 : Int) (n : Nat) : Decidable (VB a0 a1 a2 a3 n) := by unfold VB; infer_instance

theorem room_f (a3 : Int) : transport_room.f a3 = some (if a3 = -1 then 184 else 176) := by
  unfold transport_room.f; split <;> rfl

theorem valid_f (a0 a1 : Int) (a2 : Bool) (a3 : Int) (l : List Int) : transport_valid.f a0 a1 a2 a3 l = some (decide (VB a0 a1 a2 a3 l.length)) := by
  unfold transport_valid.f
  by_cases hv : VB a0 a1 a2 a3 l.length
  · obtain ⟨h1, h2, h3, h4, h5, h6, h7, h8, h9⟩ := id hv
    rw [decide_eq_true hv, if_neg (by omega), if_neg (by omega), if_neg (by omega), if_neg (by omega), if_neg (by omega), if_neg (by omega), room_f, Option.bind_some, if_pos (by split <;> omega)]
    rcases h9 with rfl | h9
    · simp
    · have hb : ((l.length : Int) == 0) = false := beq_eq_false_iff_ne.2 (by omega)
      rw [hb]; cases a2 <;> rfl
  · rw [decide_eq_false hv]
    by_cases c1 : a0 < 0
    · rw [if_pos c1]
    · rw [if_neg c1]
      by_cases c2 : a0 > 8191
      · rw [if_pos c2]
      · rw [if_neg c2]
        by_cases c3 : a1 < 0
        · rw [if_pos c3]
        · rw [if_neg c3]
          by_cases c4 : a1 ≥ 16
          · rw [if_pos c4]
          · rw [if_neg c4]
            by_cases c5 : a3 < -1
            · rw [if_pos c5]
            · rw [if_neg c5]
              by_cases c6 : a3 ≥ 2576980377600
              · rw [if_pos c6]
              · rw [if_neg c6, room_f, Option.bind_some]
                by_cases c7 : (l.length : Int) ≤ (if a3 = -1 then 184 else 176)
                · rw [if_pos c7]
                  by_cases c8 : a2 = true
                  · rw [if_pos c8]
                    by_cases c9 : l.length = 0
                    · simp [c9]
                    · exact absurd ⟨by omega, by omega, by omega, by omega, by omega, by omega, by split at c7 <;> omega, by split at c7 <;> omega, Or.inr c9⟩ hv
                  · exact absurd ⟨by omega, by omega, by omega, by omega, by omega, by omega, by split at c7 <;> omega, by split at c7 <;> omega, Or.inl (by simpa using c8)⟩ hv
                · rw [if_neg c7]

theorem ref_valid_f (a0 a1 : Int) (a2 : Bool) (a3 : Int) (l : List Int) : cutroomref17_Valid.f a0 a1 a2 a3 l = some (decide (VB a0 a1 a2 a3 l.length)) := by
  unfold cutroomref17_Valid.f
  by_cases hv : VB a0 a1 a2 a3 l.length
  · obtain ⟨h1, h2, h3, h4, h5, h6, h7, h8, h9⟩ := id hv
    rw [decide_eq_true hv, if_neg (by omega), if_neg (by omega), if_neg (by omega), if_neg (by omega), if_neg (by omega), if_neg (by omega), if_neg (by omega)]
    by_cases c : (l.length : Int) > 0
    · simp only [if_pos c]
      by_cases c2 : (l.length : Int) > 176
      · rw [if_pos c2, if_neg (by omega)]
      · rw [if_neg c2]
    · have : a2 = false := by
        rcases h9 with h | h
        · exact h
        · omega
      rw [if_neg (by omega), if_neg c, this]; rfl
  · rw [decide_eq_false hv]
    by_cases c1 : a0 < 0
    · rw [if_pos c1]
    · rw [if_neg c1]
      by_cases c2 : a0 > 8191
      · rw [if_pos c2]
      · rw [if_neg c2]
        by_cases c3 : a1 < 0
        · rw [if_pos c3]
        · rw [if_neg c3]
          by_cases c4 : a1 > 15
          · rw [if_pos c4]
          · rw [if_neg c4]
            by_cases c5 : a3 < -1
            · rw [if_pos c5]
            · rw [if_neg c5]
              by_cases c6 : a3 ≥ 2576980377600
              · rw [if_pos c6]
              · rw [if_neg c6]
                by_cases c7 : (l.length : Int) > 184
                · rw [if_pos c7]
                · rw [if_neg c7]
                  by_cases c8 : (l.length : Int) > 176
                  · rw [if_pos c8]
                    by_cases c9 : a3 ≥ 0
                    · rw [if_pos c9]
                    · exact absurd ⟨by omega, by omega, by omega, by omega, by omega, by omega, by omega, by omega, Or.inr (by omega)⟩ hv
                  · rw [if_neg c8]
                    by_cases c9 : (l.length : Int) > 0
                    · exact absurd ⟨by omega, by omega, by omega, by omega, by omega, by omega, by omega, by omega, Or.inr (by omega)⟩ hv
                    · rw [if_neg c9]
                      cases a2
                      · exact absurd ⟨by omega, by omega, by omega, by omega, by omega, by omega, by omega, by omega, Or.inl rfl⟩ hv
                      · rfl

/-! ### The bytes -/
def ctl (n : Nat) : Int := if n = 184 then 1 else if n = 0 then 2 else 3
def hdr (a0 a1 : Int) (a2 : Bool) (n : Nat) : List Int := [71, (if a2 = true then 64 else 0) + a0 / 256, a0 % 256, 16 * ctl n + a1]
def pcrB (p : Int) : List Int := [16, p / 300 / 33554432 % 256, p / 300 / 131072 % 256, p / 300 / 512 % 256, p / 300 / 2 % 256, p / 300 % 2 * 128 + 126 + p % 300 / 256, p % 300 % 256]
def flagB (p : Int) : List Int := if p = -1 then [0] else pcrB p
def adB (p : Int) (n : Nat) : List Int := if n = 183 then [0] else [183 - (n : Int)] ++ flagB p ++ List.replicate (183 - n - (flagB p).length) 255
def pkt (a0 a1 : Int) (a2 : Bool) (a3 : Int) (l : List Int) : List Int := hdr a0 a1 a2 l.length ++ ((if l.length = 184 then [] else adB a3 l.length) ++ l)

theorem or8 : ∀ (b e : Fin 2), Go.bits .or .u8 (Go.bits .or .u8 ((b.val : Int) * 128) 126) (e.val : Int) = (b.val : Int) * 128 + 126 + (e.val : Int) := by decide +kernel
theorem or8' (b e : Int) (b0 : 0 ≤ b) (b1 : b ≤ 1) (e0 : 0 ≤ e) (e1 : e ≤ 1) : Go.bits .or .u8 (Go.bits .or .u8 (b * 128) 126) e = b * 128 + 126 + e := by
  have := or8 ⟨b.toNat, by omega⟩ ⟨e.toNat, by omega⟩
  simpa [Int.toNat_of_nonneg b0, Int.toNat_of_nonneg e0] using this

theorem repeat_f (m : Int) (h0 : 0 ≤ m) (h1 : m ≤ 8192) : bytes_Repeat.f [255] m = some (List.replicate m.toNat 255) := by
  unfold bytes_Repeat.f
  rw [if_pos (by rfl), if_pos h0, if_pos h1]; rfl

theorem adaptation_f (a0 a1 : Int) (a2 : Bool) (a3 : Int) (l : List Int) (h : VB a0 a1 a2 a3 l.length) (hn : l.length ≠ 184) : transport_adaptation.f a0 a1 a2 a3 l = some (adB a3 l.length) := by
  obtain ⟨h1, h2, h3, h4, h5, h6, h7, h8, h9⟩ := h
  unfold transport_adaptation.f adB
  rw [w64 (x := 183 - (l.length : Int)) (by omega) (by omega), show (183 - (l.length : Int)) % 256 = 183 - (l.length : Int) by omega]
  simp only [Option.bind_some]
  by_cases c1 : l.length = 183
  · rw [if_pos (by omega), if_pos c1, c1]; rfl
  · rw [if_neg (by omega), if_neg c1]
    by_cases c2 : a3 = -1
    · rw [if_pos c2]
      simp only [List.length_cons, List.length_nil, List.length_append]
      rw [if_pos (by decide)]
      rw [w64 (x := 183 - (l.length : Int) + 1) (by omega) (by omega)]
      simp only [Nat.zero_add, Nat.reduceAdd, Int.cast_ofNat_Int]
      rw [w64 (by omega) (by omega), repeat_f _ (by omega) (by omega)]
      simp only [Option.bind_some, List.length_replicate]
      rw [if_pos (by omega), flagB, if_pos c2]
      simp only [List.length_cons, List.length_nil]
      rw [show (183 - (l.length : Int) + 1 - 2).toNat = 183 - l.length - (0 + 1) by omega]
    · rw [if_neg c2]
      rw [Int.tdiv_eq_ediv_of_nonneg (a := a3) (by omega), Int.tmod_eq_emod_of_nonneg (a := a3) (by omega), w64 (x := a3 / 300) (by omega) (by omega), w64 (x := a3 / 300 * 128) (by omega) (by omega)]
      rw [show a3 / 300 * 128 % 256 = a3 / 300 % 2 * 128 by omega, show a3 % 300 / 256 % 256 = a3 % 300 / 256 by omega, or8' _ _ (by omega) (by omega) (by omega) (by omega)]
      simp only [Option.bind_some, List.length_cons, List.length_nil, List.length_append]
      rw [if_pos (by decide)]
      rw [w64 (x := 183 - (l.length : Int) + 1) (by omega) (by omega)]
      simp only [Nat.zero_add, Nat.reduceAdd, Int.cast_ofNat_Int]
      rw [w64 (by omega) (by omega), repeat_f _ (by omega) (by omega)]
      simp only [Option.bind_some, List.length_replicate]
      rw [if_pos (by omega), flagB, if_neg c2, pcrB]
      simp only [List.length_cons, List.length_nil]
      rw [show (183 - (l.length : Int) + 1 - 8).toNat = 183 - l.length - (0 + 1 + 1 + 1 + 1 + 1 + 1 + 1) by omega]

theorem control_f (a0 a1 : Int) (a2 : Bool) (a3 : Int) (l : List Int) : transport_control.f a0 a1 a2 a3 l = some (ctl l.length) := by
  unfold transport_control.f ctl
  by_cases c1 : l.length = 184
  · rw [if_pos (by omega), if_pos c1]
  · rw [if_neg (by omega), if_neg c1]
    by_cases c2 : l.length = 0
    · rw [if_pos (by omega), if_pos c2]
    · rw [if_neg (by omega), if_neg c2]

theorem hdr_eq (x4 a0 a1 : Int) (a2 : Bool) (n : Nat) (h1 : 0 ≤ a0) (h2 : a0 ≤ 8191) (h3 : 0 ≤ a1) (h4 : a1 < 16) (hx : x4 = if a2 = true then 64 else 0) :
    [71, (wrap64 (x4 + (wrap64 (Int.tdiv a0 256)))) % 256, (Int.tmod a0 256) % 256, (wrap64 ((wrap64 (16 * ctl n)) + a1)) % 256] = hdr a0 a1 a2 n := by
  have hc : 1 ≤ ctl n ∧ ctl n ≤ 3 := by unfold ctl; split <;> (try split) <;> omega
  have hx' : 0 ≤ x4 ∧ x4 ≤ 64 := by rw [hx]; split <;> omega
  rw [Int.tdiv_eq_ediv_of_nonneg h1, Int.tmod_eq_emod_of_nonneg h1, w64 (x := a0 / 256) (by omega) (by omega), w64 (x := x4 + a0 / 256) (by omega) (by omega), w64 (x := 16 * ctl n) (by omega) (by omega), w64 (x := 16 * ctl n + a1) (by omega) (by omega)]
  unfold hdr
  rw [← hx, show (x4 + a0 / 256) % 256 = x4 + a0 / 256 by omega, show a0 % 256 % 256 = a0 % 256 by omega, show (16 * ctl n + a1) % 256 = 16 * ctl n + a1 by omega]

theorem flag_len (p : Int) : (flagB p).length = 1 ∨ (flagB p).length = 7 := by
  unfold flagB pcrB; split <;> simp
theorem flag_len' (p : Int) (h : p = -1) : (flagB p).length = 1 := by
  unfold flagB; rw [if_pos h]; rfl
theorem adB_len (p : Int) (n : Nat) (h : p = -1 ∨ n ≤ 176) (hn : n < 184) : (adB p n).length = 184 - n := by
  unfold adB
  split
  · simp; omega
  · simp only [List.length_append, List.length_cons, List.length_nil, List.length_replicate]
    have := flag_len p
    have := flag_len' p
    omega
theorem pkt_len (a0 a1 : Int) (a2 : Bool) (a3 : Int) (l : List Int) (h : VB a0 a1 a2 a3 l.length) : (pkt a0 a1 a2 a3 l).length = 188 := by
  obtain ⟨h1, h2, h3, h4, h5, h6, h7, h8, h9⟩ := h
  unfold pkt
  rw [List.length_append, List.length_append]
  by_cases c : l.length = 184
  · rw [if_pos c]; simp [hdr, c]
  · rw [if_neg c, adB_len a3 l.length h8 (by omega)]; simp [hdr]; omega

theorem put_j0 (x4 a0 a1 : Int) (a2 : Bool) (a3 : Int) (l : List Int) (h : VB a0 a1 a2 a3 l.length) (hx : x4 = if a2 = true then 64 else 0) : Ev (fun k => transport_Put.j0 k x4 a0 a1 a2 a3 l) (pkt a0 a1 a2 a3 l, 0) := by
  obtain ⟨h1, h2, h3, h4, h5, h6, h7, h8, h9⟩ := id h
  refine Ev.step (fun k => by rw [transport_Put.j0]) ?_
  simp only [control_f, Option.bind_some]
  rw [hdr_eq x4 a0 a1 a2 l.length h1 h2 h3 h4 hx]
  have hl : (hdr a0 a1 a2 l.length).length = 4 := rfl
  unfold pkt
  by_cases c : l.length = 184
  · rw [if_pos (show ctl l.length = 1 by unfold ctl; rw [if_pos c]), if_pos (by omega), if_pos c, List.nil_append]
    exact Ev.now _
  · rw [if_neg (show ¬ ctl l.length = 1 by unfold ctl; rw [if_neg c]; split <;> decide), if_neg c, adaptation_f a0 a1 a2 a3 l h c]
    have ha := adB_len a3 l.length h8 (by omega)
    simp only [Option.bind_some]
    rw [if_pos (by omega), if_pos (by rw [List.length_append]; omega), List.append_assoc]
    exact Ev.now _

theorem put_ev (a0 a1 : Int) (a2 : Bool) (a3 : Int) (l : List Int) : Ev (fun k => transport_Put.f k a0 a1 a2 a3 l) (if VB a0 a1 a2 a3 l.length then (pkt a0 a1 a2 a3 l, 0) else ([], 1)) := by
  unfold transport_Put.f
  rw [valid_f]
  simp only [Option.bind_some]
  by_cases h : VB a0 a1 a2 a3 l.length
  · simp only [decide_eq_true h, if_pos h, if_true]
    by_cases c : a2 = true
    · simp only [if_pos c]; exact put_j0 64 a0 a1 a2 a3 l h (by rw [if_pos c])
    · simp only [if_neg c]; exact put_j0 0 a0 a1 a2 a3 l h (by rw [if_neg c])
  · simp only [decide_eq_false h, if_neg h, Bool.false_eq_true, if_false]
    exact Ev.now _

end Go.Proofs.Ytdndhbfagoghfaa.P
