/- The sound that a law makes of a tape. No condition of its own. -/
import Derived.Test.YtjcjbbcamkkeiaaLoA
import Derived.Test.YtjcjbbcamkkeiaaPx14
import Derived.Test.YtjcjbbcamkkeiaaPx32
namespace Go.Proofs.Ytjcjbbcamkkeiaa.P
open Go.RowKit Go.Proofs.YtjcjbbcamkkeiaaW.PrintWords Go.Proofs.YtjcjbbcamkkeiaaW.PrintLast Go.Proofs.YtjcjbbcamkkeiaaW.PrintMore
set_option linter.unusedVariables false
set_option linter.unusedSimpArgs false

theorem tmod_bd (a n : Int) (h : 0 < n) : -n < Int.tmod a n ∧ Int.tmod a n < n := by
  rcases Int.le_total 0 a with h0 | h0
  · rw [Int.tmod_eq_emod_of_nonneg h0]
    have h1 := Int.emod_nonneg a (show n ≠ 0 by omega)
    have h2 := Int.emod_lt_of_pos a h
    omega
  · obtain ⟨b, rfl⟩ : ∃ b, a = -b := ⟨-a, by omega⟩
    rw [Int.neg_tmod, Int.tmod_eq_emod_of_nonneg (show 0 ≤ b by omega)]
    have h1 := Int.emod_nonneg b (show n ≠ 0 by omega)
    have h2 := Int.emod_lt_of_pos b h
    omega
theorem next_f (L : List Int) (t : Nat) (n : Int) (ht : t ≤ 1000) (n0 : 1 ≤ n) (n1 : n ≤ 1000) : ∃ v : Int, cutroomfilm_Tape_Next.f L (t : Int) n = some (v, ((t + 1 : Nat) : Int)) ∧ 0 ≤ v ∧ v < n := by
  have key : ∀ a : Int, 0 ≤ Int.tmod (wrap64 (Int.tmod a n + n)) n ∧ Int.tmod (wrap64 (Int.tmod a n + n)) n < n := fun a => by
    have hb := tmod_bd a n (by omega)
    rw [w64 (by omega) (by omega), Int.tmod_eq_emod_of_nonneg (show 0 ≤ Int.tmod a n + n by omega)]
    exact ⟨Int.emod_nonneg _ (by omega), Int.emod_lt_of_pos _ (by omega)⟩
  have e : wrap64 ((t : Int) + 1) = ((t + 1 : Nat) : Int) := by rw [w64 (by omega) (by omega)]; omega
  unfold cutroomfilm_Tape_Next.f
  simp only [if_neg (show ¬ n < 1 by omega), if_neg (show ¬ n = 0 by omega), if_pos (show (0 : Int) ≤ (t : Int) by omega), e]
  by_cases c : (t : Int) < (L.length : Int)
  · simp only [if_pos c]
    exact ⟨_, rfl, key _⟩
  · simp only [if_neg c]
    exact ⟨_, rfl, key _⟩
theorem wi16 {v : Int} (h0 : -32768 ≤ v) (h1 : v ≤ 32767) : IntKind.i16.wrap v = v := by
  simp [IntKind.wrap, IntKind.bits, IntKind.signed]
  omega

/-- rows of given lengths, no value greater than most -/
def Rw (x : List (List Int)) (most : Int) (f : Nat → Nat) : Prop := ∀ (j : Nat) (h : j < x.length), x[j].length = f j ∧ ∀ v ∈ x[j], -most ≤ v ∧ v ≤ most
theorem rw_set {x : List (List Int)} {most : Int} {f : Nat → Nat} (h : Rw x most f) (c : Nat) (l : List Int) (n : Nat) (hn : l.length = n) (hl : ∀ v ∈ l, -most ≤ v ∧ v ≤ most) : Rw (x.set c l) most (fun j => if j = c then n else f j) := by
  intro j hj
  rw [List.length_set] at hj
  by_cases e : j = c
  · subst e
    simp only [if_true, List.getElem_set_self]
    exact ⟨hn, hl⟩
  · simp only [if_neg e, List.getElem_set_ne (show c ≠ j from fun z => e z.symm)]
    exact h j hj
theorem rw_ext {x : List (List Int)} {most : Int} {f g : Nat → Nat} (h : Rw x most f) (e : ∀ j, j < x.length → f j = g j) : Rw x most g := fun j hj => by rw [← e j hj]; exact h j hj

theorem made_l2 (P : List (List Int) → Prop) (most : Int) (parts n high step len : Int) (tape : List Int) (t : Int) (c nn L0 : Nat) (hm0 : 3 ≤ most) (hm1 : most ≤ 32767) (hn : n = (nn : Int)) (hnn : nn ≤ 660) (hh0 : 0 ≤ high) (hh1 : high ≤ most) (hs0 : 1 ≤ step) (hs1 : step ≤ 90) (hc2 : c ≤ 1) (hL0 : L0 ≤ 5000) (f : Nat → Nat) (rows : Nat) :
    ∀ (m i : Nat) (x : List (List Int)), i + m = nn → x.length = rows → c < rows → Rw x most (fun j => if j = c then L0 + i else f j) →
      (∀ x' : List (List Int), x'.length = rows → Rw x' most (fun j => if j = c then L0 + nn else f j) → ∃ r, P r ∧ Ev (fun k => cutroomlaw28_made.l1 k most x' parts n high step len (wrap64 ((c : Int) + 1)) tape t) r) →
      ∃ r, P r ∧ Ev (fun k => cutroomlaw28_made.l2 k most x parts n high step (c : Int) (i : Int) len (c : Int) tape t) r := by
  intro m
  induction m with
  | zero =>
    intro i x hi hx hc hR hr
    obtain rfl : i = nn := by omega
    obtain ⟨r, h1, h2⟩ := hr x hx hR
    refine ⟨r, h1, Ev.step (fun k => by rw [cutroomlaw28_made.l2]) ?_⟩
    simp only [if_neg (show ¬ (i : Int) < n by omega)]
    exact h2
  | succ m ih =>
    intro i x hi hx hc hR hr
    have hcx : c < x.length := by omega
    obtain ⟨g1, g2⟩ := hR c hcx
    simp only [if_true] at g1
    have b1 : 0 ≤ (i : Int) * step := Int.mul_nonneg (by omega) (by omega)
    have b2 : (i : Int) * step ≤ 660 * 90 := mul_lt (by omega) (by omega) (by omega) (by omega)
    obtain ⟨v, hv, hv0, hv1⟩ : ∃ v : Int, IntKind.i16.wrap (wrap64 ((Int.tmod (wrap64 ((wrap64 ((i : Int) * step)) + (wrap64 ((c : Int) * 7)))) (wrap64 ((wrap64 (2 * high)) + 1))) - high)) = v ∧ -most ≤ v ∧ v ≤ most := by
      refine ⟨_, rfl, ?_⟩
      rw [w64 (x := (i : Int) * step) (by omega) (by omega), w64 (x := (c : Int) * 7) (by omega) (by omega), w64 (x := (i : Int) * step + (c : Int) * 7) (by omega) (by omega), w64 (x := 2 * high) (by omega) (by omega), w64 (x := 2 * high + 1) (by omega) (by omega), Int.tmod_eq_emod_of_nonneg (by omega)]
      have e1 := Int.emod_nonneg ((i : Int) * step + (c : Int) * 7) (show 2 * high + 1 ≠ 0 by omega)
      have e2 := Int.emod_lt_of_pos ((i : Int) * step + (c : Int) * 7) (show 0 < 2 * high + 1 by omega)
      rw [w64 (by omega) (by omega), wi16 (by omega) (by omega)]
      omega
    have hR2 : Rw (x.set c (x[c] ++ [v])) most (fun j => if j = c then L0 + (i + 1) else f j) := by
      refine rw_ext (rw_set hR c (x[c] ++ [v]) (L0 + (i + 1)) (by rw [List.length_append, g1]; rfl) (fun u hu => ?_)) (fun j _ => ?_)
      · rcases List.mem_append.1 hu with hu | hu
        · exact g2 u hu
        · rw [List.mem_singleton.1 hu]; exact ⟨hv0, hv1⟩
      · by_cases e : j = c
        · simp only [if_pos e]
        · simp only [if_neg e]
    obtain ⟨r, h1, h2⟩ := ih (i + 1) (x.set c (x[c] ++ [v])) (by omega) (by rw [List.length_set]; exact hx) hc hR2 hr
    refine ⟨r, h1, Ev.step (fun k => by rw [cutroomlaw28_made.l2]) ?_⟩
    have hne : ¬ wrap64 (wrap64 (2 * high) + 1) = 0 := by rw [w64 (x := 2 * high) (by omega) (by omega), w64 (by omega) (by omega)]; omega
    simp only [if_pos (show (i : Int) < n by omega), if_pos (show (0 : Int) ≤ (c : Int) by omega), if_pos (show (c : Int) < (x.length : Int) by omega), if_neg hne, rdL hcx, hv, Int.toNat_natCast, if_pos (show x[c].length < 70368744177664 by omega)]
    rw [w64 (x := (i : Int) + 1) (by omega) (by omega)]
    exact h2

theorem made_l1 (P : List (List Int) → Prop) (most : Int) (parts n high step : Int) (tape : List Int) (t : Int) (nn L0 : Nat) (hm0 : 3 ≤ most) (hm1 : most ≤ 32767) (hn : n = (nn : Int)) (hnn : nn ≤ 660) (hh0 : 0 ≤ high) (hh1 : high ≤ most) (hs0 : 1 ≤ step) (hs1 : step ≤ 90) (hL0 : L0 ≤ 5000) (rows : Nat) (hrows : rows ≤ 2)
    (hr : ∀ x' : List (List Int), x'.length = rows → Rw x' most (fun _ => L0 + nn) → ∃ r, P r ∧ Ev (fun k => cutroomlaw28_made.l0 k most x' (wrap64 (parts - 1)) tape t) r) :
    ∀ (m c : Nat) (x : List (List Int)), c + m = rows → x.length = rows → Rw x most (fun j => if j < c then L0 + nn else L0) →
      ∃ r, P r ∧ Ev (fun k => cutroomlaw28_made.l1 k most x parts n high step (rows : Int) (c : Int) tape t) r := by
  intro m
  induction m with
  | zero =>
    intro c x hc hx hR
    obtain ⟨r, h1, h2⟩ := hr x hx (rw_ext hR (fun j hj => by simp only [if_pos (show j < c by omega)]))
    refine ⟨r, h1, Ev.step (fun k => by rw [cutroomlaw28_made.l1]) ?_⟩
    simp only [if_neg (show ¬ (c : Int) < (rows : Int) by omega)]
    exact h2
  | succ m ih =>
    intro c x hc hx hR
    have key := made_l2 P most parts n high step (rows : Int) tape t c nn L0 hm0 hm1 hn hnn hh0 hh1 hs0 hs1 (by omega) hL0 (fun j => if j < c then L0 + nn else L0) rows nn 0 x (by omega) hx (by omega)
      (rw_ext hR (fun j hj => by
        by_cases e : j = c
        · simp only [if_pos e, if_neg (show ¬ j < c by omega)]; rfl
        · simp only [if_neg e]))
      (fun x' hx' hR' => by
        rw [w64 (by omega) (by omega)]
        refine ih (c + 1) x' (by omega) hx' (rw_ext hR' (fun j hj => ?_))
        by_cases e : j = c
        · simp only [if_pos e, if_pos (show j < c + 1 by omega)]
        · by_cases e2 : j < c
          · simp only [if_neg e, if_pos e2, if_pos (show j < c + 1 by omega)]
          · simp only [if_neg e, if_neg e2, if_neg (show ¬ j < c + 1 by omega)])
    obtain ⟨r, h1, h2⟩ := key
    refine ⟨r, h1, Ev.step (fun k => by rw [cutroomlaw28_made.l1]) ?_⟩
    simp only [if_pos (show (c : Int) < (rows : Int) by omega)]
    exact h2

/-- what made returns -/
def Md (most : Int) (r : List (List Int)) : Prop := (r.length = 1 ∨ r.length = 2) ∧ ∃ L, L ≤ 3960 ∧ Rw r most (fun _ => L)
theorem made_l0 (most : Int) (tape : List Int) (hm0 : 3 ≤ most) (hm1 : most ≤ 32767) (rows : Nat) (hrows : rows = 1 ∨ rows = 2) : ∀ (q : Nat) (x : List (List Int)) (t L0 : Nat), q ≤ 6 → x.length = rows → t + 3 * q ≤ 900 → L0 + 660 * q ≤ 3960 → Rw x most (fun _ => L0) →
    ∃ r, Md most r ∧ Ev (fun k => cutroomlaw28_made.l0 k most x (q : Int) tape (t : Int)) r := by
  intro q
  induction q with
  | zero =>
    intro x t L0 hq hx ht hL hR
    refine ⟨x, ⟨by omega, L0, by omega, hR⟩, Ev.step (fun k => by rw [cutroomlaw28_made.l0]) ?_⟩
    simp only [if_neg (show ¬ ((0 : Nat) : Int) > 0 by decide)]
    exact Ev.now _
  | succ q ih =>
    intro x t L0 hq hx ht hL hR
    obtain ⟨v1, e1, a0, a1⟩ := next_f tape t 12 (by omega) (by decide) (by decide)
    obtain ⟨v2, e2, b0, b1⟩ := next_f tape (t + 1) 5 (by omega) (by decide) (by decide)
    obtain ⟨v3, e3, c0, c1⟩ := next_f tape (t + 1 + 1) 90 (by omega) (by decide) (by decide)
    obtain ⟨nn, hnn⟩ : ∃ nn : Nat, (nn : Int) = 60 * v1 := ⟨(60 * v1).toNat, by omega⟩
    have w1 : wrap64 (60 * v1) = (nn : Int) := by rw [w64 (by omega) (by omega)]; omega
    have w3 : wrap64 (1 + v3) = 1 + v3 := w64 (by omega) (by omega)
    have d1 : Int.tdiv most 40 = most / 40 := Int.tdiv_eq_ediv_of_nonneg (by omega)
    have d2 : Int.tdiv most 3 = most / 3 := Int.tdiv_eq_ediv_of_nonneg (by omega)
    have dw1 : wrap64 (Int.tdiv most 40) = most / 40 := by rw [d1]; exact w64 (by omega) (by omega)
    have dw2 : wrap64 (Int.tdiv most 3) = most / 3 := by rw [d2]; exact w64 (by omega) (by omega)
    obtain ⟨hi, hhi, h0, h1⟩ : ∃ hi : Int, rd [0, 3, most / 40, most / 3, most] v2 = hi ∧ 0 ≤ hi ∧ hi ≤ most := by
      refine ⟨_, rfl, ?_⟩
      rcases (show v2 = 0 ∨ v2 = 1 ∨ v2 = 2 ∨ v2 = 3 ∨ v2 = 4 by omega) with rfl | rfl | rfl | rfl | rfl
      · show 0 ≤ (0 : Int) ∧ (0 : Int) ≤ most; omega
      · show 0 ≤ (3 : Int) ∧ (3 : Int) ≤ most; omega
      · show 0 ≤ most / 40 ∧ most / 40 ≤ most; omega
      · show 0 ≤ most / 3 ∧ most / 3 ≤ most; omega
      · show 0 ≤ most ∧ most ≤ most; omega
    have key := made_l1 (Md most) most ((q + 1 : Nat) : Int) (nn : Int) hi (1 + v3) tape ((t + 1 + 1 + 1 : Nat) : Int) nn L0 hm0 hm1 rfl (by omega) h0 h1 (by omega) (by omega) (by omega) rows (by omega)
      (fun x' hx' hR' => by
        rw [w64 (by omega) (by omega), show ((q + 1 : Nat) : Int) - 1 = (q : Int) by omega]
        exact ih x' (t + 1 + 1 + 1) (L0 + nn) (by omega) hx' (by omega) (by omega) hR') rows 0 x (by omega) hx (rw_ext hR (fun j hj => by simp only [if_neg (Nat.not_lt_zero j)]))
    obtain ⟨r, p1, p2⟩ := key
    refine ⟨r, p1, Ev.step (fun k => by rw [cutroomlaw28_made.l0]) ?_⟩
    simp only [if_pos (show ((q + 1 : Nat) : Int) > 0 by omega), e1, e2, e3, Option.bind_some, dw1, dw2, hhi, w1, w3, List.length_cons, List.length_nil, if_pos b0, if_pos (show v2 < ((0 + 1 + 1 + 1 + 1 + 1 : Nat) : Int) by omega), hx]
    exact p2

theorem made_ev (tape : List Int) (most : Int) (hm0 : 3 ≤ most) (hm1 : most ≤ 32767) : ∃ r, Md most r ∧ Ev (fun k => cutroomlaw28_made.f k tape most) r := by
  obtain ⟨v1, e1, a0, a1⟩ := next_f tape 0 2 (by omega) (by decide) (by decide)
  obtain ⟨v2, e2, b0, b1⟩ := next_f tape (0 + 1) 7 (by omega) (by decide) (by decide)
  have w1 : wrap64 (1 + v1) = 1 + v1 := w64 (by omega) (by omega)
  obtain ⟨q, rfl⟩ := Int.eq_ofNat_of_zero_le b0
  have hq : q ≤ 6 := by omega
  obtain ⟨r, p1, p2⟩ := made_l0 most tape hm0 hm1 (1 + v1).toNat (by omega) q (List.replicate (1 + v1).toNat []) (0 + 1 + 1) 0 hq (by simp) (by omega) (by omega) (by
    intro j hj
    simp)
  refine ⟨r, p1, ?_⟩
  unfold cutroomlaw28_made.f
  rw [show ((0 : Nat) : Int) = 0 from rfl] at e1
  simp only [e1, e2, Option.bind_some, w1, if_pos (show (0 : Int) ≤ 1 + v1 by omega), if_pos (show (1 + v1).toNat ≤ 11728124029610 by omega)]
  exact p2

/-- as the other texts want it -/
theorem md_pr {most : Int} {r : List (List Int)} (h : Md most r) (hm : most ≤ 32767) : ∃ L, L ≤ 3960 ∧ Pr r L := by
  obtain ⟨h1, L, hL, hR⟩ := h
  refine ⟨L, hL, by omega, by omega, ?_, by omega, fun l hl => ?_⟩
  · cases r with
    | nil => simp at h1
    | cons a x => exact (hR 0 (by simp)).1
  · obtain ⟨j, hj, rfl⟩ := List.getElem_of_mem hl
    obtain ⟨g1, g2⟩ := hR j hj
    exact ⟨fun v hv => by have := g2 v hv; omega, g1⟩

theorem wf16 {x : Int} (h : (Lit.int .i16 x).wf = true) : -32768 ≤ x ∧ x ≤ 32767 := by
  simp [Lit.wf, IntKind.min, IntKind.max, IntKind.signed, IntKind.bits] at h
  omega
theorem snd_raw {l : List (List Int)} (h : l.length ≤ maxLen ∧ l.length * 24 ≤ 140737488351232 ∧ ∀ q0 ∈ l, (q0.length ≤ maxLen ∧ q0.length * 2 ≤ 140737488351232 ∧ ∀ q1 ∈ q0, (Lit.int .i16 q1).wf = true)) : Snd l :=
  ⟨by have := h.2.1; omega, fun q hq => ⟨fun v hv => wf16 ((h.2.2 q hq).2.2 v hv), by have := (h.2.2 q hq).2.1; omega⟩⟩
theorem snd_md {most : Int} {r : List (List Int)} (h : Md most r) (hm : most ≤ 32767) : Snd r := by
  obtain ⟨L, _, h2⟩ := md_pr h hm
  exact snd_of h2
end Go.Proofs.Ytjcjbbcamkkeiaa.P
