/- Sound with a gain, the product's and the reference's. No condition of its own. -/
import Derived.Test.YtjcjbbcamkkeiaaLoD
import Derived.Test.YtjcjbbcamkkeiaaRatM
import Derived.Test.YtjcjbbcamkkeiaaPx29
import Derived.Test.YtjcjbbcamkkeiaaPx30
import Derived.Test.YtjcjbbcamkkeiaaPx43
import Derived.Test.YtjcjbbcamkkeiaaPx31
import Derived.Test.YtjcjbbcamkkeiaaLoC
namespace Go.Proofs.Ytjcjbbcamkkeiaa.P
open Go.RowKit Go.Proofs.YtjcjbbcamkkeiaaW.PrintWords Go.Proofs.YtjcjbbcamkkeiaaW.PrintLast Go.Proofs.YtjcjbbcamkkeiaaW.PrintMore
set_option linter.unusedVariables false
set_option linter.unusedSimpArgs false

/-- a sample with a gain -/
def ap (g v : Int) : Int := mx (-32768) (mn ((v * g + 2048) / 4096) 32767)
def mp (g : Int) (l : List Int) : List Int := l.map (ap g)
theorem ap_bd (g v : Int) : -32768 ≤ ap g v ∧ ap g v ≤ 32767 := by unfold ap mx mn; split <;> split <;> omega
theorem vg {g v : Int} (g0 : 0 ≤ g) (g1 : g ≤ 65536) (v0 : -32768 ≤ v) (v1 : v ≤ 32767) : -2147483648 ≤ v * g ∧ v * g ≤ 2147483648 := by
  have h1 := Int.mul_le_mul_of_nonneg_right v0 g0
  have h2 := Int.mul_le_mul_of_nonneg_right v1 g0
  omega
theorem rdL_set {o : List (List Int)} {c : Nat} (h : c < o.length) (l : List Int) : rd_L2 (o.set c l) (c : Int) = l := by
  rw [rdL (by rw [List.length_set]; exact h), List.getElem_set_self]

theorem apply_l1 (g : Int) (g0 : 0 ≤ g) (g1 : g ≤ 65536) (x : List (List Int)) (n : Int) (c : Nat) (ys : List Int) (hy : Row ys) (hl : ys.length ≤ 1048576) (r : List (List Int) × Int) :
    ∀ (m j : Nat) (o : List (List Int)), j + m = ys.length → c < o.length → rd_L2 o (c : Int) = (ys.take j).map (ap g) ++ List.replicate m 0 →
      Ev (fun k => loudness_Apply.l0 k g (o.set c (mp g ys)) x n (wrap64 ((c : Int) + 1))) r → Ev (fun k => loudness_Apply.l1 k g o (c : Int) x n (c : Int) ys (ys.length : Int) (j : Int)) r := by
  intro m
  induction m with
  | zero =>
    intro j o hj hc ho hr
    refine Ev.step (fun k => by rw [loudness_Apply.l1]) ?_
    simp only [if_neg (show ¬ (j : Int) < (ys.length : Int) by omega)]
    rw [List.take_of_length_le (by omega), List.replicate_zero, List.append_nil] at ho
    have e : o.set c (mp g ys) = o := by
      unfold mp
      rw [← ho, rdL hc]
      exact List.set_getElem_self hc
    rw [e] at hr
    exact hr
  | succ m ih =>
    intro j o hj hc ho hr
    have hlt : j < ys.length := by omega
    have hv := hy _ (List.getElem_mem hlt)
    have b := vg g0 g1 hv.1 hv.2
    have lt : ((ys.take j).map (ap g)).length = j := by rw [List.length_map, List.length_take]; omega
    have ab := ap_bd g ys[j]
    have hset : (rd_L2 o (c : Int)).set j (ap g ys[j]) = (ys.take (j + 1)).map (ap g) ++ List.replicate m 0 := by
      rw [ho, List.set_append_right _ _ (by omega), lt, Nat.sub_self, List.replicate_succ, List.set_cons_zero, List.take_succ_eq_append_getElem hlt, List.map_append, List.append_assoc]
      rfl
    have hlen : (rd_L2 o (c : Int)).length = ys.length := by rw [ho, List.length_append, lt, List.length_replicate]; omega
    have h2 := ih (j + 1) (o.set c ((rd_L2 o (c : Int)).set j (ap g ys[j]))) (by omega) (by rw [List.length_set]; exact hc) (by rw [rdL_set hc]; exact hset) (by rw [List.set_set]; exact hr)
    have md := muldiv (ys[j] * g + 2048) 1 4096 (by omega) (by omega) (by decide) (by decide) (by decide) (by decide)
    rw [Int.mul_one, if_pos (show fits ((ys[j] * g + 2048) / 4096) = true by unfold fits; exact decide_eq_true (by omega))] at md
    refine Ev.step (fun k => by rw [loudness_Apply.l1]) ?_
    simp only [if_pos (show (j : Int) < (ys.length : Int) by omega), if_pos (show (0 : Int) ≤ (j : Int) by omega), rdI hlt]
    rw [w64 (x := ys[j]) (by omega) (by omega), w64 (x := ys[j] * g) (by omega) (by omega), w64 (x := ys[j] * g + 2048) (by omega) (by omega)]
    refine Ev.bind md ?_
    simp only [if_pos (show (0 : Int) ≤ (c : Int) by omega), if_pos (show (c : Int) < (o.length : Int) by omega), loudness_limited_int64.f, Option.bind_some, hlen, if_pos (show (j : Int) < (ys.length : Int) by omega), Int.toNat_natCast]
    rw [show mx (-32768) (mn ((ys[j] * g + 2048) / 4096) 32767) = ap g ys[j] from rfl, wi16 ab.1 ab.2, w64 (x := (j : Int) + 1) (by omega) (by omega)]
    exact h2

theorem mid_setL (f : List Int → List Int) (x : List (List Int)) (c m : Nat) (hc : c < x.length) (v : List Int) : ((x.take c).map f ++ List.replicate (m + 1) []).set c v = (x.take c).map f ++ v :: List.replicate m [] := by
  have hl : ((x.take c).map f).length = c := by rw [List.length_map, List.length_take]; omega
  rw [List.set_append_right _ _ (by omega), hl, Nat.sub_self, List.replicate_succ, List.set_cons_zero]
theorem apply_l0 (g : Int) (g0 : 0 ≤ g) (g1 : g ≤ 65536) (x : List (List Int)) (hx : ∀ l ∈ x, Row l ∧ l.length ≤ 1048576) (hxl : x.length ≤ 4) : ∀ (m c : Nat), c + m = x.length →
    Ev (fun k => loudness_Apply.l0 k g ((x.take c).map (mp g) ++ List.replicate m []) x (x.length : Int) (c : Int)) (x.map (mp g), 0) := by
  intro m
  induction m with
  | zero =>
    intro c hc
    refine Ev.step (fun k => by rw [loudness_Apply.l0]) ?_
    simp only [if_neg (show ¬ (c : Int) < (x.length : Int) by omega)]
    rw [List.take_of_length_le (by omega), List.replicate_zero, List.append_nil]
    exact Ev.now _
  | succ m ih =>
    intro c hc
    have hlt : c < x.length := by omega
    obtain ⟨hr, hrl⟩ := hx _ (List.getElem_mem hlt)
    have lt : ((x.take c).map (mp g)).length = c := by rw [List.length_map, List.length_take]; omega
    have ol : ((x.take c).map (mp g) ++ List.replicate (m + 1) ([] : List Int)).length = x.length := by rw [List.length_append, lt, List.length_replicate]; omega
    have h1 := ih (c + 1) (by omega)
    rw [List.take_succ_eq_append_getElem hlt, List.map_append, List.append_assoc] at h1
    refine Ev.step (fun k => by rw [loudness_Apply.l0]) ?_
    simp only [if_pos (show (c : Int) < (x.length : Int) by omega), if_pos (show (0 : Int) ≤ (c : Int) by omega), rdL hlt, if_pos (show (0 : Int) ≤ (x[c].length : Int) by omega), Int.toNat_natCast, if_pos (show x[c].length ≤ 140737488355328 by omega), ol]
    refine apply_l1 g g0 g1 x (x.length : Int) c x[c] hr hrl _ x[c].length 0 _ (by omega) (by rw [List.length_set, ol]; exact hlt) ?_ ?_
    · rw [rdL_set (by rw [ol]; exact hlt)]
      rfl
    · rw [List.set_set, mid_setL (mp g) x c m hlt, w64 (by omega) (by omega)]
      exact h1

/-- Apply's answer -/
def app (x : List (List Int)) (g : Int) : List (List Int) × Int := if prp x = true ∧ 0 ≤ g ∧ g ≤ 65536 then (x.map (mp g), 0) else ([], 1)
theorem apply_ev (x : List (List Int)) (hx : Snd x) (g : Int) : Ev (fun k => loudness_Apply.f k x g) (app x g) := by
  have bad : app x g = ([], 1) → Ev (fun k => loudness_Apply.j0 k x g true) (app x g) := fun e => by
    rw [e]
    refine Ev.step (fun k => by rw [loudness_Apply.j0]) ?_
    simp only [if_true]
    exact Ev.now _
  unfold loudness_Apply.f
  refine Ev.bind (proper_ev x hx) ?_
  by_cases c : prp x = true
  · simp only [if_pos c]
    by_cases c1 : g < 0
    · simp only [if_pos c1]
      exact bad (if_neg (fun h => by omega))
    · simp only [if_neg c1]
      by_cases c2 : g > 65536
      · rw [decide_eq_true c2]
        exact bad (if_neg (fun h => by omega))
      · rw [decide_eq_false c2]
        have hP := pr_of hx c
        have hm := hP.most
        have h4 := hP.len
        rw [show app x g = (x.map (mp g), 0) from if_pos ⟨c, by omega, by omega⟩]
        refine Ev.step (fun k => by rw [loudness_Apply.j0]) ?_
        simp only [Bool.false_eq_true, if_false, if_pos (show (0 : Int) ≤ (x.length : Int) by omega), Int.toNat_natCast, if_pos (show x.length ≤ 11728124029610 by omega)]
        exact apply_l0 g (by omega) (by omega) x (fun l hl => ⟨(hP.rows l hl).1, by rw [(hP.rows l hl).2]; exact hm⟩) h4 x.length 0 (by omega)
  · simp only [if_neg c]
    exact bad (if_neg (fun h => c h.1))

/-! ### the reference's -/
theorem floor_t (t : Int) : (if Int.tmod t 4096 < 0 then Int.tdiv t 4096 - 1 else Int.tdiv t 4096) = t / 4096 := by
  have h1 := tmod_bd t 4096 (by decide)
  have h2 := Int.mul_tdiv_add_tmod t 4096
  split <;> omega
theorem rapply_l1 (g : Int) (g0 : 0 ≤ g) (g1 : g ≤ 65536) (x : List (List Int)) (c : Nat) (hc : c < x.length) (hy : Row x[c]) (hl : x[c].length ≤ 1048576) (r : List (List Int) × Int) :
    ∀ (m j : Nat) (o : List (List Int)), j + m = x[c].length → c < o.length → rd_L2 o (c : Int) = (x[c].take j).map (ap g) →
      Ev (fun k => cutroomref28_Apply.l0 k x g (o.set c (mp g x[c])) (wrap64 ((c : Int) + 1))) r → Ev (fun k => cutroomref28_Apply.l1 k x g o (c : Int) (j : Int)) r := by
  intro m
  induction m with
  | zero =>
    intro j o hj ho he hr
    refine Ev.step (fun k => by rw [cutroomref28_Apply.l1]) ?_
    simp only [if_pos (show (0 : Int) ≤ (c : Int) by omega), if_pos (show (c : Int) < (x.length : Int) by omega), rdL hc, if_neg (show ¬ (j : Int) < (x[c].length : Int) by omega)]
    rw [List.take_of_length_le (by omega)] at he
    have e : o.set c (mp g x[c]) = o := by
      unfold mp
      rw [← he, rdL ho]
      exact List.set_getElem_self ho
    rw [e] at hr
    exact hr
  | succ m ih =>
    intro j o hj ho he hr
    have hlt : j < x[c].length := by omega
    have hv := hy _ (List.getElem_mem hlt)
    have b := vg g0 g1 hv.1 hv.2
    have lt : ((x[c].take j).map (ap g)).length = j := by rw [List.length_map, List.length_take]; omega
    have hlen : (rd_L2 o (c : Int)).length = j := by rw [he, lt]
    have h2 := ih (j + 1) (o.set c (rd_L2 o (c : Int) ++ [ap g x[c][j]])) (by omega) (by rw [List.length_set]; exact ho) (by rw [rdL_set ho, he, List.take_succ_eq_append_getElem hlt, List.map_append]; rfl) (by rw [List.set_set]; exact hr)
    have fl := floor_t (x[c][j] * g + 2048)
    have hmn : ∀ q : Int, mx (-32768) (mn 32767 q) = mx (-32768) (mn q 32767) := fun q => by unfold mx mn; split <;> split <;> split <;> omega
    have tb := tmod_bd (x[c][j] * g + 2048) 4096 (by decide)
    have te := Int.mul_tdiv_add_tmod (x[c][j] * g + 2048) 4096
    refine Ev.step (fun k => by rw [cutroomref28_Apply.l1]) ?_
    simp only [if_pos (show (0 : Int) ≤ (c : Int) by omega), if_pos (show (c : Int) < (x.length : Int) by omega), rdL hc, if_pos (show (j : Int) < (x[c].length : Int) by omega), if_pos (show (0 : Int) ≤ (j : Int) by omega), rdI hlt, if_pos (show (c : Int) < (o.length : Int) by omega), hlen, if_pos (show j < 70368744177664 by omega), Int.toNat_natCast]
    rw [w64 (x := x[c][j]) (by omega) (by omega), w64 (x := x[c][j] * g) (by omega) (by omega), w64 (x := x[c][j] * g + 2048) (by omega) (by omega), w64 (x := (j : Int) + 1) (by omega) (by omega)]
    rw [w64 (x := Int.tdiv (x[c][j] * g + 2048) 4096) (by omega) (by omega), w64 (x := Int.tdiv (x[c][j] * g + 2048) 4096 - 1) (by omega) (by omega), hmn, hmn]
    by_cases c3 : Int.tmod (x[c][j] * g + 2048) 4096 < 0
    · rw [if_pos c3] at fl
      simp only [if_pos c3, fl]
      exact h2
    · rw [if_neg c3] at fl
      simp only [if_neg c3, fl]
      exact h2
theorem rapply_l0 (g : Int) (g0 : 0 ≤ g) (g1 : g ≤ 65536) (x : List (List Int)) (hx : ∀ l ∈ x, Row l ∧ l.length ≤ 1048576) (hxl : x.length ≤ 4) : ∀ (m c : Nat), c + m = x.length →
    Ev (fun k => cutroomref28_Apply.l0 k x g ((x.take c).map (mp g) ++ List.replicate m []) (c : Int)) (x.map (mp g), 0) := by
  intro m
  induction m with
  | zero =>
    intro c hc
    refine Ev.step (fun k => by rw [cutroomref28_Apply.l0]) ?_
    simp only [if_neg (show ¬ (c : Int) < (x.length : Int) by omega)]
    rw [List.take_of_length_le (by omega), List.replicate_zero, List.append_nil]
    exact Ev.now _
  | succ m ih =>
    intro c hc
    have hlt : c < x.length := by omega
    obtain ⟨hr, hrl⟩ := hx _ (List.getElem_mem hlt)
    have lt : ((x.take c).map (mp g)).length = c := by rw [List.length_map, List.length_take]; omega
    have ol : ((x.take c).map (mp g) ++ List.replicate (m + 1) ([] : List Int)).length = x.length := by rw [List.length_append, lt, List.length_replicate]; omega
    have h1 := ih (c + 1) (by omega)
    rw [List.take_succ_eq_append_getElem hlt, List.map_append, List.append_assoc] at h1
    refine Ev.step (fun k => by rw [cutroomref28_Apply.l0]) ?_
    simp only [if_pos (show (c : Int) < (x.length : Int) by omega)]
    refine rapply_l1 g g0 g1 x c hlt hr hrl _ x[c].length 0 _ (by omega) (by rw [ol]; exact hlt) ?_ ?_
    · rw [rdL (by rw [ol]; exact hlt), List.getElem_append_right (by omega)]
      simp
    · rw [mid_setL (mp g) x c m hlt, w64 (by omega) (by omega)]
      exact h1
theorem rapply_ev (x : List (List Int)) (hx : Snd x) (g : Int) : Ev (fun k => cutroomref28_Apply.f k x g) (app x g) := by
  have bad : app x g = ([], 1) → Ev (fun k => cutroomref28_Apply.j0 k x g true) (app x g) := fun e => by
    rw [e]
    refine Ev.step (fun k => by rw [cutroomref28_Apply.j0]) ?_
    simp only [if_true]
    exact Ev.now _
  unfold cutroomref28_Apply.f
  refine Ev.bind (refproper_ev x hx) ?_
  by_cases c : prp x = true
  · simp only [if_pos c]
    by_cases c1 : g < 0
    · simp only [if_pos c1]
      exact bad (if_neg (fun h => by omega))
    · simp only [if_neg c1]
      by_cases c2 : g > 65536
      · rw [decide_eq_true c2]
        exact bad (if_neg (fun h => by omega))
      · rw [decide_eq_false c2]
        have hP := pr_of hx c
        have hm := hP.most
        have h4 := hP.len
        rw [show app x g = (x.map (mp g), 0) from if_pos ⟨c, by omega, by omega⟩]
        refine Ev.step (fun k => by rw [cutroomref28_Apply.j0]) ?_
        simp only [Bool.false_eq_true, if_false, if_pos (show (0 : Int) ≤ (x.length : Int) by omega), Int.toNat_natCast, if_pos (show x.length ≤ 11728124029610 by omega)]
        exact rapply_l0 g (by omega) (by omega) x (fun l hl => ⟨(hP.rows l hl).1, by rw [(hP.rows l hl).2]; exact hm⟩) h4 x.length 0 (by omega)
  · simp only [if_neg c]
    exact bad (if_neg (fun h => c h.1))

/-! ### Same -/
theorem same_l1 (y : List (List Int)) (c : Nat) (hc : c < y.length) (hl : y[c].length ≤ 1048576) (r : Bool) (hr : Ev (fun k => cutroomref27_Same.l0 k y y (wrap64 ((c : Int) + 1))) r) : ∀ (m j : Nat), j + m = y[c].length → Ev (fun k => cutroomref27_Same.l1 k y y (c : Int) (j : Int)) r := by
  intro m
  induction m with
  | zero =>
    intro j hj
    refine Ev.step (fun k => by rw [cutroomref27_Same.l1]) ?_
    simp only [if_pos (show (0 : Int) ≤ (c : Int) by omega), if_pos (show (c : Int) < (y.length : Int) by omega), rdL hc, if_neg (show ¬ (j : Int) < (y[c].length : Int) by omega)]
    exact hr
  | succ m ih =>
    intro j hj
    refine Ev.step (fun k => by rw [cutroomref27_Same.l1]) ?_
    simp only [if_pos (show (0 : Int) ≤ (c : Int) by omega), if_pos (show (c : Int) < (y.length : Int) by omega), rdL hc, if_pos (show (j : Int) < (y[c].length : Int) by omega), if_pos (show (0 : Int) ≤ (j : Int) by omega), if_true]
    rw [w64 (by omega) (by omega)]
    exact ih (j + 1) (by omega)
theorem same_ev (y : List (List Int)) (hy : ∀ l ∈ y, l.length ≤ 1048576) (hl : y.length ≤ 100) : Ev (fun k => cutroomref27_Same.f k y y) true := by
  have key : ∀ (m c : Nat), c + m = y.length → Ev (fun k => cutroomref27_Same.l0 k y y (c : Int)) true := by
    intro m
    induction m with
    | zero =>
      intro c hc
      refine Ev.step (fun k => by rw [cutroomref27_Same.l0]) ?_
      simp only [if_neg (show ¬ (c : Int) < (y.length : Int) by omega)]
      exact Ev.now _
    | succ m ih =>
      intro c hc
      have hlt : c < y.length := by omega
      refine Ev.step (fun k => by rw [cutroomref27_Same.l0]) ?_
      simp only [if_pos (show (c : Int) < (y.length : Int) by omega), if_pos (show (0 : Int) ≤ (c : Int) by omega), if_true]
      refine same_l1 y c hlt (hy _ (List.getElem_mem hlt)) true ?_ y[c].length 0 (by omega)
      rw [w64 (by omega) (by omega)]
      exact ih (c + 1) (by omega)
  unfold cutroomref27_Same.f
  simp only [if_true]
  exact key y.length 0 (by omega)

end Go.Proofs.Ytjcjbbcamkkeiaa.P
