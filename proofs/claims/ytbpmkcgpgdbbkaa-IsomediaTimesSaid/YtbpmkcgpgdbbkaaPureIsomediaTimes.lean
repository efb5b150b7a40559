/- When the samples of every track are displayed. No condition of its own. -/
import Derived.Test.YtbpmkcgpgdbbkaaPx6
import Derived.Test.YtbpmkcgpgdbbkaaIsC
namespace Go.Proofs.Ytbpmkcgpgdbbkaa.Pure
open Go.RowKit Go.Proofs.Ytbpmkcgpgdbbkaa.P Go.Proofs.YtbpmkcgpgdbbkaaW.PrintWords Go.Proofs.YtbpmkcgpgdbbkaaW.PrintLast
set_option linter.unusedVariables false
set_option linter.unusedSimpArgs false

theorem given_l0 (a : Int) (ts : List S48) (ht : ts.length < 1466015503701) (h3 : ∀ q ∈ ts, q.f3.length < 2932031007402) (h4 : ∀ q ∈ ts, q.f4.length < 8796093022208) : ∀ (m i : Nat), i + m = ts.length → Ev (fun k => cutroomlaw18_given.l0 k (i : Int) a ts a ((ts.take i).map s43)) (a, ts.map s43) := by
  intro m
  induction m with
  | zero =>
    intro i hi
    rw [List.take_of_length_le (by omega)]
    refine Ev.step (fun k => by rw [cutroomlaw18_given.l0]) ?_
    simp only [if_neg (show ¬ (i : Int) < (ts.length : Int) by omega)]; exact Ev.now _
  | succ m ih =>
    intro i hi
    have hlt : i < ts.length := by omega
    have h := ih (i + 1) (by omega)
    have hl : ((ts.take i).map s43).length < 1466015503701 := by rw [List.length_map, List.length_take]; omega
    refine Ev.step (fun k => by rw [cutroomlaw18_given.l0]) ?_
    simp only [if_pos (show (i : Int) < (ts.length : Int) by omega), if_pos (show (0 : Int) ≤ (i : Int) by omega), rd48 hlt]
    refine Ev.bind (track_ev _ _ _ _ _ (h3 _ (List.getElem_mem hlt)) (h4 _ (List.getElem_mem hlt))) ?_
    simp only [if_pos hl]
    rw [w64 (by omega) (by omega)]
    rw [List.take_succ_eq_append_getElem hlt, List.map_append] at h
    exact h

theorem ed_l (a d : Int) (F : List S43) (ts : List S48) (f0 : ByteArray) (f1 : Int) (f2 : List Int) (X : List S76) (fs : List S74) (es : List S61) (hs : f1 ≠ 0) (he : es.length < 8796093022208) : ∀ (m i : Nat) (st : Int), i + m = es.length →
    ∃ r, Ev (fun k => isomedia_edited.l0 k d st (es.map s77) (es.length : Int) (i : Int) a F f0 f1 f2 X (es.map s77)) r ∧ Ev (fun k => cutroomref18_shown.l0 k d st (i : Int) a ts f0 f1 f2 fs es) r := by
  intro m
  induction m with
  | zero =>
    intro i st hi
    refine ⟨-1, Ev.step (fun k => by rw [isomedia_edited.l0]) ?_, Ev.step (fun k => by rw [cutroomref18_shown.l0]) ?_⟩
    · simp only [if_neg (show ¬ (i : Int) < (es.length : Int) by omega)]; exact Ev.now _
    · simp only [if_neg (show ¬ (i : Int) < (es.length : Int) by omega)]; exact Ev.now _
  | succ m ih =>
    intro i st hi
    have hlt : i < es.length := by omega
    have e1 : Aside0 (wrap64 ((i : Int) + 1) = ((i + 1 : Nat) : Int)) := ⟨by rw [w64 (by omega) (by omega)]; omega⟩
    obtain ⟨r, r1, r2⟩ := ih (i + 1) (wrap64 (st + es[i].f0)) (by omega)
    have key : ∀ x : Bool, ∃ r, Ev (fun k => isomedia_edited.j1 k d st (es.map s77) (es.length : Int) (i : Int) x a F f0 f1 f2 X (es.map s77) es[i].f0 es[i].f1) r ∧ Ev (fun k => cutroomref18_shown.j1 k d st (i : Int) x a ts f0 f1 f2 fs es es[i].f0 es[i].f1) r := fun x => by
      cases x with
      | false =>
        refine ⟨r, Ev.step (fun k => by rw [isomedia_edited.j1]) ?_, Ev.step (fun k => by rw [cutroomref18_shown.j1]) ?_⟩
        · simp only [Bool.false_eq_true, if_false, e1.out]; exact r1
        · simp only [Bool.false_eq_true, if_false, e1.out]; exact r2
      | true =>
        by_cases c : wrap64 (Int.tdiv (wrap64 (wrap64 (d - es[i].f1) * a)) f1) < es[i].f0
        · refine ⟨_, Ev.step (fun k => by rw [isomedia_edited.j1]) ?_, Ev.step (fun k => by rw [cutroomref18_shown.j1]) (r := wrap64 (st + wrap64 (Int.tdiv (wrap64 (wrap64 (d - es[i].f1) * a)) f1))) ?_⟩
          · simp only [if_true, isomedia_scaled.f, if_neg hs, Option.bind_some, if_pos c]; exact Ev.now _
          · simp only [if_true, if_neg hs, if_pos c]; exact Ev.now _
        · refine ⟨r, Ev.step (fun k => by rw [isomedia_edited.j1]) ?_, Ev.step (fun k => by rw [cutroomref18_shown.j1]) ?_⟩
          · simp only [if_true, isomedia_scaled.f, if_neg hs, Option.bind_some, if_neg c, e1.out]; exact r1
          · simp only [if_true, if_neg hs, if_neg c, e1.out]; exact r2
    by_cases c : es[i].f1 ≥ 0
    · obtain ⟨q, q1, q2⟩ := key (decide (es[i].f1 ≤ d))
      refine ⟨q, Ev.step (fun k => by rw [isomedia_edited.l0]) ?_, Ev.step (fun k => by rw [cutroomref18_shown.l0]) ?_⟩
      · simp only [if_pos (show (i : Int) < (es.length : Int) by omega), if_pos (show (0 : Int) ≤ (i : Int) by omega), List.length_map, rd77 hlt, s77, if_pos c]; exact q1
      · simp only [if_pos (show (i : Int) < (es.length : Int) by omega), if_pos (show (0 : Int) ≤ (i : Int) by omega), rd61 hlt, if_pos c]; exact q2
    · obtain ⟨q, q1, q2⟩ := key false
      refine ⟨q, Ev.step (fun k => by rw [isomedia_edited.l0]) ?_, Ev.step (fun k => by rw [cutroomref18_shown.l0]) ?_⟩
      · simp only [if_pos (show (i : Int) < (es.length : Int) by omega), if_pos (show (0 : Int) ≤ (i : Int) by omega), List.length_map, rd77 hlt, s77, if_neg c]; exact q1
      · simp only [if_pos (show (i : Int) < (es.length : Int) by omega), if_pos (show (0 : Int) ≤ (i : Int) by omega), rd61 hlt, if_neg c]; exact q2

theorem pres_l (a : Int) (F : List S43) (ts : List S48) (f0 : ByteArray) (f1 : Int) (f2 : List Int) (fs : List S74) (es : List S61) (hs : f1 ≠ 0) (hf : fs.length < 2932031007402) (he : es.length < 8796093022208) : ∀ (m i : Nat) (acc : List Int) (at_ : Int), i + m = fs.length → acc.length ≤ i →
    ∃ r : List Int × Int, Ev (fun k => isomedia_Presented.l0 k acc at_ (fs.map s76) (fs.length : Int) (i : Int) a F f0 f1 f2 (fs.map s76) (es.map s77)) r ∧ Ev (fun k => cutroomref18_Presented.l0 k acc at_ (i : Int) a ts f0 f1 f2 fs es) r ∧ r.1.length ≤ fs.length := by
  intro m
  induction m with
  | zero =>
    intro i acc at_ hi ha
    refine ⟨(acc, 0), Ev.step (fun k => by rw [isomedia_Presented.l0]) ?_, Ev.step (fun k => by rw [cutroomref18_Presented.l0]) ?_, by show acc.length ≤ _; omega⟩
    · simp only [if_neg (show ¬ (i : Int) < (fs.length : Int) by omega)]; exact Ev.now _
    · simp only [if_neg (show ¬ (i : Int) < (fs.length : Int) by omega)]; exact Ev.now _
  | succ m ih =>
    intro i acc at_ hi ha
    have hlt : i < fs.length := by omega
    have e1 : Aside0 (wrap64 ((i : Int) + 1) = ((i + 1 : Nat) : Int)) := ⟨by rw [w64 (by omega) (by omega)]; omega⟩
    obtain ⟨t, t1, t2⟩ := ed_l a (wrap64 (at_ + fs[i].f2)) F ts f0 f1 f2 (fs.map s76) fs es hs he es.length 0 0 (by omega)
    have t1' : Ev (fun k => isomedia_edited.f k a F f0 f1 f2 (fs.map s76) (es.map s77) (wrap64 (at_ + fs[i].f2))) t := by
      unfold isomedia_edited.f
      simp only [List.length_map]; exact t1
    by_cases c : (es.length : Int) = 0
    · obtain ⟨r, r1, r2, r3⟩ := ih (i + 1) (acc ++ [wrap64 (Int.tdiv (wrap64 (wrap64 (at_ + fs[i].f2) * a)) f1)]) (wrap64 (at_ + fs[i].f1)) (by omega) (by rw [List.length_append]; show acc.length + 1 ≤ i + 1; omega)
      refine ⟨r, Ev.step (fun k => by rw [isomedia_Presented.l0]) ?_, Ev.step (fun k => by rw [cutroomref18_Presented.l0]) ?_, r3⟩
      · simp only [if_pos (show (i : Int) < (fs.length : Int) by omega), if_pos (show (0 : Int) ≤ (i : Int) by omega), List.length_map, rd76 hlt, s76]
        refine Ev.bind t1' ?_
        simp only [if_pos c, isomedia_scaled.f, if_neg hs, Option.bind_some, if_pos (show acc.length < 17592186044416 by omega), e1.out]; exact r1
      · simp only [if_pos (show (i : Int) < (fs.length : Int) by omega), if_pos (show (0 : Int) ≤ (i : Int) by omega), rd74 hlt, cutroomref18_shown.f, if_pos c, if_neg hs, Option.bind_some, if_pos (show acc.length < 17592186044416 by omega), e1.out]; exact r2
    · obtain ⟨r, r1, r2, r3⟩ := ih (i + 1) (acc ++ [t]) (wrap64 (at_ + fs[i].f1)) (by omega) (by rw [List.length_append]; show acc.length + 1 ≤ i + 1; omega)
      refine ⟨r, Ev.step (fun k => by rw [isomedia_Presented.l0]) ?_, Ev.step (fun k => by rw [cutroomref18_Presented.l0]) ?_, r3⟩
      · simp only [if_pos (show (i : Int) < (fs.length : Int) by omega), if_pos (show (0 : Int) ≤ (i : Int) by omega), List.length_map, rd76 hlt, s76]
        refine Ev.bind t1' ?_
        simp only [if_neg c, if_pos (show acc.length < 17592186044416 by omega), e1.out]; exact r1
      · simp only [if_pos (show (i : Int) < (fs.length : Int) by omega), if_pos (show (0 : Int) ≤ (i : Int) by omega), rd74 hlt, cutroomref18_shown.f, if_neg c]
        refine Ev.bind t2 ?_
        simp only [if_pos (show acc.length < 17592186044416 by omega), e1.out]; exact r2

theorem times_l0 (x : List Int) (hx : x.length < 2932031007402) : ∀ (m i : Nat), i + m = x.length → Ev (fun k => cutroomlaw18_IsomediaTimes.l0 k x x (i : Int)) true := by
  intro m
  induction m with
  | zero =>
    intro i hi
    refine Ev.step (fun k => by rw [cutroomlaw18_IsomediaTimes.l0]) ?_
    simp only [if_neg (show ¬ (i : Int) < (x.length : Int) by omega)]
    exact Ev.bind awake_ev (Ev.now _)
  | succ m ih =>
    intro i hi
    refine Ev.step (fun k => by rw [cutroomlaw18_IsomediaTimes.l0]) ?_
    simp only [if_pos (show (i : Int) < (x.length : Int) by omega), if_pos (show (0 : Int) ≤ (i : Int) by omega), if_true]
    rw [w64 (by omega) (by omega)]
    exact ih (i + 1) (by omega)

theorem pres_both (a : Int) (ts : List S48) (i : Int) (ht : ts.length < 1466015503701) (h3 : ∀ q ∈ ts, q.f3.length < 2932031007402) (h4 : ∀ q ∈ ts, q.f4.length < 8796093022208) :
    ∃ r : List Int × Int, Ev (fun k => isomedia_Presented.f k a (ts.map s43) i) r ∧ Ev (fun k => cutroomref18_Presented.f k a ts i) r ∧ r.1.length < 2932031007402 := by
  unfold isomedia_Presented.f cutroomref18_Presented.f
  obtain ⟨b, b1, b2, b3⟩ := val_both a ts (by omega)
  cases b with
  | false =>
    refine ⟨([], 1), Ev.bind b1 ?_, Ev.bind b2 ?_, by show (0 : Nat) < _; omega⟩
    · simp only [Bool.false_eq_true, if_false]; exact Ev.now _
    · simp only [Bool.false_eq_true, if_false]; exact Ev.now _
  | true =>
    have none_ : Ev (fun k => cutroomref18_Presented.j0 k i true a ts) ([], 7) := by
      refine Ev.step (fun k => by rw [cutroomref18_Presented.j0]) ?_
      simp only [if_true]; exact Ev.now _
    by_cases c0 : i < 0
    · refine ⟨([], 7), Ev.bind b1 ?_, Ev.bind b2 ?_, by show (0 : Nat) < _; omega⟩
      · simp only [if_true, if_pos c0]; exact Ev.now _
      · simp only [if_true, if_pos c0]; exact none_
    by_cases c1 : i ≥ (ts.length : Int)
    · refine ⟨([], 7), Ev.bind b1 ?_, Ev.bind b2 ?_, by show (0 : Nat) < _; omega⟩
      · simp only [if_true, if_neg c0, List.length_map, if_pos c1]; exact Ev.now _
      · simp only [if_true, if_neg c0, decide_eq_true c1]; exact none_
    · obtain ⟨n, rfl⟩ : ∃ n : Nat, i = (n : Int) := ⟨i.toNat, by omega⟩
      have hlt : n < ts.length := by omega
      obtain ⟨r, r1, r2, r3⟩ := pres_l a (ts.map s43) ts ts[n].f0 ts[n].f1 ts[n].f2 ts[n].f3 ts[n].f4 (b3 rfl n hlt) (h3 _ (List.getElem_mem hlt)) (h4 _ (List.getElem_mem hlt)) ts[n].f3.length 0 [] 0 (by omega) (Nat.le_refl _)
      refine ⟨r, Ev.bind b1 ?_, Ev.bind b2 ?_, by have := h3 _ (List.getElem_mem hlt); omega⟩
      · simp only [if_true, if_neg c0, List.length_map, if_neg c1, if_pos (show (0 : Int) ≤ (n : Int) by omega), if_pos (show (n : Int) < (ts.length : Int) by omega), rd43 hlt, s43]; exact r1
      · simp only [if_true, if_neg c0, decide_eq_false c1]
        refine Ev.step (fun k => by rw [cutroomref18_Presented.j0]) ?_
        simp only [Bool.false_eq_true, if_false, if_pos (show (0 : Int) ≤ (n : Int) by omega), if_pos (show (n : Int) < (ts.length : Int) by omega), rd48 hlt]; exact r2

theorem IsomediaTimes : cutroomlaw18_IsomediaTimes.Pure := by
  intro a ts i _ hq _
  have ht : ts.length < 1466015503701 := by have := hq.2.1; omega
  have hq3 : ∀ q ∈ ts, q.f3.length < 2932031007402 := fun q h => by have := (hq.2.2 q h).2.2.2.1.2.1; omega
  have hq4 : ∀ q ∈ ts, q.f4.length < 8796093022208 := fun q h => by have := (hq.2.2 q h).2.2.2.2.2.1; omega
  refine Ev.rounds (g := fun k => cutroomlaw18_IsomediaTimes.f k a ts i) ?_
  unfold cutroomlaw18_IsomediaTimes.f
  obtain ⟨b, hb⟩ := light_ev a ts hq3
  refine Ev.bind hb ?_
  cases b with
  | false => simp only [Bool.false_eq_true, if_false]; exact Ev.now _
  | true =>
    simp only [if_true]
    obtain ⟨r, r1, r2, r3⟩ := pres_both a ts i ht hq3 hq4
    have hg : Ev (fun k => cutroomlaw18_given.f k a ts) (a, ts.map s43) := by
      unfold cutroomlaw18_given.f
      exact given_l0 a ts ht hq3 hq4 ts.length 0 (by omega)
    refine Ev.bind hg ?_
    refine Ev.bind r1 ?_
    refine Ev.bind r2 ?_
    simp only [if_true, bne_self_eq_false]
    refine Ev.step (fun k => by rw [cutroomlaw18_IsomediaTimes.j0]) ?_
    simp only [Bool.false_eq_true, if_false]
    exact times_l0 r.1 r3 r.1.length 0 (by omega)

end Go.Proofs.Ytbpmkcgpgdbbkaa.Pure
