/- Which tracks are valid, and which sample a time leads to. No condition of its own. -/
import Derived.Test.YtbpmkcgpgdbbkaaIsA
import Derived.Test.YtbpmkcgpgdbbkaaPx31
import Derived.Test.YtbpmkcgpgdbbkaaPx32
import Derived.Test.YtbpmkcgpgdbbkaaPx15
import Derived.Test.YtbpmkcgpgdbbkaaPx17
import Derived.Test.YtbpmkcgpgdbbkaaPx16
import Derived.Test.YtbpmkcgpgdbbkaaPx14
namespace Go.Proofs.Ytbpmkcgpgdbbkaa.P
open Go.RowKit Go.Proofs.YtbpmkcgpgdbbkaaW.PrintWords Go.Proofs.YtbpmkcgpgdbbkaaW.PrintLast Go.Proofs.YtbpmkcgpgdbbkaaW.PrintMore
set_option linter.unusedVariables false
set_option linter.unusedSimpArgs false
def s76 (s : S74) : S76 := ⟨s.f0, s.f1, s.f2, s.f3⟩
def s77 (s : S61) : S77 := ⟨s.f0, s.f1⟩
theorem rd74 {x : List S74} {i : Nat} (h : i < x.length) : rd_T74 x (i : Int) = x[i] := by simp [rd_T74, List.getD, h]
theorem rd61 {x : List S61} {i : Nat} (h : i < x.length) : rd_T61 x (i : Int) = x[i] := by simp [rd_T61, List.getD, h]
theorem rd48 {x : List S48} {i : Nat} (h : i < x.length) : rd_T48 x (i : Int) = x[i] := by simp [rd_T48, List.getD, h]
theorem rd76 {x : List S74} {i : Nat} (h : i < x.length) : rd_T76 (x.map s76) (i : Int) = s76 x[i] := by simp [rd_T76, List.getD, h]
theorem rd77 {x : List S61} {i : Nat} (h : i < x.length) : rd_T77 (x.map s77) (i : Int) = s77 x[i] := by simp [rd_T77, List.getD, h]
def rng (v lo hi : Int) : Bool := decide (v ≥ lo) && decide (v ≤ hi)
theorem unit_f (a b : Int) : isomedia_unit.f a b = some (rng a b 16777216) := by
  unfold isomedia_unit.f rng
  by_cases c : a ≥ b
  · rw [if_pos c, decide_eq_true c, Bool.true_and]
  · rw [if_neg c, decide_eq_false c, Bool.false_and]
theorem between_f (a b : Int) : isomedia_between.f a b = some (rng a b 2147483647) := by
  unfold isomedia_between.f rng
  by_cases c : a ≥ b
  · rw [if_pos c, decide_eq_true c, Bool.true_and]
  · rw [if_neg c, decide_eq_false c, Bool.false_and]
theorem within_f (a b d : Int) : cutroomref18_within.f a b d = some (rng a b d) := by
  unfold cutroomref18_within.f rng
  by_cases c : a ≥ b
  · rw [if_pos c, decide_eq_true c, Bool.true_and]
  · rw [if_neg c, decide_eq_false c, Bool.false_and]
def okS (s : S74) : Bool := decide (s.f0.length ≤ 1048576) && (rng s.f1 0 16777216 && rng s.f2 0 16777216)
def okE (e : S61) : Bool := rng e.f0 0 2147483647 && rng e.f1 (-1) 2147483647

theorem vt_l1 (es : List S61) (he : es.length ≤ 100000) : ∀ (m i : Nat), i + m = es.length → Ev (fun k => isomedia_validTrack.l1 k (es.map s77) (es.length : Int) (i : Int)) ((es.drop i).all okE) := by
  intro m
  induction m with
  | zero =>
    intro i hi
    rw [List.drop_of_length_le (by omega)]
    refine Ev.step (fun k => by rw [isomedia_validTrack.l1]) ?_
    simp only [if_neg (show ¬ (i : Int) < (es.length : Int) by omega)]
    exact Ev.now _
  | succ m ih =>
    intro i hi
    have hlt : i < es.length := by omega
    have h := ih (i + 1) (by omega)
    rw [List.drop_eq_getElem_cons hlt, List.all_cons]
    refine Ev.step (fun k => by rw [isomedia_validTrack.l1]) ?_
    simp only [if_pos (show (i : Int) < (es.length : Int) by omega), if_pos (show (0 : Int) ≤ (i : Int) by omega), List.length_map, rd77 hlt, between_f, Option.bind_some, s77]
    rw [w64 (by omega) (by omega)]
    unfold okE
    cases rng es[i].f0 0 2147483647 with
    | false => simp only [Bool.false_eq_true, if_false, Bool.false_and]; exact Ev.now _
    | true =>
      cases rng es[i].f1 (-1) 2147483647 with
      | false => simp only [Bool.false_eq_true, if_false, if_true, Bool.and_false, Bool.false_and]; exact Ev.now _
      | true => simp only [if_true, Bool.and_self, Bool.true_and]; exact h
theorem rvt_l1 (f0 : ByteArray) (f1 : Int) (f2 : List Int) (f3 : List S74) (es : List S61) (he : es.length ≤ 100000) : ∀ (m i : Nat), i + m = es.length → Ev (fun k => cutroomref18_validTrack.l1 k (i : Int) f0 f1 f2 f3 es) ((es.drop i).all okE) := by
  intro m
  induction m with
  | zero =>
    intro i hi
    rw [List.drop_of_length_le (by omega)]
    refine Ev.step (fun k => by rw [cutroomref18_validTrack.l1]) ?_
    simp only [if_neg (show ¬ (i : Int) < (es.length : Int) by omega)]
    exact Ev.now _
  | succ m ih =>
    intro i hi
    have hlt : i < es.length := by omega
    have h := ih (i + 1) (by omega)
    rw [List.drop_eq_getElem_cons hlt, List.all_cons]
    refine Ev.step (fun k => by rw [cutroomref18_validTrack.l1]) ?_
    simp only [if_pos (show (i : Int) < (es.length : Int) by omega), if_pos (show (0 : Int) ≤ (i : Int) by omega), rd61 hlt, within_f, Option.bind_some]
    rw [w64 (by omega) (by omega)]
    unfold okE
    cases rng es[i].f0 0 2147483647 with
    | false => simp only [Bool.false_eq_true, if_false, Bool.false_and]; exact Ev.now _
    | true =>
      cases rng es[i].f1 (-1) 2147483647 with
      | false => simp only [Bool.false_eq_true, if_false, if_true, Bool.and_false, Bool.false_and]; exact Ev.now _
      | true => simp only [if_true, Bool.and_self, Bool.true_and]; exact h

theorem vt_l0 (f0 : ByteArray) (f1 : Int) (f2 : List Int) (fs : List S74) (es : List S61) (hf : fs.length ≤ 100000) (he : es.length ≤ 100000) : ∀ (m i : Nat), i + m = fs.length → Ev (fun k => isomedia_validTrack.l0 k (fs.map s76) (fs.length : Int) (i : Int) f0 f1 f2 (fs.map s76) (es.map s77)) ((fs.drop i).all okS && es.all okE) := by
  intro m
  induction m with
  | zero =>
    intro i hi
    rw [List.drop_of_length_le (by omega)]
    refine Ev.step (fun k => by rw [isomedia_validTrack.l0]) ?_
    simp only [if_neg (show ¬ (i : Int) < (fs.length : Int) by omega), List.length_map, List.all_nil, Bool.true_and]
    exact vt_l1 es he es.length 0 (by omega)
  | succ m ih =>
    intro i hi
    have hlt : i < fs.length := by omega
    have h := ih (i + 1) (by omega)
    rw [List.drop_eq_getElem_cons hlt, List.all_cons]
    refine Ev.step (fun k => by rw [isomedia_validTrack.l0]) ?_
    simp only [if_pos (show (i : Int) < (fs.length : Int) by omega), if_pos (show (0 : Int) ≤ (i : Int) by omega), List.length_map, rd76 hlt, unit_f, Option.bind_some, s76]
    rw [w64 (by omega) (by omega)]
    unfold okS
    by_cases c : fs[i].f0.length ≤ 1048576
    · simp only [if_neg (show ¬ (fs[i].f0.length : Int) > 1048576 by omega), decide_eq_true c, Bool.true_and]
      cases rng fs[i].f1 0 16777216 with
      | false => simp only [Bool.false_eq_true, if_false, Bool.false_and]; exact Ev.now _
      | true =>
        cases rng fs[i].f2 0 16777216 with
        | false => simp only [Bool.false_eq_true, if_false, if_true, Bool.and_false, Bool.false_and]; exact Ev.now _
        | true => simp only [if_true, Bool.and_self, Bool.true_and]; exact h
    · simp only [if_pos (show (fs[i].f0.length : Int) > 1048576 by omega), decide_eq_false c, Bool.false_and]
      exact Ev.now _
theorem rvt_l0 (f0 : ByteArray) (f1 : Int) (f2 : List Int) (fs : List S74) (es : List S61) (hf : fs.length ≤ 100000) (he : es.length ≤ 100000) : ∀ (m i : Nat), i + m = fs.length → Ev (fun k => cutroomref18_validTrack.l0 k (i : Int) f0 f1 f2 fs es) ((fs.drop i).all okS && es.all okE) := by
  intro m
  induction m with
  | zero =>
    intro i hi
    rw [List.drop_of_length_le (by omega)]
    refine Ev.step (fun k => by rw [cutroomref18_validTrack.l0]) ?_
    simp only [if_neg (show ¬ (i : Int) < (fs.length : Int) by omega), List.all_nil, Bool.true_and]
    exact rvt_l1 f0 f1 f2 fs es he es.length 0 (by omega)
  | succ m ih =>
    intro i hi
    have hlt : i < fs.length := by omega
    have h := ih (i + 1) (by omega)
    rw [List.drop_eq_getElem_cons hlt, List.all_cons]
    refine Ev.step (fun k => by rw [cutroomref18_validTrack.l0]) ?_
    simp only [if_pos (show (i : Int) < (fs.length : Int) by omega), if_pos (show (0 : Int) ≤ (i : Int) by omega), rd74 hlt, within_f, Option.bind_some]
    rw [w64 (by omega) (by omega)]
    unfold okS
    by_cases c : fs[i].f0.length ≤ 1048576
    · simp only [if_neg (show ¬ (fs[i].f0.length : Int) > 1048576 by omega), decide_eq_true c, Bool.true_and]
      cases rng fs[i].f1 0 16777216 with
      | false => simp only [Bool.false_eq_true, if_false, Bool.false_and]; exact Ev.now _
      | true =>
        cases rng fs[i].f2 0 16777216 with
        | false => simp only [Bool.false_eq_true, if_false, if_true, Bool.and_false, Bool.false_and]; exact Ev.now _
        | true => simp only [if_true, Bool.and_self, Bool.true_and]; exact h
    · simp only [if_pos (show (fs[i].f0.length : Int) > 1048576 by omega), decide_eq_false c, Bool.false_and]
      exact Ev.now _

/-- validTrack of both: the same answer -/
theorem vt_both (f0 : ByteArray) (f1 : Int) (f2 : List Int) (fs : List S74) (es : List S61) : ∃ b, Ev (fun k => isomedia_validTrack.f k f0 f1 f2 (fs.map s76) (es.map s77)) b ∧ Ev (fun k => cutroomref18_validTrack.f k f0 f1 f2 fs es) b := by
  unfold isomedia_validTrack.f cutroomref18_validTrack.f
  simp only [unit_f, within_f, Option.bind_some, List.length_map]
  have bad : ∃ b, Ev (fun k => isomedia_validTrack.j0 k true f0 f1 f2 (fs.map s76) (es.map s77)) b ∧ Ev (fun k => cutroomref18_validTrack.j0 k true f0 f1 f2 fs es) b := by
    refine ⟨false, Ev.step (fun k => by rw [isomedia_validTrack.j0]) ?_, Ev.step (fun k => by rw [cutroomref18_validTrack.j0]) ?_⟩
    · simp only [if_true]; exact Ev.now _
    · simp only [if_true]; exact Ev.now _
  by_cases c0 : (f0.size : Int) = 4
  · simp only [if_pos c0]
    cases rng f1 1 16777216 with
    | false => simp only [Bool.false_eq_true, if_false]; exact bad
    | true =>
      simp only [if_true]
      by_cases c1 : (f2.length : Int) > 4096
      · simp only [if_pos c1]; exact bad
      by_cases c2 : (fs.length : Int) > 4096
      · simp only [if_neg c1, if_pos c2]; exact bad
      by_cases c3 : (es.length : Int) > 64
      · simp only [if_neg c1, if_neg c2, decide_eq_true c3]; exact bad
      · simp only [if_neg c1, if_neg c2, decide_eq_false c3]
        have h1 := vt_l0 f0 f1 f2 fs es (by omega) (by omega) fs.length 0 (by omega)
        have h2 := rvt_l0 f0 f1 f2 fs es (by omega) (by omega) fs.length 0 (by omega)
        refine ⟨(fs.drop 0).all okS && es.all okE, Ev.step (fun k => by rw [isomedia_validTrack.j0]) ?_, Ev.step (fun k => by rw [cutroomref18_validTrack.j0]) ?_⟩
        · simp only [Bool.false_eq_true, if_false, List.length_map]; exact h1
        · simp only [Bool.false_eq_true, if_false]; exact h2
  · simp only [if_neg c0]; exact bad

theorem track_l1 (f0 : ByteArray) (f1 : Int) (f2 : List Int) (fs : List S74) (es : List S61) (X : List S76) (he : es.length < 8796093022208) : ∀ (m i : Nat), i + m = es.length →
    Ev (fun k => cutroomlaw18_track.l1 k (i : Int) f0 f1 f2 fs es f0 f1 f2 X ((es.take i).map s77)) (f0, f1, f2, X, es.map s77) := by
  intro m
  induction m with
  | zero =>
    intro i hi
    rw [List.take_of_length_le (by omega)]
    refine Ev.step (fun k => by rw [cutroomlaw18_track.l1]) ?_
    simp only [if_neg (show ¬ (i : Int) < (es.length : Int) by omega)]
    exact Ev.now _
  | succ m ih =>
    intro i hi
    have hlt : i < es.length := by omega
    have h := ih (i + 1) (by omega)
    have hl : ((es.take i).map s77).length < 8796093022208 := by rw [List.length_map, List.length_take]; omega
    refine Ev.step (fun k => by rw [cutroomlaw18_track.l1]) ?_
    simp only [if_pos (show (i : Int) < (es.length : Int) by omega), if_pos (show (0 : Int) ≤ (i : Int) by omega), if_pos hl, rd61 hlt]
    rw [w64 (by omega) (by omega)]
    rw [List.take_succ_eq_append_getElem hlt, List.map_append] at h
    exact h
theorem track_l0 (f0 : ByteArray) (f1 : Int) (f2 : List Int) (fs : List S74) (es : List S61) (hf : fs.length < 2932031007402) (he : es.length < 8796093022208) : ∀ (m i : Nat), i + m = fs.length →
    Ev (fun k => cutroomlaw18_track.l0 k (i : Int) f0 f1 f2 fs es f0 f1 f2 ((fs.take i).map s76)) (f0, f1, f2, fs.map s76, es.map s77) := by
  intro m
  induction m with
  | zero =>
    intro i hi
    rw [List.take_of_length_le (by omega)]
    refine Ev.step (fun k => by rw [cutroomlaw18_track.l0]) ?_
    simp only [if_neg (show ¬ (i : Int) < (fs.length : Int) by omega)]
    exact track_l1 f0 f1 f2 fs es (fs.map s76) he es.length 0 (by omega)
  | succ m ih =>
    intro i hi
    have hlt : i < fs.length := by omega
    have h := ih (i + 1) (by omega)
    have hl : ((fs.take i).map s76).length < 2932031007402 := by rw [List.length_map, List.length_take]; omega
    refine Ev.step (fun k => by rw [cutroomlaw18_track.l0]) ?_
    simp only [if_pos (show (i : Int) < (fs.length : Int) by omega), if_pos (show (0 : Int) ≤ (i : Int) by omega), if_pos hl, rd74 hlt]
    rw [w64 (by omega) (by omega)]
    rw [List.take_succ_eq_append_getElem hlt, List.map_append] at h
    exact h
theorem track_ev (f0 : ByteArray) (f1 : Int) (f2 : List Int) (fs : List S74) (es : List S61) (hf : fs.length < 2932031007402) (he : es.length < 8796093022208) : Ev (fun k => cutroomlaw18_track.f k f0 f1 f2 fs es) (f0, f1, f2, fs.map s76, es.map s77) := by
  unfold cutroomlaw18_track.f
  exact track_l0 f0 f1 f2 fs es hf he fs.length 0 (by omega)

theorem locate_l (f0 : ByteArray) (f1 : Int) (f2 : List Int) (fs : List S74) (es : List S61) (time : Int) (hf : fs.length < 2932031007402) (hv : Ev (fun k => cutroomref18_validTrack.f k f0 f1 f2 fs es) true) : ∀ (m i : Nat) (last at_ : Int), i + m = fs.length →
    ∃ r, Ev (fun k => isomedia_Locate.l0 k time last at_ (fs.map s76) (fs.length : Int) (i : Int)) r ∧ Ev (fun k => cutroomref18_Locate.l0 k time at_ last (i : Int) f0 f1 f2 fs es) r := by
  intro m
  induction m with
  | zero =>
    intro i last at_ hi
    refine ⟨last, Ev.step (fun k => by rw [isomedia_Locate.l0]) ?_, Ev.step (fun k => by rw [cutroomref18_Locate.l0]) ?_⟩
    · simp only [if_neg (show ¬ (i : Int) < (fs.length : Int) by omega)]; exact Ev.now _
    · simp only [if_neg (show ¬ (i : Int) < (fs.length : Int) by omega)]
      refine Ev.step (fun k => by rw [cutroomref18_Locate.j1]) ?_
      simp only [Bool.false_eq_true, if_false]; exact Ev.now _
  | succ m ih =>
    intro i last at_ hi
    have hlt : i < fs.length := by omega
    have e1 : Aside0 (wrap64 ((i : Int) + 1) = ((i + 1 : Nat) : Int)) := ⟨by rw [w64 (by omega) (by omega)]; omega⟩
    by_cases c : fs[i].f3 = true
    · by_cases c2 : at_ ≤ time
      · obtain ⟨r, r1, r2⟩ := ih (i + 1) (i : Int) (wrap64 (at_ + fs[i].f1)) (by omega)
        refine ⟨r, Ev.step (fun k => by rw [isomedia_Locate.l0]) ?_, Ev.step (fun k => by rw [cutroomref18_Locate.l0]) ?_⟩
        · simp only [if_pos (show (i : Int) < (fs.length : Int) by omega), if_pos (show (0 : Int) ≤ (i : Int) by omega), List.length_map, rd76 hlt, s76, if_pos c, if_pos c2, e1.out]; exact r1
        · simp only [if_pos (show (i : Int) < (fs.length : Int) by omega)]
          refine Ev.bind hv ?_
          refine Ev.step (fun k => by rw [cutroomref18_Locate.j1]) ?_
          simp only [if_true, if_pos (show (i : Int) < (fs.length : Int) by omega), if_pos (show (0 : Int) ≤ (i : Int) by omega), rd74 hlt, if_pos c, if_pos c2, e1.out]; exact r2
      · obtain ⟨r, r1, r2⟩ := ih (i + 1) last (wrap64 (at_ + fs[i].f1)) (by omega)
        refine ⟨r, Ev.step (fun k => by rw [isomedia_Locate.l0]) ?_, Ev.step (fun k => by rw [cutroomref18_Locate.l0]) ?_⟩
        · simp only [if_pos (show (i : Int) < (fs.length : Int) by omega), if_pos (show (0 : Int) ≤ (i : Int) by omega), List.length_map, rd76 hlt, s76, if_pos c, if_neg c2, e1.out]; exact r1
        · simp only [if_pos (show (i : Int) < (fs.length : Int) by omega)]
          refine Ev.bind hv ?_
          refine Ev.step (fun k => by rw [cutroomref18_Locate.j1]) ?_
          simp only [if_true, if_pos (show (i : Int) < (fs.length : Int) by omega), if_pos (show (0 : Int) ≤ (i : Int) by omega), rd74 hlt, if_pos c, if_neg c2, e1.out]; exact r2
    · obtain ⟨r, r1, r2⟩ := ih (i + 1) last (wrap64 (at_ + fs[i].f1)) (by omega)
      refine ⟨r, Ev.step (fun k => by rw [isomedia_Locate.l0]) ?_, Ev.step (fun k => by rw [cutroomref18_Locate.l0]) ?_⟩
      · simp only [if_pos (show (i : Int) < (fs.length : Int) by omega), if_pos (show (0 : Int) ≤ (i : Int) by omega), List.length_map, rd76 hlt, s76, if_neg c, e1.out]; exact r1
      · simp only [if_pos (show (i : Int) < (fs.length : Int) by omega)]
        refine Ev.bind hv ?_
        refine Ev.step (fun k => by rw [cutroomref18_Locate.j1]) ?_
        simp only [if_true, if_pos (show (i : Int) < (fs.length : Int) by omega), if_pos (show (0 : Int) ≤ (i : Int) by omega), rd74 hlt, if_neg c, e1.out]; exact r2
theorem locate_both (f0 : ByteArray) (f1 : Int) (f2 : List Int) (fs : List S74) (es : List S61) (time : Int) (hf : fs.length < 2932031007402) :
    ∃ r, Ev (fun k => isomedia_Locate.f k f0 f1 f2 (fs.map s76) (es.map s77) time) r ∧ Ev (fun k => cutroomref18_Locate.f k f0 f1 f2 fs es time) r := by
  unfold isomedia_Locate.f cutroomref18_Locate.f
  obtain ⟨b, b1, b2⟩ := vt_both f0 f1 f2 fs es
  cases b with
  | true =>
    obtain ⟨r, r1, r2⟩ := locate_l f0 f1 f2 fs es time hf b2 fs.length 0 (-1) 0 (by omega)
    refine ⟨r, Ev.bind b1 ?_, r2⟩
    simp only [if_true, List.length_map]; exact r1
  | false =>
    refine ⟨-1, Ev.bind b1 ?_, Ev.step (fun k => by rw [cutroomref18_Locate.l0]) ?_⟩
    · simp only [Bool.false_eq_true, if_false]; exact Ev.now _
    · have fin : Ev (fun k => cutroomref18_Locate.j1 k time 0 (-1) 0 false f0 f1 f2 fs es) (-1) := by
        refine Ev.step (fun k => by rw [cutroomref18_Locate.j1]) ?_
        simp only [Bool.false_eq_true, if_false]; exact Ev.now _
      by_cases c : (0 : Int) < (fs.length : Int)
      · simp only [if_pos c]; exact Ev.bind b2 fin
      · simp only [if_neg c]; exact fin

theorem light_l1 (a : Int) (ts : List S48) (i : Nat) (f0 : ByteArray) (f1 : Int) (f2 : List Int) (fs : List S74) (es : List S61) (hf : fs.length < 2932031007402) (hk : ∃ b, Ev (fun k => cutroomlaw18_light.l0 k (wrap64 ((i : Int) + 1)) a ts) b) : ∀ (m j : Nat), j + m = fs.length →
    ∃ b, Ev (fun k => cutroomlaw18_light.l1 k (i : Int) (j : Int) a ts f0 f1 f2 fs es) b := by
  intro m
  induction m with
  | zero =>
    intro j hj
    obtain ⟨b, h⟩ := hk
    refine ⟨b, Ev.step (fun k => by rw [cutroomlaw18_light.l1]) ?_⟩
    simp only [if_neg (show ¬ (j : Int) < (fs.length : Int) by omega)]; exact h
  | succ m ih =>
    intro j hj
    by_cases c : ((rd_T74 fs (j : Int)).f0.length : Int) > 500
    · refine ⟨false, Ev.step (fun k => by rw [cutroomlaw18_light.l1]) ?_⟩
      simp only [if_pos (show (j : Int) < (fs.length : Int) by omega), if_pos (show (0 : Int) ≤ (j : Int) by omega), if_pos c]; exact Ev.now _
    · obtain ⟨b, h⟩ := ih (j + 1) (by omega)
      refine ⟨b, Ev.step (fun k => by rw [cutroomlaw18_light.l1]) ?_⟩
      simp only [if_pos (show (j : Int) < (fs.length : Int) by omega), if_pos (show (0 : Int) ≤ (j : Int) by omega), if_neg c]
      rw [w64 (by omega) (by omega)]; exact h
theorem light_l0 (a : Int) (ts : List S48) (ht : ts.length ≤ 6) (hq : ∀ q ∈ ts, q.f3.length < 2932031007402) : ∀ (m i : Nat), i + m = ts.length → ∃ b, Ev (fun k => cutroomlaw18_light.l0 k (i : Int) a ts) b := by
  intro m
  induction m with
  | zero =>
    intro i hi
    refine ⟨true, Ev.step (fun k => by rw [cutroomlaw18_light.l0]) ?_⟩
    simp only [if_neg (show ¬ (i : Int) < (ts.length : Int) by omega)]; exact Ev.now _
  | succ m ih =>
    intro i hi
    have hlt : i < ts.length := by omega
    have hj : ∀ x : Bool, ∃ b, Ev (fun k => cutroomlaw18_light.j1 k (i : Int) x a ts ts[i].f0 ts[i].f1 ts[i].f2 ts[i].f3 ts[i].f4) b := fun x => by
      cases x with
      | true =>
        refine ⟨false, Ev.step (fun k => by rw [cutroomlaw18_light.j1]) ?_⟩
        simp only [if_true]; exact Ev.now _
      | false =>
        obtain ⟨b, h⟩ := light_l1 a ts i ts[i].f0 ts[i].f1 ts[i].f2 ts[i].f3 ts[i].f4 (hq _ (List.getElem_mem hlt)) (by rw [w64 (by omega) (by omega)]; exact ih (i + 1) (by omega)) ts[i].f3.length 0 (by omega)
        refine ⟨b, Ev.step (fun k => by rw [cutroomlaw18_light.j1]) ?_⟩
        simp only [Bool.false_eq_true, if_false]; exact h
    have fin : ∃ b, Ev (fun k => if ((ts[i].f0.size : Nat) : Int) > 20 then cutroomlaw18_light.j1 k (i : Int) true a ts ts[i].f0 ts[i].f1 ts[i].f2 ts[i].f3 ts[i].f4 else if (ts[i].f2.length : Int) > 5000 then cutroomlaw18_light.j1 k (i : Int) true a ts ts[i].f0 ts[i].f1 ts[i].f2 ts[i].f3 ts[i].f4 else if (ts[i].f3.length : Int) > 40 then cutroomlaw18_light.j1 k (i : Int) true a ts ts[i].f0 ts[i].f1 ts[i].f2 ts[i].f3 ts[i].f4 else cutroomlaw18_light.j1 k (i : Int) (decide ((ts[i].f4.length : Int) > 70)) a ts ts[i].f0 ts[i].f1 ts[i].f2 ts[i].f3 ts[i].f4) b := by
      repeat' split
      all_goals exact hj _
    obtain ⟨b, h⟩ := fin
    refine ⟨b, Ev.step (fun k => by rw [cutroomlaw18_light.l0]) ?_⟩
    simp only [if_pos (show (i : Int) < (ts.length : Int) by omega), if_pos (show (0 : Int) ≤ (i : Int) by omega), rd48 hlt]
    exact h
theorem light_ev (a : Int) (ts : List S48) (hq : ∀ q ∈ ts, q.f3.length < 2932031007402) : ∃ b, Ev (fun k => cutroomlaw18_light.f k a ts) b := by
  unfold cutroomlaw18_light.f
  by_cases c : (ts.length : Int) > 6
  · simp only [if_pos c]; exact ⟨false, Ev.now _⟩
  · simp only [if_neg c]; exact light_l0 a ts (by omega) hq ts.length 0 (by omega)
end Go.Proofs.Ytbpmkcgpgdbbkaa.P
