/- How a row's argument is opened: whatever type it has (whole numbers, strings, slices, structs, nested), what memory holds of it is told by a kind 'Kd'. No condition of its own. -/
import Derived.Test.YtcofjbbflcnaaaaWWords
import Derived.Deep.Slices
import Derived.SizedLaws
import Derived.ChangeArms
namespace Go.Proofs.Ytcofjbbflcnaaaa.Opens
open Go.ChangeShapes Go.WideShapes Go.Deep Go.Proofs.YtcofjbbflcnaaaaW.PrintWords

/-- Whatever reads at type T is of kind d, and Q holds of it. -/
def Opens (P : Program) (T : TypeId) {α : Type} (d : Kd α) (Q : α → Prop) : Prop :=
  ∀ {H : Type} (enc : TypeId × Value → H) (w : World) (fuel : Nat) (cs : List Value) (x : DataW H × List MemPlace),
    DataW.trod enc P w 0 (fun _ => true) true fuel T cs = some x → (∀ n ∈ DataW.weights P T x.1, n ≤ reachBytes) → ∃ a, d.K w a cs ∧ Q a

theorem opens_int {P : Program} {T : TypeId} {k : IntKind} (hT : P.underlying T = some (.int k)) : Opens P T (Kd.int k) (fun n => (Lit.int k n).wf = true) := by
  intro H enc w fuel cs x h _
  obtain ⟨n, rfl, _, hw⟩ := DataW.trod_int hT h
  exact ⟨n, rfl, hw⟩

theorem opens_bool {P : Program} {T : TypeId} (hT : P.underlying T = some .bool) : Opens P T Kd.bool (fun _ => True) := by
  intro H enc w fuel cs x h _
  obtain ⟨n, rfl, _⟩ := DataW.trod_bool hT h
  exact ⟨n, rfl, trivial⟩

theorem opens_string {P : Program} {T : TypeId} (hT : P.underlying T = some .string) : Opens P T Kd.string (fun s => s.size ≤ 140737488351232) := by
  intro H enc w fuel cs x h hs
  obtain ⟨s, rfl, rfl, _⟩ := DataW.trod_string hT h
  refine ⟨s, rfl, ?_⟩
  have := hs s.data.toList.length (by simp [DataW.weights])
  rw [Array.length_toList] at this
  exact this

theorem mem_weightsAll {H : Type} {P : Program} {e : TypeId} {d : DataW H} : ∀ {l : List (DataW H)}, d ∈ l → ∀ n ∈ DataW.weights P e d, n ∈ DataW.weightsAll P e l
  | [], h, _, _ => absurd h List.not_mem_nil
  | c :: r, h, n, hn => by
    unfold DataW.weightsAll
    rcases List.mem_cons.1 h with rfl | h
    · exact List.mem_append_left _ hn
    · exact List.mem_append_right _ (mem_weightsAll h n hn)

theorem opens_slice {P : Program} {T e : TypeId} {α : Type} {d : Kd α} {Q : α → Prop} {b : Nat} (hT : P.underlying T = some (.slice e)) (hc : P.cellsOf e = d.sz) (hb : P.bytesOf e = b) (hd : Opens P e d Q) :
    Opens P T (Kd.slice e d) (fun l => l.length ≤ maxLen ∧ l.length * b ≤ 140737488351232 ∧ ∀ a ∈ l, Q a) := by
  intro H enc w fuel cs x h hs
  rcases open_slice hT h with ⟨rfl, rfl⟩ | ⟨a, len, cap, m, n, D, Pl, rfl, _, hl, hm, hmm, rfl, hx⟩
  · exact ⟨[], ⟨none, 0, rfl, Nat.le_refl _, rfl, by simp, fun h => absurd h (Nat.lt_irrefl 0)⟩, by simp, by simp, by simp⟩
  · have hmc : m = cap := by rw [hmm]; rfl
    subst hmc
    have hw : ∀ n ∈ DataW.weights P T (DataW.slice ((List.range len).map D) ((List.range (m - len)).map fun j => D (len + j))), n ≤ reachBytes := hs
    unfold DataW.weights at hw
    simp only [hT] at hw
    have h0 := hw _ (List.mem_cons_self ..)
    have hcell : ∀ i, i < len → ∃ a0, (∃ cs', w.cells? 0 (a.add (i * P.cellsOf e)) (P.cellsOf e) = some cs' ∧ d.K w a0 cs') ∧ Q a0 := by
      intro i hi
      obtain ⟨cs', h1, h2⟩ := hx i (by omega)
      obtain ⟨a0, hk, hq⟩ := hd enc w n cs' _ h2 (fun k hk => hw k (List.mem_cons_of_mem _ (List.mem_append_left _ (mem_weightsAll (List.mem_map.2 ⟨i, by simpa using hi, rfl⟩) k hk))))
      exact ⟨a0, ⟨cs', h1, hk⟩, hq⟩
    have pick : ∀ k, k ≤ len → ∃ l : List α, l.length = k ∧ (∀ j p, l[j]? = some p → (∃ cs', w.cells? 0 (a.add (j * P.cellsOf e)) (P.cellsOf e) = some cs' ∧ d.K w p cs') ∧ Q p) := by
      intro k
      induction k with
      | zero => intro _; exact ⟨[], rfl, fun j p hj => by simp at hj⟩
      | succ k ih =>
        intro hk
        obtain ⟨l, hll, hp⟩ := ih (by omega)
        obtain ⟨a0, h1, h2⟩ := hcell k (by omega)
        refine ⟨l ++ [a0], by simp [hll], fun j p hj => ?_⟩
        by_cases hj2 : j < l.length
        · rw [List.getElem?_append_left hj2] at hj
          exact hp j p hj
        · rw [List.getElem?_append_right (by omega)] at hj
          have : j = k := by
            by_cases h3 : j - l.length = 0
            · omega
            · rw [List.getElem?_eq_none (by simp; omega)] at hj
              cases hj
          subst this
          rw [hll, Nat.sub_self] at hj
          simp at hj
          subst hj
          exact ⟨h1, h2⟩
    obtain ⟨l, hll, hp⟩ := pick len (Nat.le_refl _)
    refine ⟨l, ⟨some a, m, by rw [hll], by omega, rfl, by unfold maxLen at hm; omega, fun _ => ⟨a, rfl, fun j p hj => ?_⟩⟩, by omega, ?_, ?_⟩
    · obtain ⟨⟨cs', h1, h2⟩, _⟩ := hp j p hj
      obtain ⟨_, h3, h4⟩ := World.cells?_some h1
      refine ⟨cs', by rw [h3, hc], h2, fun i u hu => ?_⟩
      have hi : i < P.cellsOf e := by rw [← h3]; exact (List.getElem?_eq_some_iff.1 hu).1
      have h5 := h4 i hi
      rw [Deep.add_add, hu, hc] at h5
      exact h5
    · rw [hll, ← hb]
      refine Nat.le_trans (Nat.mul_le_mul_right _ ?_) h0
      simp
    · intro p hpm
      obtain ⟨j, hj⟩ := List.getElem?_of_mem hpm
      exact (hp j p hj).2

/-! ### structs -/
def OpensF (P : Program) (fs : List Field) (off : Nat) {α : Type} (d : Kd α) (Q : α → Prop) : Prop :=
  ∀ {H : Type} (enc : TypeId × Value → H) (w : World) (fuel : Nat) (cs : List Value) (xs : List (DataW H × List MemPlace)), xs.length = fs.length →
    (∀ (i : Nat) (f : Field), fs[i]? = some f → DataW.trod enc P w 0 (fun _ => true) true fuel f.type ((cs.drop f.offset).take (P.cellsOf f.type)) = xs[i]?) →
    cs.length = off + d.sz → (∀ n ∈ DataW.weightsEach P (fs.map (·.type)) (xs.map (·.1)), n ≤ reachBytes) → ∃ a, d.K w a (cs.drop off) ∧ Q a

theorem opensF_one {P : Program} {f : Field} {off : Nat} {α : Type} {d : Kd α} {Q : α → Prop} (ho : f.offset = off) (hc : P.cellsOf f.type = d.sz) (h : Opens P f.type d Q) : OpensF P [f] off d Q := by
  intro H enc w fuel cs xs hl hx hcs hw
  match xs, hl with
  | [x], _ =>
    have h1 := hx 0 f rfl
    rw [ho, hc, List.take_of_length_le (by rw [List.length_drop]; omega)] at h1
    exact h enc w fuel _ x h1 (fun n hn => hw n (by simp [DataW.weightsEach, hn]))

theorem opensF_cons {P : Program} {f : Field} {fs : List Field} {off : Nat} {α β : Type} {d : Kd α} {d' : Kd β} {Q : α → Prop} {Q' : β → Prop} (ho : f.offset = off) (hc : P.cellsOf f.type = d.sz) (h : Opens P f.type d Q)
    (h' : OpensF P fs (off + d.sz) d' Q') : OpensF P (f :: fs) off (Kd.pair d d') (fun a => Q a.1 ∧ Q' a.2) := by
  intro H enc w fuel cs xs hl hx hcs hw
  match xs, hl with
  | x :: xs, hl =>
    have hsz : (Kd.pair d d').sz = d.sz + d'.sz := rfl
    rw [hsz] at hcs
    have h1 := hx 0 f rfl
    rw [ho, hc] at h1
    obtain ⟨a, ha, hq⟩ := h enc w fuel _ x h1 (fun n hn => hw n (by simp [DataW.weightsEach, hn]))
    obtain ⟨a', ha', hq'⟩ := h' enc w fuel cs xs (by simpa using hl) (fun i g hg => by simpa using hx (i + 1) g (by simpa using hg)) (by omega) (fun n hn => hw n (by simp [DataW.weightsEach] at hn ⊢; exact .inr hn))
    refine ⟨(a, a'), ⟨_, _, ?_, ha, ha'⟩, hq, hq'⟩
    rw [← List.drop_drop, List.take_append_drop]

theorem opens_struct {P : Program} {T : TypeId} {fs : Array Field} {α : Type} {d : Kd α} {Q : α → Prop} (hT : P.underlying T = some (.struct fs)) (hc : P.cellsOf T = d.sz) (h : OpensF P fs.toList 0 d Q) : Opens P T d Q := by
  intro H enc w fuel cs x hx hw
  obtain ⟨xs, n, _, rfl, hl, hlen, hf⟩ := DataW.trod_struct hT hx
  obtain ⟨a, ha, hq⟩ := h enc w n cs xs (by simpa using hlen) (fun i f hi => hf i f (by simpa using hi)) (by rw [hl, hc, Nat.zero_add]) (by
    have hw' := hw
    unfold DataW.weights at hw'
    simp only [hT] at hw'
    exact hw')
  exact ⟨a, by simpa using ha, hq⟩

theorem opens_iso {P : Program} {T : TypeId} {α β : Type} {d : Kd α} {Q : α → Prop} {f : β → α} (g : α → β) (hg : ∀ a, f (g a) = a) (h : Opens P T d Q) : Opens P T (Kd.iso d f) (fun b => Q (f b)) := by
  intro H enc w fuel cs x hx hw
  obtain ⟨a, ha, hq⟩ := h enc w fuel cs x hx hw
  exact ⟨g a, by show d.K w (f (g a)) cs; rw [hg]; exact ha, by show Q (f (g a)); rw [hg]; exact hq⟩

/-- From the whole row's weights to one argument's. -/
theorem weights_each {H : Type} {P : Program} : ∀ {ts : List TypeId} {ds : List (DataW H)} (j : Nat) {t : TypeId} {d : DataW H}, ts[j]? = some t → ds[j]? = some d → ∀ n ∈ DataW.weights P t d, n ∈ DataW.weightsEach P ts ds
  | [], _, j, _, _, h, _, _, _ => by simp at h
  | _ :: _, [], j, _, _, _, h, _, _ => by simp at h
  | t0 :: ts, d0 :: ds, 0, t, d, h, k, n, hn => by
    simp at h k
    subst h; subst k
    unfold DataW.weightsEach
    exact List.mem_append_left _ hn
  | t0 :: ts, d0 :: ds, j + 1, t, d, h, k, n, hn => by
    unfold DataW.weightsEach
    exact List.mem_append_right _ (weights_each j (by simpa using h) (by simpa using k) n hn)

theorem opened {P : Program} {T : TypeId} {α : Type} {d : Kd α} {Q : α → Prop} (ho : Opens P T d Q) {H : Type} {enc : TypeId × Value → H} {W : World} {v : Value} {x : DataW H} {ps : List MemPlace} {ts : List TypeId} {ds : List (DataW H)} (j : Nat)
    (hsz : (DataW.weightsEach P ts ds).all (· ≤ reachBytes) = true) (ht : ts[j]? = some T) (hd : ds[j]? = some x) (h : DataW.Trod enc P W 0 (fun _ => true) true T v x ps) : ∃ a, d.K W a v.cells.toList ∧ Q a := by
  obtain ⟨fuel, hf⟩ := h
  exact ho enc W fuel _ _ hf (fun n hn => by simpa using List.all_eq_true.1 hsz n (weights_each j ht hd n hn))

end Go.Proofs.Ytcofjbbflcnaaaa.Opens
