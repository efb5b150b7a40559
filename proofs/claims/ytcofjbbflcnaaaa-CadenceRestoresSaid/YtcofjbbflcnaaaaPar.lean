/- Four operations of a region that draws its order, each of which makes a block of its own: whatever the order, what they leave is the same; told once. No condition of its own. -/
import Derived.Test.YtcofjbbflcnaaaaWTab
namespace Go.Proofs.Ytcofjbbflcnaaaa.Par
open Go.RowKit Go.Proofs.YtcofjbbflcnaaaaW.PrintWords Go.Proofs.YtcofjbbflcnaaaaW.PrintLast
variable {P : Program} {ops : Array Oper} {Q : Exit → Act → World → Prop} {md : Region.Mode} {S : World → Prop} {ds : List Nat}
/-- One event: whatever stands in its slot; what it makes is new (blk), φ of it holds, and G and R. -/
def EvOk (P : Program) (ops : Array Oper) (Q : Exit → Act → World → Prop) (o : Oper) (A : Value → Act) (φ : Value → World → Prop) (R : World → World → Prop) (G : World → Prop) (blk : Value → Nat) : Prop :=
  ∀ u W (K : Act → World → Prop), G W → Aside0 (∀ v W1, R W W1 → G W1 → φ v W1 → W.heap.size ≤ blk v → K (A v) W1) → if Region.wanted o (yielded ops (A u).tmps) = true then Oper.wp P o (A u) W K Q else K ((A u).put o.dst undef) W
def cnt (b : Bool) : Nat := if b then 0 else 1
theorem cnt_f : cnt false = 1 := rfl
theorem cnt_t : cnt true = 0 := rfl
theorem all_of {b c d : Bool} (h : (b && c && d) = true) : b = true ∧ c = true ∧ d = true := by
  cases b <;> cases c <;> cases d <;> first | exact ⟨rfl, rfl, rfl⟩ | (exact absurd h (by decide))
theorem none_of {b c d e : Bool} (h : cnt b + cnt c + cnt d + cnt e = 0) : (b && c && d) = true := by
  cases b <;> cases c <;> cases d <;> cases e <;> first | rfl | (exact absurd h (by simp [cnt]))
def pend (b : Bool) (i : Nat) : List Nat := if b then [] else [i]
theorem pend_ne {b c d e : Bool} {i j k m : Nat} (h : (b && c && d) = false) : pend b i ++ (pend c j ++ (pend d k ++ pend e m)) ≠ [] := by
  cases b <;> cases c <;> cases d <;> cases e <;> first | (exact absurd h (by decide)) | simp [pend]
theorem four_par {i j k m : Nat} {oi oj ok om : Oper} {fuel : Nat} (L : Bool → Bool → Bool → Bool → Array Bool) (A : Value → Value → Value → Value → Act) (φi φj φk φm : Value → World → Prop) (R : World → World → Prop) (G : World → Prop) (blk : Value → Nat)
    (hi : ops[i]? = some oi) (hj : ops[j]? = some oj) (hk : ops[k]? = some ok) (hm : ops[m]? = some om) (hdi : i ∉ ds) (hdj : j ∉ ds) (hdk : k ∉ ds) (hdm : m ∉ ds)
    (hr : ∀ b c d e, (b && c && d) = false → Region.ready md ops (L b c d e) = pend b i ++ (pend c j ++ (pend d k ++ pend e m)))
    (si : ∀ c d e, (L false c d e).setIfInBounds i true = L true c d e) (sj : ∀ b d e, (L b false d e).setIfInBounds j true = L b true d e) (sk : ∀ b c e, (L b c false e).setIfInBounds k true = L b c true e) (sm : ∀ b c d, (L b c d false).setIfInBounds m true = L b c d true)
    (hφ : ∀ W W1, R W W1 → (∀ v, φi v W → φi v W1) ∧ (∀ v, φj v W → φj v W1) ∧ (∀ v, φk v W → φk v W1) ∧ (∀ v, φm v W → φm v W1))
    (hlt : ∀ W v, (φi v W → blk v < W.heap.size) ∧ (φj v W → blk v < W.heap.size) ∧ (φk v W → blk v < W.heap.size) ∧ (φm v W → blk v < W.heap.size))
    (hGS : ∀ W, G W → S W)
    (ei : ∀ vj vk vm, EvOk P ops Q oi (fun v => A v vj vk vm) φi R G blk) (ej : ∀ vi vk vm, EvOk P ops Q oj (fun v => A vi v vk vm) φj R G blk) (ek : ∀ vi vj vm, EvOk P ops Q ok (fun v => A vi vj v vm) φk R G blk) (em : ∀ vi vj vk, EvOk P ops Q om (fun v => A vi vj vk v) φm R G blk)
    (fin : ∀ vi vj vk vm W, φi vi W → φj vj W → φk vk W → φm vm W → blk vi ≠ blk vj → blk vi ≠ blk vk → blk vi ≠ blk vm → blk vj ≠ blk vk → blk vj ≠ blk vm → blk vk ≠ blk vm → G W → wpAnyLast P md ops Q S ds fuel (L true true true true) (A vi vj vk vm) W)
    (lst : ∀ vi vj vk um W, φi vi W → φj vj W → φk vk W → blk vi ≠ blk vj → blk vi ≠ blk vk → blk vj ≠ blk vk → G W → wpAnyLast P md ops Q S ds (fuel + 1) (L true true true false) (A vi vj vk um) W)
    (ui uj uk um : Value) (w : World) (hG : G w) : wpAnyLast P md ops Q S ds (fuel + 4) (L false false false false) (A ui uj uk um) w := by
  have main : ∀ n b c d e vi vj vk vm W, cnt b + cnt c + cnt d + cnt e = n → (b = true → φi vi W) → (c = true → φj vj W) → (d = true → φk vk W) → (e = true → φm vm W) →
      (b = true → c = true → blk vi ≠ blk vj) → (b = true → d = true → blk vi ≠ blk vk) → (b = true → e = true → blk vi ≠ blk vm) → (c = true → d = true → blk vj ≠ blk vk) → (c = true → e = true → blk vj ≠ blk vm) → (d = true → e = true → blk vk ≠ blk vm) → G W →
      wpAnyLast P md ops Q S ds (fuel + n) (L b c d e) (A vi vj vk vm) W := by
    intro n
    induction n with
    | zero =>
      intro b c d e vi vj vk vm W hn h1 h2 h3 h4 d1 d2 d3 d4 d5 d6 hG
      obtain ⟨rfl, rfl, rfl⟩ := all_of (none_of hn)
      cases e with
      | true => exact fin vi vj vk vm W (h1 rfl) (h2 rfl) (h3 rfl) (h4 rfl) (d1 rfl rfl) (d2 rfl rfl) (d3 rfl rfl) (d4 rfl rfl) (d5 rfl rfl) (d6 rfl rfl) hG
      | false => rw [cnt_f] at hn; omega
    | succ n ih =>
      intro b c d e vi vj vk vm W hn h1 h2 h3 h4 d1 d2 d3 d4 d5 d6 hG
      cases hall : (b && c && d) with
      | true =>
        obtain ⟨rfl, rfl, rfl⟩ := all_of hall
        cases e with
        | true => simp only [cnt_t] at hn; omega
        | false =>
          obtain rfl : n = 0 := by simp only [cnt_t, cnt_f] at hn; omega
          exact lst vi vj vk vm W (h1 rfl) (h2 rfl) (h3 rfl) (d1 rfl rfl) (d2 rfl rfl) (d4 rfl rfl) hG
      | false =>
      have nall := hall
      have pI : AllReadyL P md ops Q S ds (fuel + n) (L b c d e) (A vi vj vk vm) W (pend b i) := by
        cases b with
        | true => exact AllReadyL.nil
        | false =>
          refine AllReadyL.cons hi hdi (fun K hK => ?_) AllReadyL.nil
          refine ei vj vk vm vi W K hG ⟨fun v W1 hR hG1 hv hf => hK.out _ _ (hGS W1 hG1) (fun _ => ?_)⟩
          rw [si]
          have m1 := hφ W W1 hR
          exact ih true c d e v vj vk vm W1 (by rw [cnt_f] at hn; rw [cnt_t]; omega) (fun _ => hv) (fun h => m1.2.1 _ (h2 h)) (fun h => m1.2.2.1 _ (h3 h)) (fun h => m1.2.2.2 _ (h4 h))
            (fun _ h => by have := (hlt W vj).2.1 (h2 h); omega) (fun _ h => by have := (hlt W vk).2.2.1 (h3 h); omega) (fun _ h => by have := (hlt W vm).2.2.2 (h4 h); omega) d4 d5 d6 hG1
      have pJ : AllReadyL P md ops Q S ds (fuel + n) (L b c d e) (A vi vj vk vm) W (pend c j) := by
        cases c with
        | true => exact AllReadyL.nil
        | false =>
          refine AllReadyL.cons hj hdj (fun K hK => ?_) AllReadyL.nil
          refine ej vi vk vm vj W K hG ⟨fun v W1 hR hG1 hv hf => hK.out _ _ (hGS W1 hG1) (fun _ => ?_)⟩
          rw [sj]
          have m1 := hφ W W1 hR
          exact ih b true d e vi v vk vm W1 (by rw [cnt_f] at hn; rw [cnt_t]; omega) (fun h => m1.1 _ (h1 h)) (fun _ => hv) (fun h => m1.2.2.1 _ (h3 h)) (fun h => m1.2.2.2 _ (h4 h))
            (fun h _ => by have := (hlt W vi).1 (h1 h); omega) d2 d3 (fun _ h => by have := (hlt W vk).2.2.1 (h3 h); omega) (fun _ h => by have := (hlt W vm).2.2.2 (h4 h); omega) d6 hG1
      have pK : AllReadyL P md ops Q S ds (fuel + n) (L b c d e) (A vi vj vk vm) W (pend d k) := by
        cases d with
        | true => exact AllReadyL.nil
        | false =>
          refine AllReadyL.cons hk hdk (fun K hK => ?_) AllReadyL.nil
          refine ek vi vj vm vk W K hG ⟨fun v W1 hR hG1 hv hf => hK.out _ _ (hGS W1 hG1) (fun _ => ?_)⟩
          rw [sk]
          have m1 := hφ W W1 hR
          exact ih b c true e vi vj v vm W1 (by rw [cnt_f] at hn; rw [cnt_t]; omega) (fun h => m1.1 _ (h1 h)) (fun h => m1.2.1 _ (h2 h)) (fun _ => hv) (fun h => m1.2.2.2 _ (h4 h))
            d1 (fun h _ => by have := (hlt W vi).1 (h1 h); omega) d3 (fun h _ => by have := (hlt W vj).2.1 (h2 h); omega) d5 (fun _ h => by have := (hlt W vm).2.2.2 (h4 h); omega) hG1
      have pM : AllReadyL P md ops Q S ds (fuel + n) (L b c d e) (A vi vj vk vm) W (pend e m) := by
        cases e with
        | true => exact AllReadyL.nil
        | false =>
          refine AllReadyL.cons hm hdm (fun K hK => ?_) AllReadyL.nil
          refine em vi vj vk vm W K hG ⟨fun v W1 hR hG1 hv hf => hK.out _ _ (hGS W1 hG1) (fun _ => ?_)⟩
          rw [sm]
          have m1 := hφ W W1 hR
          exact ih b c d true vi vj vk v W1 (by rw [cnt_f] at hn; rw [cnt_t]; omega) (fun h => m1.1 _ (h1 h)) (fun h => m1.2.1 _ (h2 h)) (fun h => m1.2.2.1 _ (h3 h)) (fun _ => hv)
            d1 d2 (fun h _ => by have := (hlt W vi).1 (h1 h); omega) d4 (fun h _ => by have := (hlt W vj).2.1 (h2 h); omega) (fun h _ => by have := (hlt W vk).2.2.1 (h3 h); omega) hG1
      refine wpAnyLast_ready (hr b c d e nall) (pend_ne nall) ?_
      · intro x hx
        rcases List.mem_append.1 hx with hx | hx
        · exact pI x hx
        · rcases List.mem_append.1 hx with hx | hx
          · exact pJ x hx
          · rcases List.mem_append.1 hx with hx | hx
            · exact pK x hx
            · exact pM x hx
  exact main 4 false false false false ui uj uk um w rfl (fun h => by cases h) (fun h => by cases h) (fun h => by cases h) (fun h => by cases h) (fun h => by cases h) (fun h => by cases h) (fun h => by cases h) (fun h => by cases h) (fun h => by cases h) (fun h => by cases h) hG
end Go.Proofs.Ytcofjbbflcnaaaa.Par
