/- The woven fields, one by one. No condition of its own. -/
import Derived.Test.YtcofjbbflcnaaaaCadB
namespace Go.Proofs.Ytcofjbbflcnaaaa.P
open Go.RowKit Go.Proofs.YtcofjbbflcnaaaaW.PrintWords Go.Proofs.YtcofjbbflcnaaaaW.PrintLast Go.Proofs.YtcofjbbflcnaaaaW.PrintMore
set_option linter.unusedVariables false

theorem KF_is {F : Int → Int} (hF : ∀ a b, a ≤ b → F a ≤ F b) (h0 : F 0 = 0) {n f k : Int} (hf : 0 ≤ f) (hk : 0 ≤ k) (hkn : k ≤ n - 1) : KF F n f = k ↔ (F k ≤ f ∧ (k = n - 1 ∨ f < F (k + 1))) := by
  have a := KF_lt hF n f k hk
  have nn := KF_nonneg F n f
  by_cases c : k = 0
  · subst c
    rw [h0]
    omega
  · have b := KF_lt hF n f (k - 1) (by omega)
    rw [show k - 1 + 1 = k by omega] at b
    omega

/-- the woven fields, one by one -/
def fl (K : Int → Int) (m : Nat) : List Int := (List.range m).map fun (f : Nat) => K (f : Int)
theorem fl_length (K : Int → Int) (m : Nat) : (fl K m).length = m := by simp [fl]
theorem rd_fl (K : Int → Int) (m : Nat) (i : Int) (h0 : 0 ≤ i) (h1 : i < m) : rd (fl K m) i = K i := by
  unfold rd
  rw [List.getD_eq_getElem?_getD, List.getElem?_eq_getElem (by rw [fl_length]; omega)]
  simp only [Option.getD_some, fl, List.getElem_map, List.getElem_range]
  rw [show ((i.toNat : Nat) : Int) = i by omega]

end Go.Proofs.Ytcofjbbflcnaaaa.P
