/- Crews parted. -/
import Derived.Test.YtlaikchebojidaaDoorPure2
import Derived.Test.YtlaikchebojidaaDoorPure3
namespace Go.Proofs.YtlaikchebojidaaDoor.Pure
open Go.RowKit Go.Proofs.YtlaikchebojidaaDoor Go.Proofs.YtlaikchebojidaaDoor.T Go.Proofs.YtlaikchebojidaaDoorW.PrintWords Go.Proofs.YtlaikchebojidaaDoorW.PrintLast Go.Proofs.YtlaikchebojidaaDoorW.PrintMore
set_option linter.unusedVariables false

/-- The crew of all but the first. -/
def rest (c : Int) : Int := (P.crew_Of.f 10 ((mem c).drop 1)).getD 0
theorem rest_fin : ∀ n : Fin 64, P.crew_Of.f 10 ((mem n.val).drop 1) = some (rest n.val) ∧ 0 ≤ rest n.val ∧ rest n.val < 64 ∧ (¬ (mem n.val).length = 0 → 0 ≤ first n.val ∧ (mem (rest n.val)).length + 1 = (mem n.val).length ∧
    P.crew_Of.f 10 [first n.val] = some ((P.crew_Of.f 10 [first n.val]).getD 0) ∧ Go.bits .or .u32 (rest n.val) ((P.crew_Of.f 10 [first n.val]).getD 0) = n.val) := by decide +kernel
theorem rest_ok (c : Int) (c0 : 0 ≤ c) : Ev (fun k => P.crew_Of.f k ((mem c).drop 1)) (rest c) ∧ 0 ≤ rest c ∧ rest c < 64 ∧ (¬ (mem c).length = 0 → 0 ≤ first c ∧ (mem (rest c)).length + 1 = (mem c).length ∧
    ∃ x, Ev (fun k => P.crew_Of.f k [first c]) x ∧ Go.bits .or .u32 (rest c) x = c % 64) := by
  have ef : first c = first (c % 64) := by unfold first; rw [mem_low]
  have er : rest c = rest (c % 64) := by unfold rest; rw [mem_low]
  rw [ef, er, mem_low]
  obtain ⟨h1, h2, h3, h4⟩ := below64 (fun n => P.crew_Of.f 10 ((mem n).drop 1) = some (rest n) ∧ 0 ≤ rest n ∧ rest n < 64 ∧ (¬ (mem n).length = 0 → 0 ≤ first n ∧ (mem (rest n)).length + 1 = (mem n).length ∧
    P.crew_Of.f 10 [first n] = some ((P.crew_Of.f 10 [first n]).getD 0) ∧ Go.bits .or .u32 (rest n) ((P.crew_Of.f 10 [first n]).getD 0) = n)) rest_fin (m := c % 64) (by omega) (by omega)
  refine ⟨Ev.of (fun k => P.crew_Of.mono _ k) h1, h2, h3, fun hz => ?_⟩
  obtain ⟨h5, h6, h7, h8⟩ := h4 hz
  exact ⟨h5, h6, _, Ev.of (fun k => P.crew_Of.mono _ k) h7, h8⟩
theorem both_fin : ∀ m n : Fin 64, P.crew_Of.f 14 (mem m.val ++ mem n.val) = some (((m.val : Int).toNat ||| (n.val : Int).toNat : Nat) : Int) := by decide +kernel
theorem count2_fin : ∀ m n : Fin 64, (mem m.val).length + (mem n.val).length = (mem (((m.val : Int).toNat ||| (n.val : Int).toNat : Nat) : Int)).length + (mem (((m.val : Int).toNat &&& (n.val : Int).toNat : Nat) : Int)).length := by decide +kernel
theorem splits : tocsinlaw07_CrewSplits.Pure := by
  intro a b ha hb
  obtain ⟨a0, a1⟩ := wf32 ha
  obtain ⟨b0, b1⟩ := wf32 hb
  obtain ⟨o0, o1, o2⟩ := or_low a b a0 a1 b0 b1
  obtain ⟨n0, n1, n2⟩ := and_low a b a0 a1 b0 b1
  have la := mem_len a
  have lb := mem_len b
  have hboth : Ev (fun k => P.crew_Of.f k (mem a ++ mem b)) (Go.bits .or .u32 a b % 64) := by
    rw [o2, mem_low a, mem_low b]
    exact Ev.of (fun k => P.crew_Of.mono _ k) (two64 (fun m n => P.crew_Of.f 14 (mem m ++ mem n) = some ((m.toNat ||| n.toNat : Nat) : Int)) both_fin a b)
  have hcount : (mem a).length + (mem b).length = (mem (Go.bits .or .u32 a b)).length + (mem (Go.bits .and .u32 a b)).length := by
    rw [mem_low a, mem_low b, mem_low (Go.bits .or .u32 a b), mem_low (Go.bits .and .u32 a b), o2, n2]
    exact two64 (fun m n => (mem m).length + (mem n).length = (mem ((m.toNat ||| n.toNat : Nat) : Int)).length + (mem ((m.toNat &&& n.toNat : Nat) : Int)).length) count2_fin a b
  have lo := mem_len (Go.bits .or .u32 a b)
  have ln := mem_len (Go.bits .and .u32 a b)
  have hj : Ev (fun k => tocsinlaw07_CrewSplits.j0 k a b (mem a)) true := by
    refine Ev.step (f := fun k => (P.crew_Members.f k b).bind fun t227 => (if (mem a).length + t227.length < 17592186044416 then ((P.crew_Of.f k (mem a ++ t227)).bind fun t233 => (if t233 = (Int.tmod (Go.bits .or .u32 a b) 64) then ((P.crew_Count.f a).bind fun t234 => ((P.crew_Count.f b).bind fun t235 => ((P.crew_Count.f (Go.bits .or .u32 a b)).bind fun t236 => ((P.crew_Count.f (Go.bits .and .u32 a b)).bind fun t237 => (some ((wrap64 (t234 + t235)) == (wrap64 (t236 + t237)))))))) else (none))) else (none))) (fun k => ?_) ?_
    · rw [tocsinlaw07_CrewSplits.j0]
      simp only [Option.bind_some, List.nil_append, List.length_nil]
      rw [if_pos (by omega)]
    · refine Ev.bind (members_ev b b0 b1) ?_
      simp only [if_pos (show (mem a).length + (mem b).length < 17592186044416 by omega)]
      refine Ev.bind hboth ?_
      simp only [tmod64 o0, if_true, count_eq a a0 a1, count_eq b b0 b1, count_eq _ o0 o1, count_eq _ n0 n1, Option.bind_some]
      refine Ev.congr (f := fun _ => some true) (fun k => ?_) (Ev.now true)
      rw [wrap_in (by omega), wrap_in (by omega)]
      simp only [Option.some.injEq, beq_iff_eq]
      omega
  refine Ev.rounds (g := fun k => tocsinlaw07_CrewSplits.f k a b) (r := true) ?_
  unfold tocsinlaw07_CrewSplits.f
  refine Ev.bind fixed_ev ?_
  simp only [if_true]
  refine Ev.bind (members_ev a a0 a1) ?_
  simp only [first_eq a a0 a1, Option.bind_some]
  obtain ⟨hr, r0, r1, hrest⟩ := rest_ok a a0
  by_cases hz : (mem a).length = 0
  · have hf : ¬ first a ≥ 0 := by unfold first; rw [if_pos hz]; decide
    simp only [if_neg hf]
    exact hj
  · obtain ⟨f0, hl, x, hx, hor⟩ := hrest hz
    have hf : rd (mem a) 0 = first a := by unfold first; rw [if_neg hz]
    simp only [if_pos (show first a ≥ 0 from f0), if_neg (show ¬ ((mem a).length : Int) = 0 by omega), if_pos (show 0 < ((mem a).length : Int) by omega), if_pos hf, if_pos (show 1 ≤ ((mem a).length : Int) by omega)]
    refine Ev.bind hr (Ev.bind hx ?_)
    simp only [if_pos (show Go.bits .or .u32 (rest a) x = Int.tmod a 64 by rw [tmod64 a0]; exact hor)]
    refine Ev.bind hr ?_
    simp only [count_eq (rest a) r0 (by omega), count_eq a a0 a1, Option.bind_some]
    rw [wrap_in (by omega)]
    simp only [if_pos (show ((mem (rest a)).length : Int) = ((mem a).length : Int) - 1 by omega)]
    exact hj
end Go.Proofs.YtlaikchebojidaaDoor.Pure
