/- One form for what a sending answers, for the program and for the reference. -/
import Derived.Test.YtpgnfjmcgfffgaaFix
import Derived.Test.YtpgnfjmcgfffgaaRef
namespace Go.Proofs.Ytpgnfjmcgfffgaa
set_option linter.unusedVariables false
set_option linter.unusedSimpArgs false
open Go.RowKit

def Goes (b o t s : Int) : Prop := ¬ BadSend t s ∧ ¬ (b ≤ t ∧ t < o) ∧ ¬ t < b
instance (b o t s : Int) : Decidable (Goes b o t s) := by unfold Goes; infer_instance
def sAt (d b o t s : Int) : Int := if Goes b o t s then t + ftime s + d else 0
def sB (b o t s : Int) : Int := if Goes b o t s then t else b
def sO (b o t s : Int) : Int := if Goes b o t s then t + ftime s else o
def sE (b o t s : Int) : Int := if BadSend t s then 1 else if b ≤ t ∧ t < o then 7 else if t < b then 1 else 0

theorem goes_yes {b o t s : Int} (d : Int) (h : Goes b o t s) : sAt d b o t s = t + ftime s + d ∧ sB b o t s = t ∧ sO b o t s = t + ftime s ∧ sE b o t s = 0 := by
  refine ⟨if_pos h, if_pos h, if_pos h, ?_⟩
  unfold sE; rw [if_neg h.1, if_neg h.2.1, if_neg h.2.2]
theorem goes_no {b o t s : Int} (d : Int) (h : ¬ Goes b o t s) : sAt d b o t s = 0 ∧ sB b o t s = b ∧ sO b o t s = o := ⟨if_neg h, if_neg h, if_neg h⟩

theorem send_any (g : Nat) (d b o t s : Int) (w : World) (h : IsW w g d b o) (d0 : 0 ≤ d) (d1 : d ≤ 1048576) :
    Calls Try.prog 11 #[.pointer (some ⟨g, 0, none⟩), .int .i64 t, .int .i64 s] w fun e w' => e = .returned (.tuple #[.int .i64 (sAt d b o t s), .int .i64 (sE b o t s)]) ∧
      IsW w' g d (sB b o t s) (sO b o t s) ∧ w.grownBy w' (some g) := by
  by_cases hg : Goes b o t s
  · obtain ⟨e1, e2, e3, e4⟩ := goes_yes d hg
    rw [e1, e2, e3, e4]
    have h2 := hg.2.2
    have h3 := hg.2.1
    exact send_goes g d b o t s w h hg.1 (by omega) (by omega) d0 d1
  · obtain ⟨e1, e2, e3⟩ := goes_no d hg
    rw [e1, e2, e3]
    unfold sE
    by_cases hb : BadSend t s
    · rw [if_pos hb]
      exact (send_bad _ t s w (.inr hb)).mono fun e w' ⟨he, hw⟩ => by subst hw; exact ⟨he, h, World.grownBy.refl w _⟩
    · rw [if_neg hb]
      by_cases h2 : b ≤ t ∧ t < o
      · rw [if_pos h2]
        exact (send_busy g d b o t s w h hb h2.1 h2.2).mono fun e w' ⟨he, hw⟩ => by subst hw; exact ⟨he, h, World.grownBy.refl w _⟩
      · rw [if_neg h2]
        have h3 : t < b := by
          rcases Int.lt_or_le t b with h3 | h3
          · exact h3
          · exact absurd ⟨hb, h2, by omega⟩ hg
        rw [if_pos h3]
        exact (send_old g d b o t s w h hb h3).mono fun e w' ⟨he, hw⟩ => by subst hw; exact ⟨he, h, World.grownBy.refl w _⟩

theorem rsend_any (d b o t s : Int) (w : World) (d0 : 0 ≤ d) (d1 : d ≤ 1048576) : Ref12 d b o t s w (.tuple #[xw d (sB b o t s) (sO b o t s), .int .i64 (sAt d b o t s), .int .i64 (sE b o t s)]) := by
  by_cases hb : BadSend t s
  · obtain ⟨e1, e2, e3⟩ := goes_no d (fun h : Goes b o t s => h.1 hb)
    rw [e1, e2, e3, sE, if_pos hb]
    exact rsend_bad d b o t s hb w
  · have h := rsend_rest d b o t s hb w d0 d1
    by_cases h2 : b ≤ t ∧ t < o
    · obtain ⟨e1, e2, e3⟩ := goes_no d (fun h : Goes b o t s => h.2.1 h2)
      rw [if_pos h2] at h
      rw [e1, e2, e3, sE, if_neg hb, if_pos h2]
      exact h
    · rw [if_neg h2] at h
      by_cases h3 : t < b
      · obtain ⟨e1, e2, e3⟩ := goes_no d (fun h : Goes b o t s => h.2.2 h3)
        rw [if_pos h3] at h
        rw [e1, e2, e3, sE, if_neg hb, if_neg h2, if_pos h3]
        exact h
      · obtain ⟨e1, e2, e3, e4⟩ := goes_yes d (⟨hb, h2, h3⟩ : Goes b o t s)
        rw [if_neg h3] at h
        rw [e1, e2, e3, e4]
        exact h

/-- The script's cells: three a call. -/
def OpsAt (w : World) (A : Option Addr) (n : Nat) : Prop :=
  ∀ i, i < n → ∃ (b off : Nat) (k t s : Int), A = some ⟨b, off, none⟩ ∧ b < w.heap.size ∧ w.cell? ⟨b, off + i * 3, none⟩ = some (.int .i64 k) ∧ w.cell? ⟨b, off + i * 3 + 1, none⟩ = some (.int .i64 t) ∧ w.cell? ⟨b, off + i * 3 + 2, none⟩ = some (.int .i64 s)
theorem OpsAt.below {w w' : World} {A : Option Addr} {n : Nat} (h : OpsAt w A n) (hb : Below w.heap.size w w') : ∀ i, i < n → ∃ (b off : Nat) (k t s : Int), A = some ⟨b, off, none⟩ ∧ b < w.heap.size ∧ w'.cell? ⟨b, off + i * 3, none⟩ = some (.int .i64 k) ∧ w'.cell? ⟨b, off + i * 3 + 1, none⟩ = some (.int .i64 t) ∧ w'.cell? ⟨b, off + i * 3 + 2, none⟩ = some (.int .i64 s) := by
  intro i hi
  obtain ⟨b, off, k, t, s, e, hlt, h0, h1, h2⟩ := h i hi
  exact ⟨b, off, k, t, s, e, hlt, (hb.cell (p := ⟨b, _, none⟩) hlt).trans h0, (hb.cell (p := ⟨b, _, none⟩) hlt).trans h1, (hb.cell (p := ⟨b, _, none⟩) hlt).trans h2⟩
end Go.Proofs.Ytpgnfjmcgfffgaa
