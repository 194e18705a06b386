/- What an error number tells, with the table of the library's digits. -/
import Derived.Test.YtmanibjmcdbgaaaDoorDoIn
import Derived.Test.YtmanibjmcdbgaaaDoorBoundsX
import Derived.Test.YtmanibjmcdbgaaaDoorShelf
import Derived.Lib.ItoaLen
namespace Go.Proofs.YtmanibjmcdbgaaaDoor
set_option linter.unusedVariables false
set_option linter.unusedSimpArgs false
open Go.RowKit

def Tab (w : World) : Prop := Lib.TabIs Tryd.prog w "internal/strconv.uint64pow10" .u64 Lib.pow10Tab
theorem below_grow (w : World) (k : Nat) (os : Array Obj) : Below w.heap.size w (Sort.grow (w.drewN k) os) := by
  refine ⟨rfl, rfl, rfl, ?_, fun i hi => ?_⟩
  · simp [Sort.grow]
  · simp [Sort.grow, World.drewN, Array.getElem?_append_left hi]
def numText (n : Int) : ByteArray := ⟨#[101, 114, 114, 110, 111, 32]⟩ ++ ⟨(Lib.itoa n).toArray⟩
theorem numText_size (n : Int) (h0 : -9223372036854775808 ≤ n) (h1 : n ≤ 9223372036854775807) : (numText n).size ≤ 100 := by
  have h := Lib.itoa_length_le n h0 h1
  unfold numText
  rw [ByteArray.size_append]
  show 6 + (Lib.itoa n).toArray.size ≤ 100
  simp
  omega
theorem errno_calls (n : Int) (h0 : -9223372036854775808 ≤ n) (h1 : n ≤ 9223372036854775807) (w : World) (hT : Tab w) :
    Calls Tryd.prog 10 #[.int .i64 n] w fun e w' => e = .returned (.string (numText n)) ∧ Below w.heap.size w w' := by
  have HI := Lib.hid (Tryd.strconv_Itoa n h0 h1 w hT)
  have hl := Lib.itoa_length_le n h0 h1
  unfold numText
  obtain ⟨D, hD⟩ : ∃ D : ByteArray, D = ⟨(Lib.itoa n).toArray⟩ := ⟨_, rfl⟩
  have hDs : D.size ≤ 21 := by rw [hD]; show (Lib.itoa n).toArray.size ≤ 21; simpa using hl
  rw [← hD] at HI ⊢
  clear hD hl hT
  go_enter Tryd.func10, Tryd.ntmps10
  go_wp2_with fail
  refine HI.out.mono ?_
  rintro e w1 ⟨rfl, k, os, rfl⟩
  go_wp2
  go_ret
  exact ⟨rfl, below_grow _ _ _⟩
theorem meth_n (n : Int) (w : World) : (method 180 28 (.int .i64 n) "Error").run Tryd.prog w = .ok (10, .int .i64 n) w := by kernel_rfl
theorem told_errno (n : Int) (h0 : -9223372036854775808 ≤ n) (h1 : n ≤ 9223372036854775807) (w : World) (hT : Tab w) :
    Calls Tryd.prog 24 #[.iface 28 (.int .i64 n)] w fun e w' => e = .returned (.string (⟨#[101, 114, 114, 111, 114, 32]⟩ ++ numText n)) ∧ Below w.heap.size w w' := by
  have HE := Lib.hid (errno_calls n h0 h1 w hT)
  have hs := numText_size n h0 h1
  have e1 := ta_e1 n
  have e2 := ta_e2 n
  have e3 := meth_n n
  clear hT
  generalize numText n = T at HE hs ⊢
  go_enter Tryd.func24, Tryd.ntmps24
  go_wp2_with (go_at_call 10; refine HE.out.mono ?_; rintro e w' ⟨rfl, hb⟩)
  go_ret
  exact ⟨rfl, hb⟩
theorem tab_named : Tryd.prog.globalNamed "internal/strconv.uint64pow10" = some 1 := by kernel_rfl
theorem tab_keeps {w W : World} {g : Nat} {m c : Int} {l : ByteArray} (h : Tab w) (hF : IsF w g m c l) (hW : ∀ k, k < w.heap.size → k ≠ g → W.heap[k]? = w.heap[k]?) : Tab W := by
  unfold Tab Lib.TabIs World.var? at *
  simp only [tab_named, Option.bind_some] at h ⊢
  have hlt : 1 < w.heap.size := by
    rcases Nat.lt_or_ge 1 w.heap.size with h' | h'
    · exact h'
    · rw [Array.getElem?_eq_none h'] at h; simp at h
  have hne : 1 ≠ g := by
    intro e
    subst e
    unfold IsF at hF
    rw [hF] at h
    have h2 := congrArg Array.size (Option.some.inj h)
    simp [Lib.pow10Tab] at h2
  rw [hW _ hlt hne]
  exact h
theorem tab_below {w W : World} (h : Tab w) (hB : Below w.heap.size w W) : Tab W := by
  unfold Tab Lib.TabIs World.var? at *
  simp only [tab_named, Option.bind_some] at h ⊢
  have hlt : 1 < w.heap.size := by
    rcases Nat.lt_or_ge 1 w.heap.size with h' | h'
    · exact h'
    · rw [Array.getElem?_eq_none h'] at h; simp at h
  rw [hB.block _ hlt]
  exact h
end Go.Proofs.YtmanibjmcdbgaaaDoor
