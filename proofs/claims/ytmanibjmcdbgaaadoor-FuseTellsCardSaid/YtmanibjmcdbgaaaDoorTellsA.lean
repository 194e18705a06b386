/- FuseTells: the works. -/
import Derived.Test.YtmanibjmcdbgaaaDoorFixed
import Derived.Test.YtmanibjmcdbgaaaDoorErrno
import Derived.Laws.Panics
namespace Go.Proofs.YtmanibjmcdbgaaaDoor
set_option linter.unusedVariables false
set_option linter.unusedSimpArgs false
open Go.RowKit
theorem do_thr (g : Nat) (m c : Int) (l : ByteArray) (w : World) (hF : IsF w g m c l) (hb : c ≤ m) (c0 : 0 ≤ c) (c1 : c ≤ 4611686018427387904) (G : FuncId) (cap : Array Value) (K : Known G cap) (t : TypeId) (s : ByteArray)
    (hw : ∀ n, Calls Tryd.prog G cap ((atWork w (some ⟨g, 0, none⟩)).drewN n) fun e w' => ∃ pv, TellsIn g w' (.iface t pv) s ∧ e = .panicked [{ v := .iface t pv, recovered := false }] ∧ ∃ k, (atWork w (some ⟨g, 0, none⟩)).drewN k = w') :
    Calls Tryd.prog 7 #[.pointer (some ⟨g, 0, none⟩), .func (.func G) #[] cap] w fun e w' => e = .returned (.bool false) ∧ IsF w' g m (c + 1) s ∧ Chg (fun k => k = g) w w' := by
  have hat : ∀ n, Chg (fun _ => False) w ((atWork w (some ⟨g, 0, none⟩)).drewN n) := fun n => atWork_chg w (some ⟨g, 0, none⟩) n _
  refine (do_panics_in g m c l w hF hb G cap (fun w' => ∃ n, (atWork w (some ⟨g, 0, none⟩)).drewN n = w') t s K.ne K.call hw c l c0 c1 ?_).mono ?_
  · rintro w' ⟨n, rfl⟩
    exact ⟨atWork_p w g n, atWork_q w _ n, (hat n).blk hF (fun h => h)⟩
  · rintro e w' ⟨rfl, w1, ⟨n, rfl⟩, hF', hC⟩
    exact ⟨rfl, hF', chg_join (hat n) hC (fun _ h => h.elim)⟩

def boxS (s : ByteArray) : Obj := .cells #[.string s] 9 (0, 0)
def boxI (n : Int) : Obj := .cells #[.int .i64 n] 3 (0, 0)
theorem known8 (a : Addr) : Known 8 #[.pointer (some a)] := ⟨fun _ => by kernel_rfl, fun _ => by kernel_rfl⟩
theorem known9 (a : Addr) : Known 9 #[.pointer (some a)] := ⟨fun _ => by kernel_rfl, fun _ => by kernel_rfl⟩
theorem known11 (a b : Addr) : Known 11 #[.pointer (some a), .pointer (some b)] := ⟨fun _ => by kernel_rfl, fun _ => by kernel_rfl⟩
theorem known13 (a : Addr) : Known 13 #[.pointer (some a)] := ⟨fun _ => by kernel_rfl, fun _ => by kernel_rfl⟩
theorem known17 : Known 17 #[] := ⟨fun _ => by kernel_rfl, fun _ => by kernel_rfl⟩
theorem work8 (a : Nat) (s : ByteArray) (w : World) (h : w.heap[a]? = some (boxS s)) : Calls Tryd.prog 8 #[.pointer (some ⟨a, 0, none⟩)] w fun e w' => e = .panicked [{ v := .iface 9 (.string s), recovered := false }] ∧ w = w' := by
  have c := blk_cell h 0
  clear h
  go_enter Tryd.func8, Tryd.ntmps8
  go_wp2
  exact ⟨rfl, rfl, rfl⟩
theorem work9 (a : Nat) (n : Int) (w : World) (h : w.heap[a]? = some (boxI n)) : Calls Tryd.prog 9 #[.pointer (some ⟨a, 0, none⟩)] w fun e w' => e = .panicked [{ v := .iface 28 (.int .i64 n), recovered := false }] ∧ w = w' := by
  have c := blk_cell h 0
  clear h
  go_enter Tryd.func9, Tryd.ntmps9
  go_wp2
  exact ⟨rfl, rfl, rfl⟩
theorem work13 (a : Nat) (n : Int) (w : World) (h : w.heap[a]? = some (boxI n)) : Calls Tryd.prog 13 #[.pointer (some ⟨a, 0, none⟩)] w fun e w' => e = .panicked [{ v := .iface 3 (.int .i64 n), recovered := false }] ∧ w = w' := by
  have c := blk_cell h 0
  clear h
  go_enter Tryd.func13, Tryd.ntmps13
  go_wp2
  exact ⟨rfl, rfl, rfl⟩
theorem work17 (w : World) : Calls Tryd.prog 17 #[] w fun e w' => e = .returned (.tuple #[]) ∧ w = w' := by
  go_enter Tryd.func17, Tryd.ntmps17
  go_wp2
  go_end0
  exact ⟨rfl, rfl⟩
def bToldX (x : Int) : ByteArray := ⟨#[101, 114, 114, 111, 114, 32]⟩ ++ (bTextX x).toUTF8
theorem tells_boundsX (x : Int) (h0 : 0 ≤ x) (h1 : x < 9223372036854775808) (b : Bool) : Tells (.iface 8 (bValX x b)) (bToldX x) := by
  intro w
  have e1 := ta_b1 (bValX x b)
  have e2 := ta_b2 (bValX x b)
  have e3 := meth_bX x b
  have e4 := call_bX x h0 h1 b
  have hs : (bTextX x).toUTF8.size ≤ 100000 := (bTextX_small x h0 h1).1
  unfold strVal at e4
  unfold bToldX
  generalize (bTextX x).toUTF8 = T at e4 hs ⊢
  go_enter Tryd.func24, Tryd.ntmps24
  go_wp2
  go_ret
  exact ⟨rfl, Below.refl _ _⟩
theorem idx_nil (x : Int) (h0 : 0 ≤ x) (h1 : x < 9223372036854775808) (w : World) : ∃ b j, (Instr.indexAt 25 (.slice none 0 0) (.int .i64 x)).run Tryd.prog w = .halt (.panic (.iface 8 (bValX x b))) (w.drewN j) := by
  have hw : IntKind.i64.wrap x = x := by simp [IntKind.wrap, IntKind.bits, IntKind.signed]; omega
  have hu : Tryd.prog.underlying 25 = some (.slice (Tryd.prog.elem 25)) := by kernel_rfl
  have hr : Tryd.prog.rt.boundsError = 8 := by kernel_rfl
  have e : (Instr.indexAt 25 (.slice none 0 0) (.int .i64 x)).run Tryd.prog w = (boundsPanic .i64 x 0 .index).run Tryd.prog w := by
    simp [Instr.indexAt, run_underlying hu, asIntOf]
  rw [e]
  unfold boundsPanic bValX
  rw [hw]
  split
  · refine ⟨((Question.extern "runtime.boundsError.signed" 2).cut (w.tape w.drawn (Question.extern "runtime.boundsError.signed" 2))) == 1, 1, ?_⟩
    simp [runtimePanic, goPanic, go_sem, hr]
    exact ⟨rfl, rfl⟩
  · refine ⟨true, 0, ?_⟩
    simp [runtimePanic, goPanic, go_sem, hr]
    exact ⟨rfl, rfl⟩
theorem work11 (a q : Nat) (s : ByteArray) (hs : s.size ≤ 140737488351232) (w : World) (hq : w.heap[q]? = some boxNone) (h : w.heap[a]? = some (boxS s)) :
    Calls Tryd.prog 11 #[.pointer (some ⟨q, 0, none⟩), .pointer (some ⟨a, 0, none⟩)] w fun e w' => (∃ pv, Tells (.iface 8 pv) (bToldX s.size) ∧ e = .panicked [{ v := .iface 8 pv, recovered := false }]) ∧ ∃ k, w.drewN k = w' := by
  have c := blk_cell h 0
  have c2 := blk_cell hq 0
  obtain ⟨b, j, hx⟩ := idx_nil s.size (by omega) (by omega) w
  clear h hq
  go_enter Tryd.func11, Tryd.ntmps11
  go_wp2
  exact ⟨rfl, ⟨_, tells_boundsX s.size (by omega) (by omega) b, rfl⟩, j, rfl⟩
theorem told_prefix (x : Int) (h0 : 0 ≤ x) (h1 : x < 9223372036854775808) : 6 < (bToldX x).size := by
  unfold bToldX
  have h : 15 ≤ (bTextX x).toUTF8.size := (bTextX_small x h0 h1).2
  rw [ByteArray.size_append]
  show 6 < 6 + (bTextX x).toUTF8.size
  omega
end Go.Proofs.YtmanibjmcdbgaaaDoor
