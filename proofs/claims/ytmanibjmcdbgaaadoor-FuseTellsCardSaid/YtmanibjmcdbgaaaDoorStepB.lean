/- A work that goes out of range, behind Do. -/
import Derived.Test.YtmanibjmcdbgaaaDoorStep
import Derived.Test.YtmanibjmcdbgaaaDoorBounds
namespace Go.Proofs.YtmanibjmcdbgaaaDoor
set_option linter.unusedVariables false
set_option linter.unusedSimpArgs false
open Go.RowKit

def boxNone : Obj := .cells #[.slice none 0 0] 25 (0, 0)
theorem known39 (a : Addr) : Known 35 #[.pointer (some a)] := ⟨fun _ => by kernel_rfl, fun _ => by kernel_rfl⟩
theorem do_panics_any (g : Nat) (m c : Int) (l : ByteArray) (w : World) (hF : IsF w g m c l) (hb : c ≤ m) (G : FuncId) (cap : Array Value) (Post : World → Prop) (t : TypeId) (s : ByteArray)
    (hne : ∀ W : World, (binOp .eql 1 (.func (.func G) #[] cap) .nilFunc).run Tryd.prog W = .ok (.bool false) W)
    (hcall : ∀ W : World, (callFunc G cap).run Tryd.prog W = .ok (.enter G cap) W)
    (hwork : ∀ n, Calls Tryd.prog G cap ((atWork w (some ⟨g, 0, none⟩)).drewN n) fun e w' => ∃ pv, Tells (.iface t pv) s ∧ e = .panicked [{ v := .iface t pv, recovered := false }] ∧ Post w')
    (c' : Int) (l' : ByteArray) (c0 : 0 ≤ c') (c1 : c' ≤ 4611686018427387904)
    (hkeep : ∀ w', Post w' → w'.heap[w.heap.size]? = some (boxF g) ∧ w'.heap[w.heap.size + 1]? = some (boxB false) ∧ IsF w' g m c' l') :
    Calls Tryd.prog 7 #[.pointer (some ⟨g, 0, none⟩), .func (.func G) #[] cap] w fun e w' => e = .returned (.bool false) ∧
      ∃ w1, Post w1 ∧ IsF w' g m (c' + 1) s ∧ Chg (fun k => k = g ∨ k = w.heap.size + 1) w1 w' := by
  have HB := Lib.hid (fun W (h : IsF W g m c l) => blown_calls g m c l W h false (by simp; omega))
  have HF := Lib.hid (show IsF ((w.alloc (.cells #[.pointer (some ⟨g, 0, none⟩)] 23)).alloc (.cells #[.bool false] 4)) g m c l from blk_alloc (blk_alloc hF _) _)
  have HW := Lib.hid hwork
  have HK := Lib.hid hkeep
  clear hF hb hwork hkeep
  unfold atWork at HW
  have hmf := mkf
  go_enter_defers Tryd.func7, Tryd.ntmps7
  go_wp2_with fail
  refine (HB.out _ HF.out).mono ?_
  rintro e w1 ⟨rfl, n, rfl⟩
  go_wp2_with fail
  refine (HW.out _).mono ?_
  rintro e w2 ⟨pv, hT, rfl, hP⟩
  have HT := Lib.hid hT
  clear hT
  have HQ := Lib.hid (HK.out _ hP)
  have HP := Lib.hid hP
  clear hP
  refine leaves_cons (f := 23) (args := #[.pointer (some ⟨w.heap.size, 0, none⟩), .pointer (some ⟨w.heap.size + 1, 0, none⟩)]) (by simp) (by simp [go_sem]) ?_
  refine (catch_panicking w.heap.size (w.heap.size + 1) g m c' l' s false t pv [] w2 HQ.out.1 HQ.out.2.1 HQ.out.2.2 c0 c1 HT.out).mono ?_
  rintro e u' w'' ⟨rfl, rfl, hF', hq', hC⟩
  have qr := blk_cell hq' 0
  simp at qr
  have HF' := Lib.hid hF'
  have HC := Lib.hid hC
  clear hF' hC hq'
  simp [Leaves, settle, results, Tryd.results7, go_sem, qr]
  exact ⟨w2, HP.out, HF'.out, HC.out⟩

theorem work39 (q : Nat) (w : World) (hq : w.heap[q]? = some boxNone) : Calls Tryd.prog 35 #[.pointer (some ⟨q, 0, none⟩)] w fun e w' => (∃ pv, Tells (.iface 8 pv) bTold ∧ e = .panicked [{ v := .iface 8 pv, recovered := false }] ∧ w.drewN 1 = w') := by
  have q0 := blk_cell hq 0
  clear hq
  go_enter Tryd.func35, Tryd.ntmps35
  go_wp2
  exact ⟨rfl, _, tells_bounds _, rfl, rfl⟩
theorem next_top (w : World) (o1 o2 : Obj) : ((w.alloc o1).alloc o2).heap[w.heap.size + 1]? = some o2 := by
  have h := heap_alloc_new (w.alloc o1) o2
  simpa using h
theorem do_step_all (n : Int) (hn : 0 ≤ n ∧ n ≤ 7 ∧ n ≠ 6) (p g : Nat) (m c : Int) (l : ByteArray) (w : World) (hp : w.heap[p]? = some (boxF g)) (hq : w.heap[p + 1]? = some boxNone) (hF : IsF w g m c l) (c0 : 0 ≤ c) (c1 : c ≤ 4611686018427387904) :
    Calls Tryd.prog 7 #[.pointer (some ⟨g, 0, none⟩), wfun n p] w fun e w' => e = .returned (.bool (okB m c n)) ∧ (∃ l', IsF w' g m (cTo m c n) l') ∧ Chg (fun k => k = g) w w' := by
  by_cases h3 : n = 3
  · subst h3
    by_cases hb : m < c
    · have e1 : okB m c 3 = false := by simp [okB]
      have e2 : cTo m c 3 = c := by simp [cTo, hb]
      rw [e1, e2]
      exact (do_blown g m c l w hF hb _).mono fun e w' ⟨he, hB⟩ => ⟨he, ⟨l, blk_below hF hB (blk_lt hF)⟩, Chg.ofBelow hB⟩
    · have hb' : c ≤ m := by omega
      have hat : ∀ n, Chg (fun _ => False) w ((atWork w (some ⟨g, 0, none⟩)).drewN n) := fun n => atWork_chg w (some ⟨g, 0, none⟩) n _
      simp [wfun, okB, cTo, hb]
      refine (do_panics_any g m c l w hF hb' _ _ (fun w' => ∃ n, (atWork w (some ⟨g, 0, none⟩)).drewN n = w') _ bTold (known39 ⟨p + 1, 0, none⟩).ne (known39 ⟨p + 1, 0, none⟩).call (fun n => (work39 (p + 1) _ ((hat n).blk hq (fun h => h))).mono fun e w' ⟨pv, hT, he, hw⟩ => ⟨pv, hT, he, n + 1, hw⟩) c l c0 c1 ?_).mono ?_
      · rintro w' ⟨n, rfl⟩
        exact ⟨atWork_p w g n, atWork_q w _ n, (hat n).blk hF (fun h => h)⟩
      · rintro e w' ⟨rfl, w1, ⟨n, rfl⟩, hF', hC⟩
        exact ⟨rfl, ⟨_, hF'⟩, chg_join (hat n) hC (fun _ h => h.elim)⟩
  · exact do_step n h3 hn p g m c l w hp hF c0 c1
end Go.Proofs.YtmanibjmcdbgaaaDoor
