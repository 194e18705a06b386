/- (*Fuse).Do, whatever the work is. -/
import Derived.Test.YtmanibjmcdbgaaaDoorDo
namespace Go.Proofs.YtmanibjmcdbgaaaDoor
set_option linter.unusedVariables false
set_option linter.unusedSimpArgs false
open Go.RowKit

theorem mkf (fn : Fn) (first cap : Array Value) (w : World) : (Instr.makeFunc fn first cap).run Tryd.prog w = .ok (.func fn first cap) w := rfl

/-- The world in which the work is called. -/
def atWork (w : World) (f : Option Addr) : World := (w.alloc (.cells #[.pointer f] 23)).alloc (.cells #[.bool false] 4)

theorem do_blown (g : Nat) (m c : Int) (l : ByteArray) (w : World) (hF : IsF w g m c l) (hb : m < c) (fv : Value) :
    Calls Tryd.prog 7 #[.pointer (some ⟨g, 0, none⟩), fv] w fun e w' => e = .returned (.bool false) ∧ Below w.heap.size w w' := by
  have HB := Lib.hid (fun W (h : IsF W g m c l) => blown_calls g m c l W h true (by simp [hb]))
  have HF := Lib.hid (show IsF ((w.alloc (.cells #[.pointer (some ⟨g, 0, none⟩)] 23)).alloc (.cells #[.bool false] 4)) g m c l from blk_alloc (blk_alloc hF _) _)
  clear hF hb
  go_enter_defers Tryd.func7, Tryd.ntmps7
  go_wp2_with fail
  refine (HB.out _ HF.out).mono ?_
  rintro e w1 ⟨rfl, n, rfl⟩
  go_wp2
  simp [bodyPostD, Leaves, results, Tryd.results7, go_sem]
  exact (((((Below.refl w.heap.size w).alloc (Nat.le_refl _) _).alloc (by simp) _).mono (Nat.le_refl _)).trans ⟨rfl, rfl, rfl, by simp [World.setCell], fun k hk => Below.heap_setCell _ _ _ _ (by simp; omega)⟩)
theorem do_returns (g : Nat) (m c : Int) (l : ByteArray) (w : World) (hF : IsF w g m c l) (hb : c ≤ m) (G : FuncId) (cap : Array Value) (Post : World → Prop)
    (hne : ∀ W : World, (binOp .eql 1 (.func (.func G) #[] cap) .nilFunc).run Tryd.prog W = .ok (.bool false) W)
    (hcall : ∀ W : World, (callFunc G cap).run Tryd.prog W = .ok (.enter G cap) W)
    (hwork : ∀ n, Calls Tryd.prog G cap ((atWork w (some ⟨g, 0, none⟩)).drewN n) fun e w' => e = .returned (.tuple #[]) ∧ Post w')
    (hkeep : ∀ w', Post w' → w'.heap[w.heap.size + 1]? = some (boxB false)) :
    Calls Tryd.prog 7 #[.pointer (some ⟨g, 0, none⟩), .func (.func G) #[] cap] w fun e w' => e = .returned (.bool true) ∧ ∃ w1, Post w1 ∧ w1.setCell ⟨w.heap.size + 1, 0, none⟩ (.bool true) = w' := by
  have HB := Lib.hid (fun W (h : IsF W g m c l) => blown_calls g m c l W h false (by simp; omega))
  have HF := Lib.hid (show IsF ((w.alloc (.cells #[.pointer (some ⟨g, 0, none⟩)] 23)).alloc (.cells #[.bool false] 4)) g m c l from blk_alloc (blk_alloc hF _) _)
  have HW := Lib.hid hwork
  have HK := Lib.hid hkeep
  clear hF hb hwork hkeep
  unfold atWork at HW
  have hmf := mkf
  go_enter_defers Tryd.func7, Tryd.ntmps7
  go_wp2_with fail
  refine (HB.out _ HF.out).mono ?_
  rintro e w1 ⟨rfl, n, rfl⟩
  go_wp2_with fail
  refine (HW.out _).mono ?_
  rintro e w2 ⟨rfl, hP⟩
  have HQ := Lib.hid (HK.out _ hP)
  have HP := Lib.hid hP
  clear hP
  have q0 := blk_cell HQ.out 0
  have qf := blk_frozen HQ.out 0
  have qr := blk_cell (blk_set HQ.out 0 (.bool true)) 0
  go_wp2
  refine leaves_cons (f := 23) (args := #[.pointer (some ⟨w.heap.size, 0, none⟩), .pointer (some ⟨w.heap.size + 1, 0, none⟩)]) (by simp) (by simp [go_sem]) ?_
  refine (catch_idle _ _ _).mono ?_
  rintro e u' w'' ⟨rfl, rfl, rfl⟩
  simp at qr
  simp [Leaves, settle, results, Tryd.results7, go_sem, qr]
  exact ⟨w2, HP.out, rfl⟩

theorem do_panics (g : Nat) (m c : Int) (l : ByteArray) (w : World) (hF : IsF w g m c l) (hb : c ≤ m) (G : FuncId) (cap : Array Value) (Post : World → Prop) (t : TypeId) (pv : Value) (s : ByteArray) (hT : Tells (.iface t pv) s)
    (hne : ∀ W : World, (binOp .eql 1 (.func (.func G) #[] cap) .nilFunc).run Tryd.prog W = .ok (.bool false) W)
    (hcall : ∀ W : World, (callFunc G cap).run Tryd.prog W = .ok (.enter G cap) W)
    (hwork : ∀ n, Calls Tryd.prog G cap ((atWork w (some ⟨g, 0, none⟩)).drewN n) fun e w' => e = .panicked [{ v := .iface t pv, recovered := false }] ∧ Post w')
    (c' : Int) (l' : ByteArray) (c0 : 0 ≤ c') (c1 : c' ≤ 4611686018427387904)
    (hkeep : ∀ w', Post w' → w'.heap[w.heap.size]? = some (boxF g) ∧ w'.heap[w.heap.size + 1]? = some (boxB false) ∧ IsF w' g m c' l') :
    Calls Tryd.prog 7 #[.pointer (some ⟨g, 0, none⟩), .func (.func G) #[] cap] w fun e w' => e = .returned (.bool false) ∧
      ∃ w1, Post w1 ∧ IsF w' g m (c' + 1) s ∧ Chg (fun k => k = g ∨ k = w.heap.size + 1) w1 w' := by
  have HB := Lib.hid (fun W (h : IsF W g m c l) => blown_calls g m c l W h false (by simp; omega))
  have HF := Lib.hid (show IsF ((w.alloc (.cells #[.pointer (some ⟨g, 0, none⟩)] 23)).alloc (.cells #[.bool false] 4)) g m c l from blk_alloc (blk_alloc hF _) _)
  have HW := Lib.hid hwork
  have HK := Lib.hid hkeep
  have HT := Lib.hid hT
  clear hF hb hwork hkeep hT
  unfold atWork at HW
  have hmf := mkf
  go_enter_defers Tryd.func7, Tryd.ntmps7
  go_wp2_with fail
  refine (HB.out _ HF.out).mono ?_
  rintro e w1 ⟨rfl, n, rfl⟩
  go_wp2_with fail
  refine (HW.out _).mono ?_
  rintro e w2 ⟨rfl, hP⟩
  have HQ := Lib.hid (HK.out _ hP)
  have HP := Lib.hid hP
  clear hP
  refine leaves_cons (f := 23) (args := #[.pointer (some ⟨w.heap.size, 0, none⟩), .pointer (some ⟨w.heap.size + 1, 0, none⟩)]) (by simp) (by simp [go_sem]) ?_
  refine (catch_panicking w.heap.size (w.heap.size + 1) g m c' l' s false t pv [] w2 HQ.out.1 HQ.out.2.1 HQ.out.2.2 c0 c1 HT.out).mono ?_
  rintro e u' w'' ⟨rfl, rfl, hF', hq', hC⟩
  have qr := blk_cell hq' 0
  simp at qr
  have HF' := Lib.hid hF'
  have HC := Lib.hid hC
  clear hF' hC hq'
  simp [Leaves, settle, results, Tryd.results7, go_sem, qr]
  exact ⟨w2, HP.out, HF'.out, HC.out⟩

theorem do_nil (fv : Value) (w : World) :
    Calls Tryd.prog 7 #[.pointer none, fv] w fun e w' => e = .returned (.bool false) ∧ Below w.heap.size w w' := by
  go_enter_defers Tryd.func7, Tryd.ntmps7
  go_wp2_with fail
  refine (blown_nil _).mono ?_
  rintro e w1 ⟨rfl, n, rfl⟩
  go_wp2
  simp [bodyPostD, Leaves, results, Tryd.results7, go_sem]
  exact (((((Below.refl w.heap.size w).alloc (Nat.le_refl _) _).alloc (by simp) _).mono (Nat.le_refl _)).trans ⟨rfl, rfl, rfl, by simp [World.setCell], fun k hk => Below.heap_setCell _ _ _ _ (by simp; omega)⟩)

theorem do_none (g : Nat) (m c : Int) (l : ByteArray) (w : World) (hF : IsF w g m c l) (hb : c ≤ m) :
    Calls Tryd.prog 7 #[.pointer (some ⟨g, 0, none⟩), .nilFunc] w fun e w' => e = .returned (.bool false) ∧ Below w.heap.size w w' := by
  have HB := Lib.hid (fun W (h : IsF W g m c l) => blown_calls g m c l W h false (by simp; omega))
  have HF := Lib.hid (show IsF ((w.alloc (.cells #[.pointer (some ⟨g, 0, none⟩)] 23)).alloc (.cells #[.bool false] 4)) g m c l from blk_alloc (blk_alloc hF _) _)
  clear hF hb
  have hnil : ∀ w : World, (binOp .eql 1 .nilFunc .nilFunc).run Tryd.prog w = .ok (.bool true) w := fun _ => by kernel_rfl
  go_enter_defers Tryd.func7, Tryd.ntmps7
  go_wp2_with fail
  refine (HB.out _ HF.out).mono ?_
  rintro e w1 ⟨rfl, n, rfl⟩
  go_wp2
  simp [bodyPostD, Leaves, results, Tryd.results7, go_sem]
  exact (((((Below.refl w.heap.size w).alloc (Nat.le_refl _) _).alloc (by simp) _).mono (Nat.le_refl _)).trans ⟨rfl, rfl, rfl, by simp [World.setCell], fun k hk => Below.heap_setCell _ _ _ _ (by simp; omega)⟩)
end Go.Proofs.YtmanibjmcdbgaaaDoor
