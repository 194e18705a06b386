/- Do, where what the panic tells leans on what stands in memory. -/
import Derived.Test.YtmanibjmcdbgaaaDoorStepB
namespace Go.Proofs.YtmanibjmcdbgaaaDoor
set_option linter.unusedVariables false
set_option linter.unusedSimpArgs false
open Go.RowKit

/-- What a panic's value tells in each world that differs from w at most at the fuse. -/
def TellsIn (g : Nat) (w : World) (v : Value) (s : ByteArray) : Prop := ∀ W : World, (∀ k, k < w.heap.size → k ≠ g → W.heap[k]? = w.heap[k]?) → Calls Tryd.prog 24 #[v] W fun e w' => e = .returned (.string s) ∧ Below W.heap.size W w'
theorem Tells.at {v : Value} {s : ByteArray} (h : Tells v s) (g : Nat) (w : World) : TellsIn g w v s := fun W _ => h W

set_option maxHeartbeats 800000 in
theorem catch_in (p q g : Nat) (m c : Int) (l s : ByteArray) (b : Bool) (t : TypeId) (pv : Value) (older : List PanicEntry) (w : World)
    (hp : w.heap[p]? = some (boxF g)) (hq : w.heap[q]? = some (boxB b)) (hF : IsF w g m c l) (c0 : 0 ≤ c) (c1 : c ≤ 4611686018427387904) (hT : TellsIn g w (.iface t pv) s) :
    CallsD Tryd.prog 23 #[.pointer (some ⟨p, 0, none⟩), .pointer (some ⟨q, 0, none⟩)] (.panicking ({ v := .iface t pv, recovered := false } :: older)) w fun e u' w' =>
      e = .returned (.tuple #[]) ∧ u' = .panicking ({ v := .iface t pv, recovered := true } :: older) ∧ IsF w' g m (c + 1) s ∧ w'.heap[q]? = some (boxB false) ∧ Chg (fun k => k = g ∨ k = q) w w' := by
  refine callsD_of_wpS Tryd.func23 rfl fun c₀ cs hu => ?_
  apply wpS_seq
  apply wpS_region
  simp [wpOpsS, go_sem, recoverD, hu, Tryd.ntmps23, Exit.thenS]
  simp only [Array.replicate_succ, Array.replicate_zero, List.push_toArray, List.append_toArray, List.nil_append, List.cons_append, List.setIfInBounds_toArray, List.set_cons_succ, List.set_cons_zero]
  refine wpS_of_wp ?_
  refine Code.wp_mono (Q := Caught g q m c s w) (fun e a' w' hQ => ?_) ?_
  · cases e <;> simp only [Caught] at hQ
    obtain ⟨hd, hF', hq', hC⟩ := hQ
    exact ⟨hd, .panicking ({ v := .iface t pv, recovered := true } :: older), rfl, .tuple #[], results_none rfl _ _ _, rfl, rfl, hF', hq', hC⟩
  clear hu
  have hn : ∀ W : World, (binOp .neq 20 (.iface t pv) .nilIface).run Tryd.prog W = .ok (.bool true) W := fun _ => by kernel_rfl
  have p0 := blk_cell hp 0
  have q0 := blk_cell hq 0
  have fq := blk_frozen hq 0
  have k1 := blk_cell hF 1
  have k2 := blk_cell hF 2
  have f1 := blk_frozen hF 1
  have f2 := blk_frozen hF 2
  have hpg := blk_ne hp hF (by decide)
  have hqg := blk_ne hq hF (by decide)
  have hpq := blk_ne hp hq (by decide)
  have HP := Lib.hid hp
  have HQ := Lib.hid hq
  have HF := Lib.hid hF
  have HT := Lib.hid (fun u : Value => hT (w.setCell ⟨g, 1, none⟩ u).drew (fun k hk hn => Below.heap_setCell w ⟨g, 1, none⟩ u k hn))
  clear hp hq hF hT
  go_wp2
  have hpl := blk_lt HP.out
  have hgl := blk_lt HF.out
  have hql := blk_lt HQ.out
  go_region_with (go_at_call 24; refine (HT.out _).mono ?_; rintro e w1 ⟨rfl, hb⟩; have HB1 := Lib.hid hb; have t0 := (hb.cell (p := ⟨p, 0, none⟩) (by simpa [World.setCell] using hpl)); have t2 := (hb.cell (p := ⟨g, 2, none⟩) (by simpa [World.setCell] using hgl)); have s2 := (hb.frozen (p := ⟨g, 2, none⟩) (by simpa [World.setCell] using hgl)); simp [World.cell?_setCell_other, p0, k2, f2, hpg] at t0 t2 s2; clear hb)
  all_goals
    have tq := ((HB1.out.cell (p := ⟨q, 0, none⟩) (by simpa [World.setCell] using hql)))
    have sq := ((HB1.out.frozen (p := ⟨q, 0, none⟩) (by simpa [World.setCell] using hql)))
    simp [World.cell?_setCell_other, q0, fq, hqg] at tq sq
    go_wp2
    exact ⟨rfl, caught_end HF.out HQ.out hqg HB1.out⟩
theorem do_panics_in (g : Nat) (m c : Int) (l : ByteArray) (w : World) (hF : IsF w g m c l) (hb : c ≤ m) (G : FuncId) (cap : Array Value) (Post : World → Prop) (t : TypeId) (s : ByteArray)
    (hne : ∀ W : World, (binOp .eql 1 (.func (.func G) #[] cap) .nilFunc).run Tryd.prog W = .ok (.bool false) W)
    (hcall : ∀ W : World, (callFunc G cap).run Tryd.prog W = .ok (.enter G cap) W)
    (hwork : ∀ n, Calls Tryd.prog G cap ((atWork w (some ⟨g, 0, none⟩)).drewN n) fun e w' => ∃ pv, TellsIn g w' (.iface t pv) s ∧ e = .panicked [{ v := .iface t pv, recovered := false }] ∧ Post w')
    (c' : Int) (l' : ByteArray) (c0 : 0 ≤ c') (c1 : c' ≤ 4611686018427387904)
    (hkeep : ∀ w', Post w' → w'.heap[w.heap.size]? = some (boxF g) ∧ w'.heap[w.heap.size + 1]? = some (boxB false) ∧ IsF w' g m c' l') :
    Calls Tryd.prog 7 #[.pointer (some ⟨g, 0, none⟩), .func (.func G) #[] cap] w fun e w' => e = .returned (.bool false) ∧
      ∃ w1, Post w1 ∧ IsF w' g m (c' + 1) s ∧ Chg (fun k => k = g ∨ k = w.heap.size + 1) w1 w' := by
  have HB := Lib.hid (fun W (h : IsF W g m c l) => blown_calls g m c l W h false (by simp; omega))
  have HF := Lib.hid (show IsF ((w.alloc (.cells #[.pointer (some ⟨g, 0, none⟩)] 23)).alloc (.cells #[.bool false] 4)) g m c l from blk_alloc (blk_alloc hF _) _)
  have HW := Lib.hid hwork
  have HK := Lib.hid hkeep
  clear hF hb hwork hkeep
  unfold atWork at HW
  have hmf := mkf
  go_enter_defers Tryd.func7, Tryd.ntmps7
  go_wp2_with fail
  refine (HB.out _ HF.out).mono ?_
  rintro e w1 ⟨rfl, n, rfl⟩
  go_wp2_with fail
  refine (HW.out _).mono ?_
  rintro e w2 ⟨pv, hT, rfl, hP⟩
  have HT := Lib.hid hT
  clear hT
  have HQ := Lib.hid (HK.out _ hP)
  have HP := Lib.hid hP
  clear hP
  refine leaves_cons (f := 23) (args := #[.pointer (some ⟨w.heap.size, 0, none⟩), .pointer (some ⟨w.heap.size + 1, 0, none⟩)]) (by simp) (by simp [go_sem]) ?_
  refine (catch_in w.heap.size (w.heap.size + 1) g m c' l' s false t pv [] w2 HQ.out.1 HQ.out.2.1 HQ.out.2.2 c0 c1 HT.out).mono ?_
  rintro e u' w'' ⟨rfl, rfl, hF', hq', hC⟩
  have qr := blk_cell hq' 0
  simp at qr
  have HF' := Lib.hid hF'
  have HC := Lib.hid hC
  clear hF' hC hq'
  simp [Leaves, settle, results, Tryd.results7, go_sem, qr]
  exact ⟨w2, HP.out, HF'.out, HC.out⟩

end Go.Proofs.YtmanibjmcdbgaaaDoor
