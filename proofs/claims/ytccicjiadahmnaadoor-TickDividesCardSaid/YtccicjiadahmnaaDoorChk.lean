/- checked: a reckoning that may give up. -/
import Derived.Test.YtccicjiadahmnaaDoorBase
namespace Go.Proofs.YtccicjiadahmnaaDoor.Hd
set_option linter.unusedVariables false
set_option linter.unusedSimpArgs false
open Go.RowKit

def boxN (n : Int) : Obj := .cells #[.int .i64 n] 2 (0, 0)
def boxE (n : Int) : Obj := .cells #[.int .i64 n] 23 (0, 0)
abbrev beyond : Value := .iface 49 (.agg #[])

theorem catch_idle (p q : Addr) (w : World) :
    CallsD Tryd.prog 49 #[.pointer (some p), .pointer (some q)] .returning w fun e u' w' => e = .returned (.tuple #[]) ∧ u' = .returning ∧ w' = w := by
  refine callsD_of_wpS Tryd.func49 rfl fun c₀ cs hu => ?_
  apply wpS_seq
  apply wpS_region
  simp [wpOpsS, go_sem, recoverD, hu, Tryd.ntmps49, Exit.thenS]
  simp only [Array.replicate_succ, Array.replicate_zero, List.push_toArray, List.append_toArray, List.nil_append, List.cons_append, List.setIfInBounds_toArray, List.set_cons_succ, List.set_cons_zero]
  refine wpS_of_wp ?_
  have HU := Lib.hid hu
  clear hu
  generalize hQ : (fun e a' w' => bodyPostS Tryd.prog Tryd.f49 c₀ cs _ e a' _ w') = Q
  have HQQ := Lib.hid hQ
  clear hQ
  have hn : ∀ W : World, (binOp .neq 20 .nilIface .nilIface).run Tryd.prog W = .ok (.bool false) W := fun _ => by kernel_rfl
  go_wp2
  rw [← HQQ.out]
  have hu := HU.out
  cases c₀
  simp_all [bodyPostS, results, Tryd.results49]

/-- The end of the deferred function's body, behind recover. -/
def Caught (p q : Nat) (w : World) : Exit → Act → World → Prop
  | .normal, a, w' => a.defers = [] ∧ w'.heap[p]? = some (boxN 0) ∧ w'.heap[q]? = some (boxE 4) ∧ Chg (fun k => k = p ∨ k = q) w w'
  | _, _, _ => False
theorem ta_beyond (w : World) : (Instr.typeAssert beyond 20 49 true).run Tryd.prog w = .ok (.tuple #[.agg #[], .bool true]) w := by kernel_rfl

theorem catch_beyond (p q : Nat) (n e : Int) (older : List PanicEntry) (w : World) (hp : w.heap[p]? = some (boxN n)) (hq : w.heap[q]? = some (boxE e)) :
    CallsD Tryd.prog 49 #[.pointer (some ⟨p, 0, none⟩), .pointer (some ⟨q, 0, none⟩)] (.panicking ({ v := beyond, recovered := false } :: older)) w fun e u' w' =>
      e = .returned (.tuple #[]) ∧ u' = .panicking ({ v := beyond, recovered := true } :: older) ∧ w'.heap[p]? = some (boxN 0) ∧ w'.heap[q]? = some (boxE 4) ∧ Chg (fun k => k = p ∨ k = q) w w' := by
  refine callsD_of_wpS Tryd.func49 rfl fun c₀ cs hu => ?_
  apply wpS_seq
  apply wpS_region
  simp [wpOpsS, go_sem, recoverD, hu, Tryd.ntmps49, Exit.thenS]
  simp only [Array.replicate_succ, Array.replicate_zero, List.push_toArray, List.append_toArray, List.nil_append, List.cons_append, List.setIfInBounds_toArray, List.set_cons_succ, List.set_cons_zero]
  refine wpS_of_wp ?_
  refine Code.wp_mono (Q := Caught p q w) (fun e a' w' hQ => ?_) ?_
  · cases e <;> simp only [Caught] at hQ
    obtain ⟨hd, hp', hq', hC⟩ := hQ
    exact ⟨hd, .panicking ({ v := beyond, recovered := true } :: older), rfl, .tuple #[], results_none rfl _ _ _, rfl, rfl, hp', hq', hC⟩
  clear hu
  have hn : ∀ W : World, (binOp .neq 20 beyond .nilIface).run Tryd.prog W = .ok (.bool true) W := fun _ => by kernel_rfl
  have ht := ta_beyond
  have hpq := blk_ne hp hq (by decide)
  have HP := Lib.hid (blk_alloc hp (.cells #[] 49))
  have HQ := Lib.hid (blk_alloc hq (.cells #[] 49))
  have HQ2 := Lib.hid (blk_far HQ.out (p := ⟨p, 0, none⟩) (Ne.symm hpq) (.int .i64 0))
  have p0 := blk_cell HP.out 0
  have fp := blk_frozen HP.out 0
  have q0 := blk_cell HQ2.out 0
  have fq := blk_frozen HQ2.out 0
  clear hp hq
  go_wp2
  exact ⟨rfl, blk_far (blk_set HP.out 0 _) (p := ⟨q, 0, none⟩) hpq _, blk_set HQ2.out 0 _, (((Chg.refl _ w).alloc _).setCell (p := ⟨p, 0, none⟩) (.inl (.inl rfl)) _).setCell (p := ⟨q, 0, none⟩) (.inl (.inr rfl)) _⟩

theorem two_top (w : World) (o1 o2 : Obj) : ((w.alloc o1).alloc o2).heap[w.heap.size + 1]? = some o2 := by
  have h := heap_alloc_new (w.alloc o1) o2
  simpa using h
/-- A function value that is known. -/
structure KnownI (G : FuncId) (cap : Array Value) : Prop where
  call : ∀ W : World, (callFunc G cap).run Tryd.prog W = .ok (.enter G cap) W

/-- The reckoning ends with a number. -/
theorem checked_ok (G : FuncId) (cap : Array Value) (K : KnownI G cap) (n : Int) (w : World)
    (hG : ∀ W, Below w.heap.size w W → Calls Tryd.prog G cap W fun e w' => e = .returned (.int .i64 n) ∧ Below W.heap.size W w') :
    Calls Tryd.prog 30 #[.func (.func G) #[] cap] w fun e w' => e = .returned (.tuple #[.int .i64 n, .int .i64 0]) ∧ Below w.heap.size w w' := by
  have hmf := mkf
  have hcl := K.call
  have HG := Lib.hid hG
  clear hG
  go_enter_defers Tryd.func30, Tryd.ntmps30
  go_wp2_with fail
  have hb0 : Below w.heap.size w ((w.alloc (boxN 0)).alloc (boxE 0)) := ((Below.refl w.heap.size w).alloc (Nat.le_refl _) _).alloc (by simp) _
  refine (HG.out _ hb0).mono ?_
  rintro e w1 ⟨rfl, hB⟩
  have hn1 := blk_below (blk_alloc (heap_alloc_new w (boxN 0)) (boxE 0)) hB (by simp; omega)
  have he1 := blk_below (two_top w (boxN 0) (boxE 0)) hB (by simp)
  have HN := Lib.hid hn1
  have HE := Lib.hid (blk_far he1 (p := ⟨w.heap.size, 0, none⟩) (by simp) (.int .i64 n))
  have HB := Lib.hid (hb0.trans (hB.mono (by simp; omega)))
  have c0 := blk_cell HN.out 0
  have f0 := blk_frozen HN.out 0
  have c1 := blk_cell HE.out 0
  have f1 := blk_frozen HE.out 0
  have r0 := blk_cell (blk_far (blk_set HN.out 0 (.int .i64 n)) (p := ⟨w.heap.size + 1, 0, none⟩) (by simp) (.int .i64 0)) 0
  have r1 := blk_cell (blk_set HE.out 0 (.int .i64 0)) 0
  clear hn1 he1 hB hb0
  go_wp2
  refine leaves_cons (f := 49) (args := #[.pointer (some ⟨w.heap.size, 0, none⟩), .pointer (some ⟨w.heap.size + 1, 0, none⟩)]) (by simp) (by simp [go_sem]) ?_
  refine (catch_idle _ _ _).mono ?_
  rintro e u' w'' ⟨rfl, rfl, rfl⟩
  simp at r0 r1
  simp [Leaves, settle, results, Tryd.results30, go_sem, r0, r1]
  refine ⟨HB.out.os, HB.out.tape, HB.out.output, by have := HB.out.size; simpa [World.setCell] using this, fun k hk => ?_⟩
  exact (Below.heap_setCell _ _ _ _ (by simp; omega)).trans ((Below.heap_setCell _ _ _ _ (by simp; omega)).trans (HB.out.block k hk))

/-- The reckoning gives up. -/
theorem checked_beyond (G : FuncId) (cap : Array Value) (K : KnownI G cap) (w : World)
    (hG : ∀ W, Below w.heap.size w W → Calls Tryd.prog G cap W fun e w' => e = .panicked [{ v := beyond, recovered := false }] ∧ Below W.heap.size W w') :
    Calls Tryd.prog 30 #[.func (.func G) #[] cap] w fun e w' => e = .returned (.tuple #[.int .i64 0, .int .i64 4]) ∧ Below w.heap.size w w' := by
  have hmf := mkf
  have hcl := K.call
  have HG := Lib.hid hG
  clear hG
  go_enter_defers Tryd.func30, Tryd.ntmps30
  go_wp2_with fail
  have hb0 : Below w.heap.size w ((w.alloc (boxN 0)).alloc (boxE 0)) := ((Below.refl w.heap.size w).alloc (Nat.le_refl _) _).alloc (by simp) _
  refine (HG.out _ hb0).mono ?_
  rintro e w1 ⟨rfl, hB⟩
  have hn1 := blk_below (blk_alloc (heap_alloc_new w (boxN 0)) (boxE 0)) hB (by simp; omega)
  have he1 := blk_below (two_top w (boxN 0) (boxE 0)) hB (by simp)
  have hB1 := hb0.trans (hB.mono (by simp; omega))
  refine leaves_cons (f := 49) (args := #[.pointer (some ⟨w.heap.size, 0, none⟩), .pointer (some ⟨w.heap.size + 1, 0, none⟩)]) (by simp) (by simp [go_sem]) ?_
  refine (catch_beyond w.heap.size (w.heap.size + 1) 0 0 [] w1 hn1 he1).mono ?_
  rintro e u' w'' ⟨rfl, rfl, hn2, he2, hC⟩
  have r0 := blk_cell hn2 0
  have r1 := blk_cell he2 0
  simp at r0 r1
  have H := Lib.hid (hB1.trans (hC.toBelow hB1.size (fun k hk h => by omega)))
  clear hn1 he1 hn2 he2 hC hB hb0 hB1
  simp [Leaves, settle, results, Tryd.results30, go_sem, r0, r1]
  exact H.out
end Go.Proofs.YtccicjiadahmnaaDoor.Hd
