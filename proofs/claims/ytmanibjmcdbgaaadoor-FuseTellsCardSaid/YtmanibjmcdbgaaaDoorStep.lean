/- The works of a script, and what Do does with each. -/
import Derived.Test.YtmanibjmcdbgaaaDoorDo2
import Derived.Test.YtmanibjmcdbgaaaDoorTold
namespace Go.Proofs.YtmanibjmcdbgaaaDoor
set_option linter.unusedVariables false
set_option linter.unusedSimpArgs false
open Go.RowKit

/-- A function value that is known, and captured what it captured. -/
structure Known (G : FuncId) (cap : Array Value) : Prop where
  ne : ∀ W : World, (binOp .eql 1 (.func (.func G) #[] cap) .nilFunc).run Tryd.prog W = .ok (.bool false) W
  call : ∀ W : World, (callFunc G cap).run Tryd.prog W = .ok (.enter G cap) W

theorem known36 : Known 32 #[] := ⟨fun _ => by kernel_rfl, fun _ => by kernel_rfl⟩
theorem known37 : Known 33 #[] := ⟨fun _ => by kernel_rfl, fun _ => by kernel_rfl⟩
theorem known38 : Known 34 #[] := ⟨fun _ => by kernel_rfl, fun _ => by kernel_rfl⟩
theorem known40 : Known 36 #[] := ⟨fun _ => by kernel_rfl, fun _ => by kernel_rfl⟩
theorem known41 (p : Nat) : Known 37 #[.pointer (some ⟨p, 0, none⟩)] := ⟨fun _ => by kernel_rfl, fun _ => by kernel_rfl⟩
theorem known42 : Known 38 #[] := ⟨fun _ => by kernel_rfl, fun _ => by kernel_rfl⟩

theorem work36 (w : World) : Calls Tryd.prog 32 #[] w fun e w' => e = .returned (.tuple #[]) ∧ w = w' := by
  go_enter Tryd.func32, Tryd.ntmps32
  go_wp2
  go_end0
  exact ⟨rfl, rfl⟩
def aText : ByteArray := ⟨#[97]⟩
theorem work37 (w : World) : Calls Tryd.prog 33 #[] w fun e w' => e = .panicked [{ v := .iface 9 (.string aText), recovered := false }] ∧ w = w' := by
  go_enter Tryd.func33, Tryd.ntmps33
  go_wp2
  exact ⟨rfl, rfl, rfl⟩
theorem work42 (w : World) : Calls Tryd.prog 38 #[] w fun e w' => e = .panicked [{ v := .iface 9 (.string aText), recovered := false }] ∧ w = w' := by
  go_enter Tryd.func38, Tryd.ntmps38
  go_wp2
  exact ⟨rfl, rfl, rfl⟩
theorem work38 (w : World) : Calls Tryd.prog 34 #[] w fun e w' => e = .panicked [{ v := .iface 28 (.int .i64 2), recovered := false }] ∧ w = w' := by
  go_enter Tryd.func34, Tryd.ntmps34
  go_wp2
  exact ⟨rfl, rfl, rfl⟩
theorem work40 (w : World) : Calls Tryd.prog 36 #[] w fun e w' => e = .panicked [{ v := .iface 3 (.int .i64 7), recovered := false }] ∧ w = w' := by
  go_enter Tryd.func36, Tryd.ntmps36
  go_wp2
  exact ⟨rfl, rfl, rfl⟩

theorem atWork_chg (w : World) (f : Option Addr) (n : Nat) (S : Nat → Prop) : Chg S w ((atWork w f).drewN n) := (((Chg.refl S w).alloc _).alloc _).drewN n
theorem atWork_p (w : World) (g n : Nat) : ((atWork w (some ⟨g, 0, none⟩)).drewN n).heap[w.heap.size]? = some (boxF g) := blk_alloc (heap_alloc_new w _) _
theorem atWork_q (w : World) (f : Option Addr) (n : Nat) : ((atWork w f).drewN n).heap[w.heap.size + 1]? = some (boxB false) := by
  have h := heap_alloc_new (w.alloc (.cells #[.pointer f] 23)) (.cells #[.bool false] 4)
  rw [show (w.alloc (.cells #[.pointer f] 23)).heap.size = w.heap.size + 1 by simp] at h
  exact h

theorem chg_join {S : Nat → Prop} {a b c : World} {g : Nat} (h : Chg S a b) (k : Chg (fun k => k = g ∨ k = a.heap.size + 1) b c) (hs : ∀ k, S k → k = g) : Chg (fun k => k = g) a c :=
  ⟨k.os.trans h.os, k.tape.trans h.tape, k.output.trans h.output, Nat.le_trans h.size k.size, fun i hi hn =>
    (k.block i (Nat.lt_of_lt_of_le hi h.size) (fun e => by rcases e with e | e; exact hn e; omega)).trans (h.block i hi (fun e => hn (hs _ e)))⟩

/-- A work that only panics, by its value. -/
theorem do_throws (g : Nat) (m c : Int) (l : ByteArray) (w : World) (hF : IsF w g m c l) (hb : c ≤ m) (c0 : 0 ≤ c) (c1 : c ≤ 4611686018427387904) (G : FuncId) (cap : Array Value) (K : Known G cap) (t : TypeId) (pv : Value) (s : ByteArray) (hT : Tells (.iface t pv) s)
    (hw : ∀ W : World, Calls Tryd.prog G cap W fun e w' => e = .panicked [{ v := .iface t pv, recovered := false }] ∧ W = w') :
    Calls Tryd.prog 7 #[.pointer (some ⟨g, 0, none⟩), .func (.func G) #[] cap] w fun e w' => e = .returned (.bool false) ∧ IsF w' g m (c + 1) s ∧ Chg (fun k => k = g) w w' := by
  have hg := blk_lt hF
  refine (do_panics g m c l w hF hb G cap (fun w' => ∃ n, w' = (atWork w (some ⟨g, 0, none⟩)).drewN n) t pv s hT K.ne K.call (fun n => (hw _).mono fun e w' ⟨he, hw⟩ => ⟨he, n, hw.symm⟩) c l c0 c1 ?_).mono ?_
  · rintro w' ⟨n, rfl⟩
    exact ⟨atWork_p w g n, atWork_q w _ n, (atWork_chg w (some ⟨g, 0, none⟩) n (fun _ => False)).blk hF (fun h => h)⟩
  · rintro e w' ⟨rfl, w1, ⟨n, rfl⟩, hF', hC⟩
    exact ⟨rfl, hF', chg_join (atWork_chg w (some ⟨g, 0, none⟩) n (fun _ => False)) hC (fun _ h => h.elim)⟩

/-- A work that returns, turning at most the fuse. -/
theorem do_works (g : Nat) (m c c' : Int) (l : ByteArray) (w : World) (hF : IsF w g m c l) (hb : c ≤ m) (G : FuncId) (cap : Array Value) (K : Known G cap)
    (hw : ∀ n, Calls Tryd.prog G cap ((atWork w (some ⟨g, 0, none⟩)).drewN n) fun e w' => e = .returned (.tuple #[]) ∧ (∃ l', IsF w' g m c' l') ∧ Chg (fun k => k = g) ((atWork w (some ⟨g, 0, none⟩)).drewN n) w') :
    Calls Tryd.prog 7 #[.pointer (some ⟨g, 0, none⟩), .func (.func G) #[] cap] w fun e w' => e = .returned (.bool true) ∧ (∃ l', IsF w' g m c' l') ∧ Chg (fun k => k = g) w w' := by
  have hg := blk_lt hF
  refine (do_returns g m c l w hF hb G cap (fun w' => (∃ l', IsF w' g m c' l') ∧ ∃ n, Chg (fun k => k = g) ((atWork w (some ⟨g, 0, none⟩)).drewN n) w') K.ne K.call (fun n => (hw n).mono fun e w' ⟨he, h1, h2⟩ => ⟨he, h1, n, h2⟩) ?_).mono ?_
  · rintro w' ⟨_, n, hC⟩
    exact hC.blk (atWork_q w _ n) (by omega)
  · rintro e w' ⟨rfl, w1, ⟨⟨l', hF'⟩, n, hC⟩, rfl⟩
    refine ⟨rfl, ⟨l', blk_far hF' (p := ⟨w.heap.size + 1, 0, none⟩) (by simp; omega) _⟩, ?_⟩
    exact ((atWork_chg w (some ⟨g, 0, none⟩) n (fun k => k = g)).trans hC).setCell (p := ⟨w.heap.size + 1, 0, none⟩) (.inr (by simp)) _

theorem work41 (p g : Nat) (m c : Int) (l : ByteArray) (w : World) (hp : w.heap[p]? = some (boxF g)) (hF : IsF w g m c l) (hb : c ≤ m) (c0 : 0 ≤ c) (c1 : c ≤ 4611686018427387904) :
    Calls Tryd.prog 37 #[.pointer (some ⟨p, 0, none⟩)] w fun e w' => e = .returned (.tuple #[]) ∧ (∃ l', IsF w' g m (c + 1) l') ∧ Chg (fun k => k = g) w w' := by
  have HD := Lib.hid (do_throws g m c l w hF hb c0 c1 38 #[] known42 _ _ aText (tells_string aText) work42)
  have p0 := blk_cell hp 0
  clear hp hF
  go_enter Tryd.func37, Tryd.ntmps37
  go_wp2_with fail
  refine HD.out.mono ?_
  rintro e w1 ⟨rfl, hF', hC⟩
  have HF := Lib.hid hF'
  have HC := Lib.hid hC
  clear hF' hC
  go_wp2
  go_end0
  exact ⟨rfl, ⟨_, HF.out⟩, HC.out⟩

/-- What the work of a number is; p: the block that holds the fuse's pointer. -/
def wfun (n : Int) (p : Nat) : Value :=
  if n = 0 then .func (.func 32) #[] #[] else if n = 1 then .func (.func 33) #[] #[] else if n = 2 then .func (.func 34) #[] #[]
  else if n = 3 then .func (.func 35) #[] #[.pointer (some ⟨p + 1, 0, none⟩)] else if n = 4 then .func (.func 36) #[] #[] else if n = 7 then .func (.func 37) #[] #[.pointer (some ⟨p, 0, none⟩)] else .nilFunc
def okB (m c n : Int) : Bool := decide (c ≤ m) && (decide (n = 0) || decide (n = 7))
def cTo (m c n : Int) : Int := if m < c ∨ n = 5 ∨ n = 0 then c else c + 1

theorem do_step (n : Int) (h3 : n ≠ 3) (hn : 0 ≤ n ∧ n ≤ 7 ∧ n ≠ 6) (p g : Nat) (m c : Int) (l : ByteArray) (w : World) (hp : w.heap[p]? = some (boxF g)) (hF : IsF w g m c l) (c0 : 0 ≤ c) (c1 : c ≤ 4611686018427387904) :
    Calls Tryd.prog 7 #[.pointer (some ⟨g, 0, none⟩), wfun n p] w fun e w' => e = .returned (.bool (okB m c n)) ∧ (∃ l', IsF w' g m (cTo m c n) l') ∧ Chg (fun k => k = g) w w' := by
  by_cases hb : m < c
  · have e1 : okB m c n = false := by simp [okB]; omega
    have e2 : cTo m c n = c := by simp [cTo, hb]
    rw [e1, e2]
    exact (do_blown g m c l w hF hb _).mono fun e w' ⟨he, hB⟩ => ⟨he, ⟨l, blk_below hF hB (blk_lt hF)⟩, Chg.ofBelow hB⟩
  · have hb' : c ≤ m := by omega
    have one : ∀ (G : FuncId) (cap : Array Value) (K : Known G cap) (t : TypeId) (pv : Value) (s : ByteArray) (hT : Tells (.iface t pv) s) (hw : ∀ W : World, Calls Tryd.prog G cap W fun e w' => e = .panicked [{ v := .iface t pv, recovered := false }] ∧ W = w'),
        Calls Tryd.prog 7 #[.pointer (some ⟨g, 0, none⟩), .func (.func G) #[] cap] w fun e w' => e = .returned (.bool false) ∧ (∃ l', IsF w' g m (c + 1) l') ∧ Chg (fun k => k = g) w w' :=
      fun G cap K t pv s hT hw => (do_throws g m c l w hF hb' c0 c1 G cap K t pv s hT hw).mono fun e w' ⟨a, b, d⟩ => ⟨a, ⟨_, b⟩, d⟩
    rcases (show n = 0 ∨ n = 1 ∨ n = 2 ∨ n = 4 ∨ n = 5 ∨ n = 7 from by omega) with rfl | rfl | rfl | rfl | rfl | rfl
    · simp [wfun, okB, cTo, hb']
      exact do_works g m c c l w hF hb' _ _ known36 fun k => (work36 _).mono fun e w' ⟨he, hw⟩ => by subst hw; exact ⟨he, ⟨l, (atWork_chg w _ k (fun _ => False)).blk hF (fun h => h)⟩, Chg.refl _ _⟩
    · simp [wfun, okB, cTo, hb]
      exact one _ _ known37 _ _ _ (tells_string aText) work37
    · simp [wfun, okB, cTo, hb]
      exact one _ _ known38 _ _ _ tells_errno2 work38
    · simp [wfun, okB, cTo, hb]
      exact one _ _ known40 _ _ _ (tells_int 7) work40
    · simp [wfun, okB, cTo]
      exact (do_none g m c l w hF hb').mono fun e w' ⟨he, hB⟩ => ⟨he, ⟨l, blk_below hF hB (blk_lt hF)⟩, Chg.ofBelow hB⟩
    · simp [wfun, okB, cTo, hb, hb']
      exact do_works g m c (c + 1) l w hF hb' _ _ (known41 p) fun k => work41 p g m c l _ ((atWork_chg w _ k (fun _ => False)).blk hp (fun h => h)) ((atWork_chg w _ k (fun _ => False)).blk hF (fun h => h)) hb' c0 c1

/-- The function that makes the work of a number. -/
theorem work_calls (n : Int) (f : Option Addr) (w : World) :
    Calls Tryd.prog 27 #[.pointer f, .int .i64 n] w fun e w' => e = .returned (wfun n w.heap.size) ∧ (w.alloc (.cells #[.pointer f] 23)).alloc (.cells #[.slice none 0 0] 25) = w' := by
  have hmf := mkf
  unfold wfun
  by_cases h0 : n = 0
  · subst h0
    go_enter Tryd.func27, Tryd.ntmps27
    go_wp2
    go_ret
    exact ⟨by simp, rfl⟩
  · have e0 : (n == 0) = false := by simpa using h0
    by_cases h1 : n = 1
    · subst h1
      go_enter Tryd.func27, Tryd.ntmps27
      go_wp2
      go_ret
      exact ⟨by simp, rfl⟩
    · have e1 : (n == 1) = false := by simpa using h1
      by_cases h2 : n = 2
      · subst h2
        go_enter Tryd.func27, Tryd.ntmps27
        go_wp2
        go_ret
        exact ⟨by simp, rfl⟩
      · have e2 : (n == 2) = false := by simpa using h2
        by_cases h3 : n = 3
        · subst h3
          go_enter Tryd.func27, Tryd.ntmps27
          go_wp2
          go_ret
          exact ⟨by simp, rfl⟩
        · have e3 : (n == 3) = false := by simpa using h3
          by_cases h4 : n = 4
          · subst h4
            go_enter Tryd.func27, Tryd.ntmps27
            go_wp2
            go_ret
            exact ⟨by simp, rfl⟩
          · have e4 : (n == 4) = false := by simpa using h4
            by_cases h7 : n = 7
            · subst h7
              go_enter Tryd.func27, Tryd.ntmps27
              go_wp2
              go_ret
              exact ⟨by simp, rfl⟩
            · have e7 : (n == 7) = false := by simpa using h7
              go_enter Tryd.func27, Tryd.ntmps27
              go_wp2
              go_ret
              exact ⟨by simp [h0, h1, h2, h3, h4, h7], rfl⟩
end Go.Proofs.YtmanibjmcdbgaaaDoor
