/- Safe: by what the work does. -/
import Derived.Test.YtmanibjmcdbgaaaDoorStep
import Derived.Test.YtmanibjmcdbgaaaDoorFloat
namespace Go.Proofs.YtmanibjmcdbgaaaDoor
set_option linter.unusedVariables false
set_option linter.unusedSimpArgs false
open Go.RowKit

theorem known33 (a b : Addr) : Known 29 #[.pointer (some a), .pointer (some b)] := ⟨fun _ => by kernel_rfl, fun _ => by kernel_rfl⟩

def boxFn (fv : Value) : Obj := .cells #[fv] 36 (0, 0)
def boxX (b : Nat) : Obj := .cells #[.float .f64 b] 34 (0, 0)

theorem store_float (P : Program) (w : World) (a : Addr) (m : Mode) (k : FloatKind) (b : Nat) : (store a (.float k b) m).run P w = stored P w a (.float k b) m := run_store P w a _ m rfl
attribute [local go_sem] store_float

/-- A function of a number that is known. -/
structure KnownF (G : FuncId) (cap : Array Value) : Prop where
  ne : ∀ W : World, (binOp .neq 36 (.func (.func G) #[] cap) .nilFunc).run Tryd.prog W = .ok (.bool true) W
  call : ∀ W : World, (callFunc G cap).run Tryd.prog W = .ok (.enter G cap) W

theorem safe1_nil (p x b : Nat) (w : World) (hp : w.heap[p]? = some (boxFn .nilFunc)) :
    Calls Tryd.prog 29 #[.pointer (some ⟨p, 0, none⟩), .pointer (some ⟨x, 0, none⟩)] w fun e w' => e = .returned (.tuple #[]) ∧ w = w' := by
  have p0 := blk_cell hp 0
  have hn : ∀ W : World, (binOp .neq 36 .nilFunc .nilFunc).run Tryd.prog W = .ok (.bool false) W := fun _ => by kernel_rfl
  clear hp
  go_enter Tryd.func29, Tryd.ntmps29
  go_wp2
  go_end0
  exact ⟨rfl, rfl⟩
theorem safe1_val (p x b r : Nat) (G : FuncId) (cap : Array Value) (K : KnownF G cap) (w : World) (hp : w.heap[p]? = some (boxFn (.func (.func G) #[] cap))) (hx : w.heap[x]? = some (boxX b))
    (hG : Calls Tryd.prog G cap w fun e w' => e = .returned (.float .f64 r) ∧ Below w.heap.size w w') :
    Calls Tryd.prog 29 #[.pointer (some ⟨p, 0, none⟩), .pointer (some ⟨x, 0, none⟩)] w fun e w' => e = .returned (.tuple #[]) ∧ w'.heap[x]? = some (boxX r) ∧ Chg (fun k => k = x) w w' := by
  have p0 := blk_cell hp 0
  have hn := K.ne
  have hcl := K.call
  have HX := Lib.hid hx
  have HG := Lib.hid hG
  clear hp hx hG
  go_enter Tryd.func29, Tryd.ntmps29
  go_wp2_with fail
  refine HG.out.mono ?_
  rintro e w1 ⟨rfl, hB⟩
  have HX1 := Lib.hid (blk_below HX.out hB (blk_lt HX.out))
  have HB := Lib.hid hB
  clear hB
  have x0 := blk_cell HX1.out 0
  have x1 := blk_frozen HX1.out 0
  go_wp2
  go_end0
  exact ⟨rfl, blk_set HX1.out 0 _, ((Chg.ofBelow HB.out : Chg (fun k => k = x) w w1).setCell (p := ⟨x, 0, none⟩) (.inl rfl) _)⟩
theorem safe1_panics (p x b : Nat) (G : FuncId) (cap : Array Value) (K : KnownF G cap) (t : TypeId) (pv : Value) (w : World) (hp : w.heap[p]? = some (boxFn (.func (.func G) #[] cap)))
    (hG : Calls Tryd.prog G cap w fun e w' => e = .panicked [{ v := .iface t pv, recovered := false }] ∧ Below w.heap.size w w') :
    Calls Tryd.prog 29 #[.pointer (some ⟨p, 0, none⟩), .pointer (some ⟨x, 0, none⟩)] w fun e w' => e = .panicked [{ v := .iface t pv, recovered := false }] ∧ Below w.heap.size w w' := by
  have p0 := blk_cell hp 0
  have hn := K.ne
  have hcl := K.call
  have HG := Lib.hid hG
  clear hp hG
  go_enter Tryd.func29, Tryd.ntmps29
  go_wp2_with fail
  refine HG.out.mono ?_
  rintro e w1 ⟨rfl, hB⟩
  exact ⟨rfl, rfl, hB⟩

set_option maxHeartbeats 800000 in
theorem safe_calls (fv : Value) (hfv : fv = .nilFunc ∨ ∃ G cap, fv = .func (.func G) #[] cap) (w : World) (r : Nat)
    (hD : ∀ g W, IsF W g 0 0 ByteArray.empty → W.heap[w.heap.size]? = some (boxFn fv) → W.heap[w.heap.size + 1]? = some (boxX 9221120237041090561) → Below w.heap.size w W → g = w.heap.size + 2 →
      Calls Tryd.prog 7 #[.pointer (some ⟨g, 0, none⟩), .func (.func 29) #[] #[.pointer (some ⟨w.heap.size, 0, none⟩), .pointer (some ⟨w.heap.size + 1, 0, none⟩)]] W fun e w' => (∃ b, e = .returned (.bool b)) ∧ w'.heap[w.heap.size + 1]? = some (boxX r) ∧ Below w.heap.size w w') :
    Calls Tryd.prog 21 #[fv] w fun e w' => e = .returned (.float .f64 (oneB r)) ∧ Below w.heap.size w w' := by
  have HD := Lib.hid hD
  clear hD
  have hmf := mkf
  rcases hfv with rfl | ⟨G, cap, rfl⟩
  all_goals
    go_enter Tryd.func21, Tryd.ntmps21
    go_wp2_with fail
    refine (nan_calls _).mono ?_
    rintro e w1 ⟨rfl, rfl⟩
    go_wp2_with fail
    refine (new_calls 0 _).mono ?_
    rintro e w1 ⟨g, rfl, hF, hg, hB⟩
    have hp := blk_below (blk_alloc (heap_alloc_new w _) _) hB (by simp; omega)
    have hx : w1.heap[w.heap.size + 1]? = some (boxX 9221120237041090561) := by
      have h := blk_below (heap_alloc_new _ _) hB (by simp)
      simpa [boxX] using h
    have HQ := Lib.hid (HD.out g w1 hF hp hx ((((Below.refl w.heap.size w).alloc (Nat.le_refl _) _).alloc (by simp) _).trans (hB.mono (by simp; omega))) (by simpa using hg))
    have hg2 : g = w.heap.size + 1 + 1 := by simpa using hg
    subst hg2
    clear hF hg hB hp hx HD
    go_wp2_with fail
    refine HQ.out.mono ?_
    rintro e w2 ⟨⟨b, rfl⟩, hx, hB⟩
    have x0 := blk_cell hx 0
    have HB := Lib.hid hB
    clear hx hB
    go_wp2_with fail
    refine (one_calls r _).mono ?_
    rintro e w3 ⟨rfl, rfl⟩
    go_wp2
    go_ret
    exact ⟨rfl, HB.out⟩

theorem safe_val (G : FuncId) (cap : Array Value) (K : KnownF G cap) (r : Nat) (w : World)
    (hG : ∀ W, Below w.heap.size w W → Calls Tryd.prog G cap W fun e w' => e = .returned (.float .f64 r) ∧ Below W.heap.size W w') :
    Calls Tryd.prog 21 #[.func (.func G) #[] cap] w fun e w' => e = .returned (.float .f64 (oneB r)) ∧ Below w.heap.size w w' := by
  refine safe_calls _ (.inr ⟨G, cap, rfl⟩) w r ?_
  intro g W hF hp hx hB hg
  have hx1 := blk_lt hx
  have hx2 := blk_lt hF
  have hat : ∀ n, Chg (fun _ => False) W ((atWork W (some ⟨g, 0, none⟩)).drewN n) := fun n => atWork_chg W (some ⟨g, 0, none⟩) n _
  refine (do_returns g 0 0 _ W hF (by decide) 29 _ (fun w' => w'.heap[w.heap.size + 1]? = some (boxX r) ∧ ∃ n, Chg (fun k => k = w.heap.size + 1) ((atWork W (some ⟨g, 0, none⟩)).drewN n) w') (known33 _ _).ne (known33 _ _).call (fun n => ?_) ?_).mono ?_
  · refine (safe1_val w.heap.size (w.heap.size + 1) _ r G cap K _ ((hat n).blk hp (fun h => h)) ((hat n).blk hx (fun h => h)) (hG _ ?_)).mono ?_
    · exact hB.trans ((hat n).toBelow (by have := hB.size; omega) (fun _ _ h => h))
    · rintro e w' ⟨he, h1, h2⟩
      exact ⟨he, h1, n, h2⟩
  · rintro w' ⟨_, n, hC⟩
    exact hC.blk (atWork_q W _ n) (by omega)
  · rintro e w' ⟨rfl, w1, ⟨h1, n, hC⟩, rfl⟩
    refine ⟨⟨_, rfl⟩, blk_far h1 (p := ⟨W.heap.size + 1, 0, none⟩) (by simp; omega) _, ?_⟩
    exact hB.trans ((((atWork_chg W (some ⟨g, 0, none⟩) n (fun k => k = w.heap.size + 1)).trans hC).setCell (p := ⟨W.heap.size + 1, 0, none⟩) (.inr (by simp)) _).toBelow (by have := hB.size; omega) (fun k hk h => by omega))

theorem safe_nil (w : World) :
    Calls Tryd.prog 21 #[.nilFunc] w fun e w' => e = .returned (.float .f64 (oneB 9221120237041090561)) ∧ Below w.heap.size w w' := by
  refine safe_calls _ (.inl rfl) w _ ?_
  intro g W hF hp hx hB hg
  have hx1 := blk_lt hx
  have hx2 := blk_lt hF
  have hat : ∀ n, Chg (fun _ => False) W ((atWork W (some ⟨g, 0, none⟩)).drewN n) := fun n => atWork_chg W (some ⟨g, 0, none⟩) n _
  refine (do_works g 0 0 0 _ W hF (by decide) 29 _ (known33 _ _) (fun n => ?_)).mono ?_
  · refine (safe1_nil w.heap.size (w.heap.size + 1) 0 _ ((hat n).blk hp (fun h => h))).mono ?_
    rintro e w' ⟨he, rfl⟩
    exact ⟨he, ⟨_, (hat n).blk hF (fun h => h)⟩, Chg.refl _ _⟩
  · rintro e w' ⟨rfl, _, hC⟩
    exact ⟨⟨_, rfl⟩, hC.blk hx (by omega), hB.trans (hC.toBelow (by have := hB.size; omega) (fun k hk h => by omega))⟩

theorem safe_panics (G : FuncId) (cap : Array Value) (K : KnownF G cap) (s : ByteArray) (w : World)
    (hG : ∀ W, Below w.heap.size w W → Calls Tryd.prog G cap W fun e w' => e = .panicked [{ v := .iface 9 (.string s), recovered := false }] ∧ Below W.heap.size W w') :
    Calls Tryd.prog 21 #[.func (.func G) #[] cap] w fun e w' => e = .returned (.float .f64 (oneB 9221120237041090561)) ∧ Below w.heap.size w w' := by
  refine safe_calls _ (.inr ⟨G, cap, rfl⟩) w _ ?_
  intro g W hF hp hx hB hg
  have hx1 := blk_lt hx
  have hx2 := blk_lt hF
  have hat : ∀ n, Chg (fun _ => False) W ((atWork W (some ⟨g, 0, none⟩)).drewN n) := fun n => atWork_chg W (some ⟨g, 0, none⟩) n _
  refine (do_panics g 0 0 _ W hF (by decide) 29 _ (fun w' => ∃ n, Chg (fun _ => False) ((atWork W (some ⟨g, 0, none⟩)).drewN n) w') _ _ s (tells_string s) (known33 _ _).ne (known33 _ _).call (fun n => ?_) 0 ByteArray.empty (by decide) (by decide) ?_).mono ?_
  · refine (safe1_panics w.heap.size (w.heap.size + 1) 0 G cap K _ _ _ ((hat n).blk hp (fun h => h)) (hG _ ?_)).mono ?_
    · exact hB.trans ((hat n).toBelow (by have := hB.size; omega) (fun _ _ h => h))
    · rintro e w' ⟨he, h1⟩
      exact ⟨he, n, Chg.ofBelow h1⟩
  · rintro w' ⟨n, hC⟩
    exact ⟨hC.blk (atWork_p W g n) (fun h => h), hC.blk (atWork_q W _ n) (fun h => h), ((hat n).trans hC).blk hF (fun h => h)⟩
  · rintro e w' ⟨rfl, w1, ⟨n, hC⟩, _, hC2⟩
    have hall := chg_join ((hat n).trans hC) hC2 (fun _ h => h.elim)
    exact ⟨⟨_, rfl⟩, hall.blk hx (by omega), hB.trans (hall.toBelow (by have := hB.size; omega) (fun k hk h => by omega))⟩
end Go.Proofs.YtmanibjmcdbgaaaDoor
