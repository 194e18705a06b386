/- FuseNests. -/
import Derived.Test.YtmanibjmcdbgaaaFixed
import Derived.OpenShut
namespace Go.Proofs.Ytmanibjmcdbgaaa
set_option linter.unusedVariables false
set_option linter.unusedSimpArgs false
open Go.RowKit Go.ChangeShapes

theorem known14 (a b c : Addr) : Known 14 #[.pointer (some a), .pointer (some b), .pointer (some c)] := ⟨fun _ => by kernel_rfl, fun _ => by kernel_rfl⟩
theorem known17 (a : Addr) : Known 17 #[.pointer (some a)] := ⟨fun _ => by kernel_rfl, fun _ => by kernel_rfl⟩
theorem store_func (P : Program) (w : World) (a : Addr) (m : Mode) (fn : Fn) (first cap : Array Value) : (store a (.func fn first cap) m).run P w = stored P w a (.func fn first cap) m := run_store P w a _ m rfl
attribute [local go_sem] store_func
def boxI (n : Int) : Obj := .cells #[.int .i64 n] 3 (0, 0)
def boxDown (P D W : Nat) : Obj := .cells #[.func (.func 12) #[] #[.pointer (some ⟨P, 0, none⟩), .pointer (some ⟨D, 0, none⟩), .pointer (some ⟨W, 0, none⟩)]] 32 (0, 0)
def oText : ByteArray := ⟨#[111, 116, 104, 101, 114]⟩
def lastOf (k : Nat) (l : ByteArray) : ByteArray := if k = 0 then l else oText

/-- What the call of down at k does. -/
def Downs (P D W g : Nat) (m : Int) (k : Nat) : Prop := ∀ (w : World) (s c : Int) (l : ByteArray), w.heap[P]? = some (boxF g) → w.heap[W]? = some (boxDown P D W) → w.heap[D]? = some (boxI s) → IsF w g m c l → c ≤ m → 0 ≤ c → c ≤ 1000 → 0 ≤ s → s + k ≤ 1000 →
  Calls Try.prog 12 #[.int .i64 k, .pointer (some ⟨P, 0, none⟩), .pointer (some ⟨D, 0, none⟩), .pointer (some ⟨W, 0, none⟩)] w fun e w' => e = .returned (.tuple #[]) ∧ w'.heap[D]? = some (boxI (s + k)) ∧ IsF w' g m (c + k) (lastOf k l) ∧ Chg (fun j => j = g ∨ j = D) w w'

theorem downs_zero (P D W g : Nat) (m : Int) : Downs P D W g m 0 := by
  intro w s c l hP hW hD hF hb c0 c1 s0 s1
  have HD := Lib.hid hD
  have HF := Lib.hid hF
  clear hP hW hD hF
  go_enter Try.func12, Try.ntmps12
  go_wp2
  (try simp only [Exit.inBlock, Exit.then]); refine bodyPost_ret (results_none rfl _ _ _) rfl ?_
  refine ⟨rfl, ?_, ?_, (Chg.refl _ _).alloc _⟩
  · simpa using blk_alloc HD.out _
  · rw [show c + ((0 : Nat) : Int) = c by omega]
    exact blk_alloc HF.out _

theorem nest14 (P D W g N : Nat) (m : Int) (k : Nat) (hk : k ≤ 100) (ih : Downs P D W g m k) (w : World) (s c : Int) (l : ByteArray) (hP : w.heap[P]? = some (boxF g)) (hW : w.heap[W]? = some (boxDown P D W)) (hD : w.heap[D]? = some (boxI s)) (hF : IsF w g m c l)
    (hN : w.heap[N]? = some (boxI (k + 1 : Nat))) (hND : N ≠ D) (hb : c ≤ m) (c0 : 0 ≤ c) (c1 : c ≤ 1000) (s0 : 0 ≤ s) (s1 : s + 1 + k ≤ 1000) :
    Calls Try.prog 14 #[.pointer (some ⟨D, 0, none⟩), .pointer (some ⟨W, 0, none⟩), .pointer (some ⟨N, 0, none⟩)] w fun e w' => e = .panicked [{ v := .iface 3 (.int .i64 (k + 1 : Nat)), recovered := false }] ∧ w'.heap[D]? = some (boxI (s + 1 + k)) ∧ IsF w' g m (c + k) (lastOf k l) ∧ Chg (fun j => j = g ∨ j = D) w w' := by
  have dw : W ≠ D := blk_ne hW hD (by decide)
  have dp : P ≠ D := blk_ne hP hD (by decide)
  have dg : g ≠ D := blk_ne hF hD (by decide)
  have ng : N ≠ g := blk_ne hN hF (by decide)
  have d0 := blk_cell hD 0
  have df := blk_frozen hD 0
  have w0 := blk_cell (blk_far hW (p := ⟨D, 0, none⟩) dw (.int .i64 (s + 1))) 0
  have n0 := blk_cell (blk_far hN (p := ⟨D, 0, none⟩) hND (.int .i64 (s + 1))) 0
  have IH := Lib.hid (ih (w.setCell ⟨D, 0, none⟩ (.int .i64 (s + 1))) (s + 1) c l (blk_far hP (p := ⟨D, 0, none⟩) dp _) (blk_far hW (p := ⟨D, 0, none⟩) dw _) (blk_set hD 0 _) (blk_far hF (p := ⟨D, 0, none⟩) dg _) hb c0 c1 (by omega) (by omega))
  have HN := Lib.hid (blk_far hN (p := ⟨D, 0, none⟩) hND (.int .i64 (s + 1)))
  have hk1 : ((k + 1 : Nat) : Int) - 1 = k := by omega
  clear hP hW hD hF hN ih
  generalize hK : ((k + 1 : Nat) : Int) = K at *
  have hKb : 0 < K ∧ K ≤ 101 := by omega
  have hws : wrap64 (s + 1) = s + 1 := by simp [wrap64]; omega
  clear hK
  go_enter Try.func14, Try.ntmps14
  go_wp2_with fail
  refine IH.out.mono ?_
  rintro e w1 ⟨rfl, hD, hF, hC⟩
  have n1 := blk_cell (hC.blk HN.out (by omega)) 0
  have R := Lib.hid (And.intro hD (And.intro hF ((Chg.refl (fun j => j = g ∨ j = D) w).setCell (p := ⟨D, 0, none⟩) (.inl (.inr rfl)) (.int .i64 (s + 1)) |>.trans hC)))
  clear hD hF hC
  go_wp2
  exact ⟨rfl, rfl, R.out⟩

theorem downs_succ (P D W g : Nat) (m : Int) (k : Nat) (hk : k ≤ 100) (ih : Downs P D W g m k) : Downs P D W g m (k + 1) := by
  intro w s c l hP hW hD hF hb c0 c1 s0 s1
  have hs : s ≤ 999 := by omega
  have lD := blk_lt hD
  have lF := blk_lt hF
  have dg : D ≠ g := blk_ne hD hF (by decide)
  have HDo := Lib.hid (show Calls Try.prog 13 #[.pointer (some ⟨g, 0, none⟩), .func (.func 14) #[] #[.pointer (some ⟨D, 0, none⟩), .pointer (some ⟨W, 0, none⟩), .pointer (some ⟨w.heap.size, 0, none⟩)]] (w.alloc (boxI (k + 1 : Nat))) fun e w' => (∃ b, e = .returned (.bool b)) ∧ w'.heap[D]? = some (boxI (s + (k + 1 : Nat))) ∧ IsF w' g m (c + (k + 1 : Nat)) (lastOf (k + 1) l) ∧ Chg (fun j => j = g ∨ j = D) w w' from by
    obtain ⟨w1, hw1⟩ : ∃ w1, w1 = w.alloc (boxI (k + 1 : Nat)) := ⟨_, rfl⟩
    have hC1 : Chg (fun _ => False) w w1 := by rw [hw1]; exact (Chg.refl _ _).alloc _
    have hN1 : w1.heap[w.heap.size]? = some (boxI (k + 1 : Nat)) := by rw [hw1]; exact heap_alloc_new w _
    have hs1 : w1.heap.size = w.heap.size + 1 := by rw [hw1]; simp
    rw [← hw1]
    clear hw1
    have hat : ∀ n, Chg (fun _ => False) w1 ((atWork w1 (some ⟨g, 0, none⟩)).drewN n) := fun n => atWork_chg w1 (some ⟨g, 0, none⟩) n _
    have hat0 : ∀ n, Chg (fun _ => False) w ((atWork w1 (some ⟨g, 0, none⟩)).drewN n) := fun n => hC1.trans (hat n)
    refine (do_panics g m c l w1 (hC1.blk hF (fun h => h)) hb _ _ (fun w' => w'.heap[D]? = some (boxI (s + 1 + k)) ∧ IsF w' g m (c + k) (lastOf k l) ∧ ∃ n, Chg (fun j => j = g ∨ j = D) ((atWork w1 (some ⟨g, 0, none⟩)).drewN n) w') _ _ oText (tells_int _) (known14 _ _ _).ne (known14 _ _ _).call
      (fun n => (nest14 P D W g w.heap.size m k hk ih _ s c l ((hat0 n).blk hP (fun h => h)) ((hat0 n).blk hW (fun h => h)) ((hat0 n).blk hD (fun h => h)) ((hat0 n).blk hF (fun h => h)) ((hat n).blk hN1 (fun h => h)) (by omega) hb c0 c1 s0 (by omega)).mono fun e w' ⟨he, h1, h2, h3⟩ => ⟨he, h1, h2, n, h3⟩) (c + k) (lastOf k l) (by omega) (by omega) ?_).mono ?_
    · rintro w' ⟨h1, h2, n, h3⟩
      exact ⟨h3.blk (atWork_p w1 g n) (by omega), h3.blk (atWork_q w1 _ n) (by omega), h2⟩
    · rintro e w' ⟨rfl, w2, ⟨h1, h2, n, h3⟩, hF', hC⟩
      have z1 := (hat0 n).size
      have z2 := h3.size
      refine ⟨⟨_, rfl⟩, ?_, ?_, ?_⟩
      · have := hC.blk h1 (by omega)
        rw [this]
        congr 2
        omega
      · rw [show c + ((k + 1 : Nat) : Int) = c + k + 1 by omega]
        simpa [lastOf] using hF'
      · refine ⟨hC.os.trans (h3.os.trans (hat0 n).os), hC.tape.trans (h3.tape.trans (hat0 n).tape), hC.output.trans (h3.output.trans (hat0 n).output), by have := hC.size; omega, fun i hi hn => ?_⟩
        exact (hC.block i (by omega) (by omega)).trans ((h3.block i (by omega) hn).trans ((hat0 n).block i hi (fun h => h))))
  have HP := Lib.hid (blk_alloc hP (boxI (k + 1 : Nat)))
  have p0 := blk_cell HP.out 0
  have hmf := mkf
  unfold boxI at HDo p0
  have hk0 : (((k + 1 : Nat) : Int) == 0) = false := by simp; omega
  generalize hK : ((k + 1 : Nat) : Int) = K at *
  clear hP hW hD hF ih
  go_enter Try.func12, Try.ntmps12
  go_wp2_with fail
  refine HDo.out.mono ?_
  rintro e w1 ⟨⟨b, rfl⟩, R⟩
  have R := Lib.hid R
  go_wp2
  go_end0
  exact ⟨rfl, R.out⟩

theorem downs (P D W g : Nat) (m : Int) : ∀ k, k ≤ 101 → Downs P D W g m k
  | 0, _ => downs_zero P D W g m
  | k + 1, hk => downs_succ P D W g m k (by omega) (downs P D W g m k (by omega))

theorem work17 (D g : Nat) (s : Int) (w : World) (hD : w.heap[D]? = some (boxI s)) (s0 : 0 ≤ s) (s1 : s ≤ 1000) : Calls Try.prog 17 #[.pointer (some ⟨D, 0, none⟩)] w fun e w' => e = .returned (.tuple #[]) ∧ w.setCell ⟨D, 0, none⟩ (.int .i64 (s + 1)) = w' := by
  have d0 := blk_cell hD 0
  have df := blk_frozen hD 0
  clear hD
  go_enter Try.func17, Try.ntmps17
  go_wp2
  go_end0
  exact ⟨rfl, rfl⟩

/-- The last Do: it adds one if the fuse is not blown. -/
theorem do17 (D g : Nat) (s m c : Int) (l : ByteArray) (w : World) (hF : IsF w g m c l) (hD : w.heap[D]? = some (boxI s)) (s0 : 0 ≤ s) (s1 : s ≤ 1000) (b : Bool) (hb : b = decide (c ≤ m)) (s' : Int) (hs : s' = if b then s + 1 else s) :
    Calls Try.prog 13 #[.pointer (some ⟨g, 0, none⟩), .func (.func 17) #[] #[.pointer (some ⟨D, 0, none⟩)]] w fun e w' => e = .returned (.bool b) ∧ w'.heap[D]? = some (boxI s') ∧ Chg (fun j => j = D) w w' := by
  have lD := blk_lt hD
  have lF := blk_lt hF
  by_cases h : m < c
  · have e1 : b = false := by rw [hb]; simp; omega
    subst e1
    rw [if_neg (by simp)] at hs
    subst hs
    exact (do_blown g m c l w hF h _).mono fun e w' ⟨he, hB⟩ => ⟨he, blk_below hD hB lD, Chg.ofBelow hB⟩
  · have e1 : b = true := by rw [hb]; simp; omega
    subst e1
    rw [if_pos rfl] at hs
    subst hs
    have hat : ∀ n, Chg (fun j => j = D) w ((atWork w (some ⟨g, 0, none⟩)).drewN n) := fun n => atWork_chg w (some ⟨g, 0, none⟩) n _
    have hat0 : ∀ n, Chg (fun j => False) w ((atWork w (some ⟨g, 0, none⟩)).drewN n) := fun n => atWork_chg w (some ⟨g, 0, none⟩) n _
    refine (do_returns g m c l w hF (by omega) _ _ (fun w' => ∃ n, ((atWork w (some ⟨g, 0, none⟩)).drewN n).setCell ⟨D, 0, none⟩ (.int .i64 (s + 1)) = w') (known17 _).ne (known17 _).call (fun n => (work17 D g s _ ((hat0 n).blk hD (fun h => h)) s0 s1).mono fun e w' ⟨he, h⟩ => ⟨he, n, h⟩) ?_).mono ?_
    · rintro w' ⟨n, rfl⟩
      exact blk_far (atWork_q w _ n) (p := ⟨D, 0, none⟩) (by simp; omega) _
    · rintro e w' ⟨rfl, w1, ⟨n, rfl⟩, rfl⟩
      refine ⟨rfl, blk_far (blk_set ((hat0 n).blk hD (fun h => h)) 0 _) (p := ⟨w.heap.size + 1, 0, none⟩) (by simp; omega) _, ?_⟩
      exact ((hat n).setCell (p := ⟨D, 0, none⟩) (.inl rfl) _).setCell (p := ⟨w.heap.size + 1, 0, none⟩) (.inr (by simp)) _
theorem nest_mid (w : World) (o1 o2 : Obj) : ((w.alloc o1).alloc o2).heap[w.heap.size + 1]? = some o2 := by
  have h := heap_alloc_new (w.alloc o1) o2
  simpa using h
theorem nest_top (w : World) (o1 o2 o3 : Obj) : (((w.alloc o1).alloc o2).alloc o3).heap[w.heap.size + 1 + 1]? = some o3 := by
  have h := heap_alloc_new ((w.alloc o1).alloc o2) o3
  simpa using h
set_option maxRecDepth 100000 in
set_option maxHeartbeats 6400000 in
theorem nests_walk (m : Int) (wm : (Lit.int .u8 m).wf = true) (d : Int) (wd : (Lit.int .u8 d).wf = true) (w : World) : Calls Try.prog 4 #[.int .u8 m, .int .u8 d] w fun e w' => e = .returned (.bool true) ∧ Below w.heap.size w w' := by
  have bm := bounds_u8 wm
  have bd := bounds_u8 wd
  have hmf := mkf
  clear wm wd
  go_enter Try.func4, Try.ntmps4
  go_wp2_with fail
  refine (fixed_calls _).mono ?_
  rintro e w1 ⟨rfl, hB⟩
  have HB := Lib.hid hB
  clear hB
  go_wp2_with fail
  obtain ⟨M, hM⟩ : ∃ M, M = m % 8 := ⟨_, rfl⟩
  obtain ⟨k, hk⟩ : ∃ k : Nat, (k : Int) = d % 12 := ⟨(d % 12).toNat, by omega⟩
  rw [← hM, ← hk]
  have bM : 0 ≤ M ∧ M ≤ 7 := by omega
  have bk : k ≤ 11 := by omega
  clear hM hk bm bd
  refine (new_most M M (by unfold most; (repeat' split) <;> omega) _).mono ?_
  rintro e w2 ⟨g, rfl, hF, hg, hB2⟩
  have hge : w.heap.size ≤ g := by have := HB.out.size; omega
  have HF := Lib.hid hF
  have HB1 := Lib.hid (HB.out.trans (hB2.mono HB.out.size))
  clear hF hg hB2 HB
  go_wp2_with fail
  refine (downs w2.heap.size (w2.heap.size + 1) (w2.heap.size + 1 + 1) g M k (by omega) _ 0 0 _ (blk_alloc (blk_alloc (heap_alloc_new w2 _) _) _) (nest_top w2 _ _ _) (blk_alloc (nest_mid w2 _ _) _) (blk_alloc (blk_alloc (blk_alloc HF.out _) _) _) (by omega) (by decide) (by decide) (by decide) (by omega)).mono ?_
  rintro e w4 ⟨rfl, hD, hF, hC⟩
  simp only [Int.zero_add] at hD hF
  have lF := blk_lt HF.out
  have hP := hC.blk (blk_alloc (blk_alloc (heap_alloc_new w2 (boxF g)) _) _) (by omega)
  have HB4 := Lib.hid ((((HB1.out.alloc HB1.out.size _).alloc (by have := HB1.out.size; simp; omega) _).alloc (by have := HB1.out.size; simp; omega) _).trans (hC.toBelow (by have := HB1.out.size; simp; omega) (fun j hj h => by have := HB1.out.size; omega)))
  have hDb := blk_cell hD 0
  have hPb := blk_cell hP 0
  have HD := Lib.hid hD
  have HP := Lib.hid hP
  have HF4 := Lib.hid hF
  have hsz := HB4.out.size
  have hsz2 := HB1.out.size
  clear hD hP hF hC HB1 HF
  by_cases hb : M < k
  · have hd1 : decide (M < (k : Int)) = true := by simp; omega
    have hd2 : decide ((k : Int) ≤ M) = false := by simp; omega
    go_wp2_with fail
    refine (caught_calls g M k _ _ HF4.out).mono ?_
    rintro e w5 ⟨rfl, rfl⟩
    go_wp2_with fail
    refine (blown_calls g M k _ _ HF4.out true (by simp; omega)).mono ?_
    rintro e w5 ⟨rfl, n, rfl⟩
    have HF5 := Lib.hid (show IsF (w4.drewN n) g M k (lastOf k ByteArray.empty) from HF4.out)
    have HD5 := Lib.hid (show (w4.drewN n).heap[w2.heap.size + 1]? = some (boxI k) from HD.out)
    have HB5 := Lib.hid (HB4.out.trans ((Chg.refl (fun _ => False) w4).drewN n |>.toBelow HB4.out.size (fun _ _ h => h)))
    clear HF4 HD HB4
    go_wp2_with fail
    refine (do17 _ g k M k _ _ HF5.out HD5.out (by omega) (by omega) false (by simp; omega) k (by simp)).mono ?_
    rintro e w6 ⟨rfl, hD, hC⟩
    have hDb6 := blk_cell hD 0
    have HB6 := Lib.hid (HB5.out.trans (hC.toBelow HB5.out.size (fun j hj h => by omega)))
    clear hD hC HB5 HF5 HD5
    go_wp2
    go_ret
    exact ⟨rfl, HB6.out⟩
  · have hd1 : decide (M < (k : Int)) = false := by simp; omega
    have hd2 : decide ((k : Int) ≤ M) = true := by simp; omega
    go_wp2_with fail
    refine (caught_calls g M k _ _ HF4.out).mono ?_
    rintro e w5 ⟨rfl, rfl⟩
    go_wp2_with fail
    refine (blown_calls g M k _ _ HF4.out false (by simp; omega)).mono ?_
    rintro e w5 ⟨rfl, n, rfl⟩
    have HF5 := Lib.hid (show IsF (w4.drewN n) g M k (lastOf k ByteArray.empty) from HF4.out)
    have HD5 := Lib.hid (show (w4.drewN n).heap[w2.heap.size + 1]? = some (boxI k) from HD.out)
    have HB5 := Lib.hid (HB4.out.trans ((Chg.refl (fun _ => False) w4).drewN n |>.toBelow HB4.out.size (fun _ _ h => h)))
    clear HF4 HD HB4
    go_wp2_with fail
    refine (do17 _ g k M k _ _ HF5.out HD5.out (by omega) (by omega) true (by simp; omega) (k + 1) (by simp)).mono ?_
    rintro e w6 ⟨rfl, hD, hC⟩
    have hDb6 := blk_cell hD 0
    have HB6 := Lib.hid (HB5.out.trans (hC.toBelow HB5.out.size (fun j hj h => by omega)))
    clear hD hC HB5 HF5 HD5
    go_wp2
    go_ret
    exact ⟨rfl, HB6.out⟩
end Go.Proofs.Ytmanibjmcdbgaaa
