/- (*Fuse).Do, whatever the work is: by the work's own contract. -/
import Derived.Test.YtmanibjmcdbgaaaDoorBase
namespace Go.Proofs.YtmanibjmcdbgaaaDoor
set_option linter.unusedVariables false
set_option linter.unusedSimpArgs false
open Go.RowKit

/-- What was there stays, but for the blocks of S. -/
structure Chg (S : Nat → Prop) (w w' : World) : Prop where
  os : w'.os = w.os
  tape : w'.tape = w.tape
  output : w'.output = w.output
  size : w.heap.size ≤ w'.heap.size
  block : ∀ k, k < w.heap.size → ¬ S k → w'.heap[k]? = w.heap[k]?
theorem Chg.refl (S : Nat → Prop) (w : World) : Chg S w w := ⟨rfl, rfl, rfl, Nat.le_refl _, fun _ _ _ => rfl⟩
theorem Chg.trans {S : Nat → Prop} {a b c : World} (h : Chg S a b) (k : Chg S b c) : Chg S a c :=
  ⟨k.os.trans h.os, k.tape.trans h.tape, k.output.trans h.output, Nat.le_trans h.size k.size, fun i hi hn => (k.block i (Nat.lt_of_lt_of_le hi h.size) hn).trans (h.block i hi hn)⟩
theorem Chg.mono {S S' : Nat → Prop} {a b : World} (h : Chg S a b) (hs : ∀ k, k < a.heap.size → S k → S' k) : Chg S' a b := ⟨h.os, h.tape, h.output, h.size, fun i hi hn => h.block i hi fun x => hn (hs i hi x)⟩
theorem Chg.ofBelow {S : Nat → Prop} {a b : World} (h : Below a.heap.size a b) : Chg S a b := ⟨h.os, h.tape, h.output, h.size, fun i hi _ => h.block i hi⟩
theorem Chg.toBelow {S : Nat → Prop} {a b : World} {B : Nat} (h : Chg S a b) (hB : B ≤ a.heap.size) (hs : ∀ k, k < B → ¬ S k) : Below B a b := ⟨h.os, h.tape, h.output, h.size, fun i hi => h.block i (by omega) (hs i hi)⟩
theorem Chg.alloc {S : Nat → Prop} {a b : World} (h : Chg S a b) (o : Obj) : Chg S a (b.alloc o) := h.trans ⟨rfl, rfl, rfl, by simp, fun k hk _ => Below.heap_alloc b o k hk⟩
theorem Chg.setCell {S : Nat → Prop} {a b : World} (h : Chg S a b) {p : Addr} (hp : S p.block ∨ a.heap.size ≤ p.block) (u : Value) : Chg S a (b.setCell p u) :=
  ⟨h.os, h.tape, h.output, by simpa [World.setCell] using h.size, fun k hk hn => (Below.heap_setCell b p u k (fun e => by subst e; rcases hp with hp | hp; exact hn hp; omega)).trans (h.block k hk hn)⟩
theorem Chg.drewN {S : Nat → Prop} {a b : World} (h : Chg S a b) (n : Nat) : Chg S a (b.drewN n) := ⟨h.os, h.tape, h.output, h.size, h.block⟩
theorem Chg.drew {S : Nat → Prop} {a b : World} (h : Chg S a b) : Chg S a b.drew := ⟨h.os, h.tape, h.output, h.size, h.block⟩
theorem Chg.blk {S : Nat → Prop} {a b : World} {g : Nat} {o : Obj} (h : Chg S a b) (hg : a.heap[g]? = some o) (hn : ¬ S g) : b.heap[g]? = some o := (h.block g (blk_lt hg) hn).trans hg

def boxF (g : Nat) : Obj := .cells #[.pointer (some ⟨g, 0, none⟩)] 23 (0, 0)
def boxB (b : Bool) : Obj := .cells #[.bool b] 4 (0, 0)

theorem catch_idle (p q : Addr) (w : World) :
    CallsD Tryd.prog 23 #[.pointer (some p), .pointer (some q)] .returning w fun e u' w' => e = .returned (.tuple #[]) ∧ u' = .returning ∧ w' = w := by
  refine callsD_of_wpS Tryd.func23 rfl fun c₀ cs hu => ?_
  apply wpS_seq
  apply wpS_region
  simp [wpOpsS, go_sem, recoverD, hu, Tryd.ntmps23, Exit.thenS]
  simp only [Array.replicate_succ, Array.replicate_zero, List.push_toArray, List.append_toArray, List.nil_append, List.cons_append, List.setIfInBounds_toArray, List.set_cons_succ, List.set_cons_zero]
  refine wpS_of_wp ?_
  have HU := Lib.hid hu
  clear hu
  generalize hQ : (fun e a' w' => bodyPostS Tryd.prog Tryd.f23 c₀ cs _ e a' _ w') = Q
  have HQQ := Lib.hid hQ
  clear hQ
  have hn : ∀ W : World, (binOp .neq 20 .nilIface .nilIface).run Tryd.prog W = .ok (.bool false) W := fun _ => by kernel_rfl
  go_wp2
  rw [← HQQ.out]
  have hu := HU.out
  cases c₀
  simp_all [bodyPostS, results, Tryd.results23]

/-- The end of the deferred function's body, behind recover. -/
def Caught (g q : Nat) (m c : Int) (s : ByteArray) (w : World) : Exit → Act → World → Prop
  | .normal, a, w' => a.defers = [] ∧ IsF w' g m (c + 1) s ∧ w'.heap[q]? = some (boxB false) ∧ Chg (fun k => k = g ∨ k = q) w w'
  | _, _, _ => False

theorem caught_end {g q : Nat} {m c : Int} {l s : ByteArray} {b : Bool} {w w1 : World} (hF : IsF w g m c l) (hQ : w.heap[q]? = some (boxB b)) (hqg : q ≠ g)
    (hb : Below (w.setCell ⟨g, 1, none⟩ (.int .i64 (c + 1))).drew.heap.size (w.setCell ⟨g, 1, none⟩ (.int .i64 (c + 1))).drew w1) :
    IsF ((w1.setCell ⟨g, 2, none⟩ (.string s)).setCell ⟨q, 0, none⟩ (.bool false)) g m (c + 1) s ∧ ((w1.setCell ⟨g, 2, none⟩ (.string s)).setCell ⟨q, 0, none⟩ (.bool false)).heap[q]? = some (boxB false) ∧
      Chg (fun k => k = g ∨ k = q) w ((w1.setCell ⟨g, 2, none⟩ (.string s)).setCell ⟨q, 0, none⟩ (.bool false)) := by
  have hgl := blk_lt hF
  have hql := blk_lt hQ
  have h1 : (w.setCell ⟨g, 1, none⟩ (.int .i64 (c + 1))).drew.heap[g]? = some (.cells #[.int .i64 m, .int .i64 (c + 1), .string l] 38 (0, 0)) := blk_set hF 1 _
  have h2 := blk_below h1 hb (by simpa [World.setCell] using hgl)
  have q1 : (w.setCell ⟨g, 1, none⟩ (.int .i64 (c + 1))).drew.heap[q]? = some (boxB b) := blk_far hQ (p := ⟨g, 1, none⟩) hqg _
  have q2 := blk_below q1 hb (by simpa [World.setCell] using hql)
  refine ⟨blk_far (blk_set h2 2 (.string s)) (p := ⟨q, 0, none⟩) (fun e => hqg e.symm) _, blk_set (blk_far q2 (p := ⟨g, 2, none⟩) hqg (.string s)) 0 (.bool false), ?_⟩
  have c1 : Chg (fun k => k = g ∨ k = q) w (w.setCell ⟨g, 1, none⟩ (.int .i64 (c + 1))).drew := ((Chg.refl _ w).setCell (p := ⟨g, 1, none⟩) (.inl (.inl rfl)) _).drew
  exact ((c1.trans (Chg.ofBelow hb)).setCell (p := ⟨g, 2, none⟩) (.inl (.inl rfl)) _).setCell (p := ⟨q, 0, none⟩) (.inl (.inr rfl)) _

set_option maxHeartbeats 800000 in
theorem catch_panicking (p q g : Nat) (m c : Int) (l s : ByteArray) (b : Bool) (t : TypeId) (pv : Value) (older : List PanicEntry) (w : World)
    (hp : w.heap[p]? = some (boxF g)) (hq : w.heap[q]? = some (boxB b)) (hF : IsF w g m c l) (c0 : 0 ≤ c) (c1 : c ≤ 4611686018427387904) (hT : Tells (.iface t pv) s) :
    CallsD Tryd.prog 23 #[.pointer (some ⟨p, 0, none⟩), .pointer (some ⟨q, 0, none⟩)] (.panicking ({ v := .iface t pv, recovered := false } :: older)) w fun e u' w' =>
      e = .returned (.tuple #[]) ∧ u' = .panicking ({ v := .iface t pv, recovered := true } :: older) ∧ IsF w' g m (c + 1) s ∧ w'.heap[q]? = some (boxB false) ∧ Chg (fun k => k = g ∨ k = q) w w' := by
  refine callsD_of_wpS Tryd.func23 rfl fun c₀ cs hu => ?_
  apply wpS_seq
  apply wpS_region
  simp [wpOpsS, go_sem, recoverD, hu, Tryd.ntmps23, Exit.thenS]
  simp only [Array.replicate_succ, Array.replicate_zero, List.push_toArray, List.append_toArray, List.nil_append, List.cons_append, List.setIfInBounds_toArray, List.set_cons_succ, List.set_cons_zero]
  refine wpS_of_wp ?_
  refine Code.wp_mono (Q := Caught g q m c s w) (fun e a' w' hQ => ?_) ?_
  · cases e <;> simp only [Caught] at hQ
    obtain ⟨hd, hF', hq', hC⟩ := hQ
    exact ⟨hd, .panicking ({ v := .iface t pv, recovered := true } :: older), rfl, .tuple #[], results_none rfl _ _ _, rfl, rfl, hF', hq', hC⟩
  clear hu
  have hn : ∀ W : World, (binOp .neq 20 (.iface t pv) .nilIface).run Tryd.prog W = .ok (.bool true) W := fun _ => by kernel_rfl
  have p0 := blk_cell hp 0
  have q0 := blk_cell hq 0
  have fq := blk_frozen hq 0
  have k1 := blk_cell hF 1
  have k2 := blk_cell hF 2
  have f1 := blk_frozen hF 1
  have f2 := blk_frozen hF 2
  have hpg := blk_ne hp hF (by decide)
  have hqg := blk_ne hq hF (by decide)
  have hpq := blk_ne hp hq (by decide)
  have HP := Lib.hid hp
  have HQ := Lib.hid hq
  have HF := Lib.hid hF
  have HT := Lib.hid hT
  clear hp hq hF hT
  go_wp2
  have hpl := blk_lt HP.out
  have hgl := blk_lt HF.out
  have hql := blk_lt HQ.out
  go_region_with (go_at_call 24; refine (HT.out _).mono ?_; rintro e w1 ⟨rfl, hb⟩; have HB1 := Lib.hid hb; have t0 := (hb.cell (p := ⟨p, 0, none⟩) (by simpa [World.setCell] using hpl)); have t2 := (hb.cell (p := ⟨g, 2, none⟩) (by simpa [World.setCell] using hgl)); have s2 := (hb.frozen (p := ⟨g, 2, none⟩) (by simpa [World.setCell] using hgl)); simp [World.cell?_setCell_other, p0, k2, f2, hpg] at t0 t2 s2; clear hb)
  all_goals
    have tq := ((HB1.out.cell (p := ⟨q, 0, none⟩) (by simpa [World.setCell] using hql)))
    have sq := ((HB1.out.frozen (p := ⟨q, 0, none⟩) (by simpa [World.setCell] using hql)))
    simp [World.cell?_setCell_other, q0, fq, hqg] at tq sq
    go_wp2
    exact ⟨rfl, caught_end HF.out HQ.out hqg HB1.out⟩
end Go.Proofs.YtmanibjmcdbgaaaDoor
