/- Two queues side by side. -/
import Derived.Test.YtodlcdpgiejnpaaDrops
namespace Go.Proofs.Ytodlcdpgiejnpaa
set_option linter.unusedVariables false
set_option linter.unusedSimpArgs false
open Go.RowKit Hp QI

structure Two (w wr : World) (L ga gb : Nat) (ba bb : Option Nat) (ka kb : Int) (Sa Sb : List (It Int)) : Prop where
  a : QIn w wr ga ba 65536 ka Sa
  b : QIn w wr gb bb 65536 kb Sb
  la : ∀ x, ba = some x → L ≤ x
  lb : ∀ x, bb = some x → L ≤ x
  ne : ∀ x, ba = some x → bb ≠ some x
  gab : ga ≠ gb
  ga_ : ga < L
  gb_ : gb < L
section
variable {w W : World} {L ga gb : Nat} {ba bb : Option Nat} {ka kb : Int} {Sa Sb : List (It Int)}
theorem Two.next (h : Two w W L ga gb ba bb ka kb Sa Sb) {W' : World} (hB : Below W.heap.size W W') : Two w W' L ga gb ba bb ka kb Sa Sb :=
  ⟨h.a.next hB, h.b.next hB, h.la, h.lb, h.ne, h.gab, h.ga_, h.gb_⟩
theorem Two.alloc (h : Two w W L ga gb ba bb ka kb Sa Sb) (o : Obj) : Two w (W.alloc o) L ga gb ba bb ka kb Sa Sb := h.next ((Below.refl _ _).alloc (Nat.le_refl _) _)
/-- a call on a third queue leaves both -/
theorem Two.apart (h : Two w W L ga gb ba bb ka kb Sa Sb) {W' : World} {gc : Nat} {bc bc' : Option Nat} (hF : Fr W W' gc bc bc') (hgc : w.heap.size ≤ gc) (hbc : ∀ x, bc = some x → w.heap.size ≤ x)
    (h1 : ga ≠ gc) (h2 : some ga ≠ bc) (h3 : gb ≠ gc) (h4 : some gb ≠ bc) (h5 : ∀ x, ba = some x → x ≠ gc ∧ some x ≠ bc) (h6 : ∀ x, bb = some x → x ≠ gc ∧ some x ≠ bc) : Two w W' L ga gb ba bb ka kb Sa Sb :=
  ⟨⟨h.a.q.apart hF h1 h2 h5, h.a.g_, h.a.b_, h.a.bel.trans (hF.below hgc hbc h.a.bel.size)⟩, ⟨h.b.q.apart hF h3 h4 h6, h.b.g_, h.b.b_, h.b.bel.trans (hF.below hgc hbc h.b.bel.size)⟩, h.la, h.lb, h.ne, h.gab, h.ga_, h.gb_⟩
theorem Two.pushA (h : Two w W L ga gb ba bb ka kb Sa Sb) (hL : L ≤ W.heap.size) (t r n x : Int) (hf : (Sa.length : Int) < 65536) (hn : ka < 9223372036854775807) :
    Calls Try.prog 14 #[.pointer (some ⟨ga, 0, none⟩), .int .i64 t, .int .i64 r, .int .i64 n, .int .i64 x] W fun e W' => e = .returned (.int .i64 0) ∧
      ∃ ba', Two w W' L ga gb ba' bb (ka + 1) kb (ins ⟨t, r, n, ka + 1, x⟩ Sa) Sb ∧ Fr W W' ga ba ba' := by
  refine (h.a.push t r n x hf hn).mono ?_
  rintro e W' ⟨rfl, ba', hq, hF⟩
  have hlb := h.b.q.lt
  refine ⟨rfl, ba', ⟨hq, ⟨h.b.q.apart hF h.gab.symm (fun e => by have := h.la _ e.symm; have := h.gb_; omega) (fun k hk => ⟨by have := h.lb k hk; have := h.ga_; omega, fun e => h.ne k e.symm hk⟩), h.b.g_, h.b.b_, hq.bel⟩, ?_, h.lb, ?_, h.gab, h.ga_, h.gb_⟩, hF⟩
  · exact hF.row h.la hL
  · intro x hx e
    rcases hF.at_ with e2 | ⟨k, e2, hk⟩
    · exact h.ne x (e2 ▸ hx) e
    · rw [e2] at hx; injection hx with hx
      have := (hlb.2 x e).1
      omega
theorem Two.swap (h : Two w W L ga gb ba bb ka kb Sa Sb) : Two w W L gb ga bb ba kb ka Sb Sa :=
  ⟨h.b, h.a, h.lb, h.la, fun x hx e => h.ne x e hx, h.gab.symm, h.gb_, h.ga_⟩
theorem Two.pushB (h : Two w W L ga gb ba bb ka kb Sa Sb) (hL : L ≤ W.heap.size) (t r n x : Int) (hf : (Sb.length : Int) < 65536) (hn : kb < 9223372036854775807) :
    Calls Try.prog 14 #[.pointer (some ⟨gb, 0, none⟩), .int .i64 t, .int .i64 r, .int .i64 n, .int .i64 x] W fun e W' => e = .returned (.int .i64 0) ∧
      ∃ bb', Two w W' L ga gb ba bb' ka (kb + 1) Sa (ins ⟨t, r, n, kb + 1, x⟩ Sb) ∧ Fr W W' gb bb bb' :=
  (h.swap.pushA hL t r n x hf hn).mono fun e W' ⟨he, bb', h', hF⟩ => ⟨he, bb', h'.swap, hF⟩
theorem Two.popA {y : It Int} (h : Two w W L ga gb ba bb ka kb (y :: Sa) Sb) : Calls Try.prog 15 #[.pointer (some ⟨ga, 0, none⟩)] W fun e W' => e = .returned (.tuple #[.int .i64 y.x, .int .i64 y.t, .bool true]) ∧ Two w W' L ga gb ba bb ka kb Sa Sb := by
  refine h.a.pop.mono ?_
  rintro e W' ⟨rfl, hq, hF⟩
  exact ⟨rfl, ⟨hq, ⟨h.b.q.apart hF h.gab.symm (fun e => by have := h.la _ e.symm; have := h.gb_; omega) (fun k hk => ⟨by have := h.lb k hk; have := h.ga_; omega, fun e => h.ne k e.symm hk⟩), h.b.g_, h.b.b_, hq.bel⟩, h.la, h.lb, h.ne, h.gab, h.ga_, h.gb_⟩⟩
theorem Two.popB {y : It Int} (h : Two w W L ga gb ba bb ka kb Sa (y :: Sb)) : Calls Try.prog 15 #[.pointer (some ⟨gb, 0, none⟩)] W fun e W' => e = .returned (.tuple #[.int .i64 y.x, .int .i64 y.t, .bool true]) ∧ Two w W' L ga gb ba bb ka kb Sa Sb :=
  (h.swap.popA).mono fun e W' ⟨he, h'⟩ => ⟨he, h'.swap⟩
end
/-- how long a queue's row is, read off the heap -/
def qlen (w : World) (g : Nat) : Nat :=
  match w.heap[g]? with
  | some (Obj.cells cs _ _) => (match (cs[2]? : Option Value) with | some (Value.slice _ n _) => n | _ => 0)
  | _ => 0
theorem qlen_is {w : World} {g : Nat} {bo : Option Nat} {most num : Int} {S : List (It Int)} (h : QAt w g bo most num S) : qlen w g = S.length := by
  obtain ⟨⟨L, ⟨cap, hq, _⟩, hp, _⟩, _⟩ := h
  unfold qlen
  unfold isQ at hq
  rw [hq]
  simp only [sl]
  exact hp.length_eq

/-- what holds while a drops its things: c gives its own, one by one; b is as it was -/
structure DInv (w : World) (gc tc tt tb gb : Nat) (bc bb : Option Nat) (th nc nb : Int) (Sa Sb : List (It Int)) (k : Nat) (W : World) : Prop where
  c : QAt W gc bc 65536 nc (Sa.drop k)
  b : QAt W gb bb 65536 nb Sb
  tc_ : W.heap[tc]? = some (.cells #[.pointer (some ⟨gc, 0, none⟩)] 37 (0, 0))
  tt_ : W.heap[tt]? = some (.cells #[.bool true] 4 (0, 0))
  tb_ : W.heap[tb]? = some (.cells #[.int .i64 th] 3 (0, 0))
  bel : Below w.heap.size w W
theorem keeps {w v : World} {gc tc tt tb gb ga : Nat} {bc bb : Option Nat} {th nc nb : Int} {Sa Sb : List (It Int)} (hw : w.heap.size ≤ v.heap.size)
    (b1 : gc < v.heap.size ∧ tc < v.heap.size ∧ tt < v.heap.size ∧ tb < v.heap.size ∧ gb < v.heap.size ∧ ga < v.heap.size) (b2 : ∀ x, bc = some x → x < v.heap.size) (b3 : ∀ x, bb = some x → x < v.heap.size)
    (l1 : w.heap.size ≤ gc ∧ w.heap.size ≤ tt ∧ w.heap.size ≤ ga) (l2 : ∀ x, bc = some x → w.heap.size ≤ x)
    (n1 : tc ≠ gc ∧ some tc ≠ bc) (n2 : tt ≠ gc ∧ some tt ≠ bc) (n3 : tb ≠ gc ∧ some tb ≠ bc) (n4 : tb ≠ tt ∧ tc ≠ tt) (n5 : gb ≠ gc ∧ some gb ≠ bc ∧ gb ≠ tt) (n6 : ∀ x, bb = some x → x ≠ gc ∧ some x ≠ bc ∧ x ≠ tt)
    (n7 : ga ≠ gc ∧ some ga ≠ bc ∧ ga ≠ tt) (n8 : ga ≠ tc ∧ ga ≠ tb ∧ ga ≠ gb) (n9 : ∀ x, bb = some x → x ≠ ga) (nx : ∀ x, bc = some x → x ≠ ga ∧ x ≠ tt) :
    Keeps v ga 18 #[.pointer (some ⟨tc, 0, none⟩), .pointer (some ⟨tt, 0, none⟩), .pointer (some ⟨tb, 0, none⟩)] Sa (fun y => decide (th ≤ y.x)) (DInv w gc tc tt tb gb bc bb th nc nb Sa Sb) where
  step := by
    intro k y W hy hI hs
    have hd : Sa.drop k = y :: Sa.drop (k + 1) := by
      obtain ⟨h1, h2⟩ := List.getElem?_eq_some_iff.1 hy
      rw [List.drop_eq_getElem_cons h1, h2]
    have hc := hI.c
    rw [hd] at hc
    refine (drops1_calls gc tc tt tb bc th nc y (Sa.drop (k + 1)) W hc hI.tc_ hI.tt_ hI.tb_ n1 n2 n3 n4.1).mono ?_
    rintro e W' ⟨rfl, w1, hq1, hF, rfl⟩
    have hset : ∀ j, j ≠ tt → (w1.setCell ⟨tt, 0, none⟩ (.bool true)).heap[j]? = w1.heap[j]? := fun j hj => Below.heap_setCell w1 _ _ j hj
    have hws : w.heap.size ≤ W.heap.size := hI.bel.size
    refine ⟨rfl, ⟨?_, ?_, ?_, ?_, ?_, ?_⟩, ?_, ?_, ?_⟩
    · exact hq1.kept (hset gc n2.1.symm) (fun x hx => hset x (nx x hx).2)
    · exact (hI.b.apart hF n5.1 n5.2.1 (fun x hx => ⟨(n6 x hx).1, (n6 x hx).2.1⟩)).kept (hset gb n5.2.2) (fun x hx => hset x (n6 x hx).2.2)
    · rw [hset tc n4.2, hF.block tc (by omega) n1.1 n1.2]; exact hI.tc_
    · have h1 := (hF.block tt (by omega) n2.1 n2.2).trans hI.tt_
      exact blk_set h1 0 _
    · rw [hset tb n4.1, hF.block tb (by omega) n3.1 n3.2]; exact hI.tb_
    · exact (hI.bel.trans (hF.below l1.1 l2 hws)).setCell l1.2.1 _
    · simp [World.setCell]; exact hF.size
    · intro j h1 h2
      rw [hset j (by omega), hF.block j h2 (by omega) (fun e => by have := b2 j e.symm; omega)]
    · rw [hset ga n7.2.2, hF.block ga (by omega) n7.1 n7.2.1]
  keep := by
    intro k W W' hI hF
    refine ⟨hI.c.kept (hF.old gc b1.1 n7.1.symm) (fun x hx => hF.old x (b2 x hx) (nx x hx).1), hI.b.kept (hF.old gb b1.2.2.2.2.1 n8.2.2.symm) (fun x hx => hF.old x (b3 x hx) (n9 x hx)),
      (hF.old tc b1.2.1 n8.1.symm).trans hI.tc_, (hF.old tt b1.2.2.1 n7.2.2.symm).trans hI.tt_, (hF.old tb b1.2.2.2.1 n8.2.1.symm).trans hI.tb_, ?_⟩
    exact ⟨hF.os.trans hI.bel.os, hF.tape.trans hI.bel.tape, hF.output.trans hI.bel.output, Nat.le_trans hI.bel.size hF.size, fun j hj => (hF.old j (by omega) (by omega)).trans (hI.bel.block j hj)⟩
  gs := b1.2.2.2.2.2
  eg := enters_of Try.func18 (by kernel_rfl) rfl
end Go.Proofs.Ytodlcdpgiejnpaa
