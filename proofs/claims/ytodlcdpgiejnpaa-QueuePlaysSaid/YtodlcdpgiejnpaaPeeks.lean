/- The law: what is looked at is what is popped next, and looking changes nothing. -/
import Derived.Test.YtodlcdpgiejnpaaOpen
namespace Go.Proofs.Ytodlcdpgiejnpaa
set_option linter.unusedVariables false
set_option linter.unusedSimpArgs false
open Go.RowKit Hp QI

/-- a queue that lies behind what there was at the start -/
structure QIn (w0 w : World) (g : Nat) (bo : Option Nat) (most num : Int) (S : List (It Int)) : Prop where
  q : QAt w g bo most num S
  g_ : w0.heap.size ≤ g
  b_ : ∀ k, bo = some k → w0.heap.size ≤ k
  bel : Below w0.heap.size w0 w
section
variable {w0 w : World} {g : Nat} {bo : Option Nat} {most num : Int} {S : List (It Int)}
theorem QIn.next (h : QIn w0 w g bo most num S) {w' : World} (hB : Below w.heap.size w w') : QIn w0 w' g bo most num S :=
  ⟨h.q.below hB, h.g_, h.b_, h.bel.trans (hB.mono h.bel.size)⟩
theorem QIn.alloc (h : QIn w0 w g bo most num S) (o : Obj) : QIn w0 (w.alloc o) g bo most num S := h.next ((Below.refl _ _).alloc (Nat.le_refl _) _)
theorem QIn.push_full (h : QIn w0 w g bo most num S) (t r n : Int) (x : Int) (hf : (S.length : Int) = most) :
    Calls Try.prog 14 #[.pointer (some ⟨g, 0, none⟩), .int .i64 t, .int .i64 r, .int .i64 n, .int .i64 x] w fun e w' => e = .returned (.int .i64 6) ∧ QIn w0 w' g bo most num S ∧ Below w.heap.size w w' :=
  (push_full_at h.q t r n x hf).mono fun e w' ⟨he, hB⟩ => ⟨he, h.next hB, hB⟩
theorem QIn.push (h : QIn w0 w g bo most num S) (t r n : Int) (x : Int) (hf : (S.length : Int) < most) (hn : num < 9223372036854775807) :
    Calls Try.prog 14 #[.pointer (some ⟨g, 0, none⟩), .int .i64 t, .int .i64 r, .int .i64 n, .int .i64 x] w fun e w' => e = .returned (.int .i64 0) ∧
      ∃ bo', QIn w0 w' g bo' most (num + 1) (ins ⟨t, r, n, num + 1, x⟩ S) ∧ Fr w w' g bo bo' :=
  (push_at h.q t r n x hf hn).mono fun e w' ⟨he, bo', hq, hF⟩ => ⟨he, bo', ⟨hq, h.g_, hF.row h.b_ h.bel.size, h.bel.trans (hF.below h.g_ h.b_ h.bel.size)⟩, hF⟩
theorem QIn.peek {y : It Int} (h : QIn w0 w g bo most num (y :: S)) : Calls Try.prog 19 #[.pointer (some ⟨g, 0, none⟩)] w fun e w' => e = .returned (.tuple #[.int .i64 y.x, .int .i64 y.t, .bool true]) ∧ QIn w0 w' g bo most num (y :: S) :=
  (peek_at h.q).mono fun e w' ⟨he, hB⟩ => ⟨he, h.next hB⟩
theorem QIn.pop {y : It Int} (h : QIn w0 w g bo most num (y :: S)) : Calls Try.prog 15 #[.pointer (some ⟨g, 0, none⟩)] w fun e w' => e = .returned (.tuple #[.int .i64 y.x, .int .i64 y.t, .bool true]) ∧
    QIn w0 w' g bo most num S ∧ Fr w w' g bo bo :=
  (pop_at h.q).mono fun e w' ⟨he, hq, hF⟩ => ⟨he, ⟨hq, h.g_, h.b_, h.bel.trans (hF.below h.g_ h.b_ h.bel.size)⟩, hF⟩
end

set_option maxRecDepth 100000 in
set_option maxHeartbeats 6400000 in
theorem peeks_main (A : Option Addr) (c : Nat) (ops : List Opp) (w : World) (hA : OpsAt w A ops) (hn : ops.length * 40 ≤ 140737488351232) :
    Calls Try.prog 7 #[.slice A ops.length c] w fun e w' => e = .returned (.bool true) ∧ Below w.heap.size w w' := by
  obtain ⟨n, hnl⟩ : ∃ n, n = ops.length := ⟨_, rfl⟩
  rw [← hnl] at hn ⊢
  have HA := Lib.hid hA
  have HN := Lib.hid hnl
  clear hA hnl
  go_enter Try.func7, Try.ntmps7
  go_wp2_with fail
  refine (fixed_calls _).mono ?_
  rintro e w0 ⟨rfl, hB0⟩
  have HB0 := Lib.hid hB0
  clear hB0
  go_wp2_with fail
  refine (new_at 100 _).mono ?_
  rintro e w1 ⟨rfl, hQ1, hB1⟩
  obtain ⟨g, hg⟩ : ∃ g, g = w0.heap.size := ⟨_, rfl⟩
  rw [← hg] at hQ1 ⊢
  have HQ1 := Lib.hid (show QIn w w1 g none 100 0 [] from ⟨hQ1, by have := HB0.out.size; omega, by simp, HB0.out.trans (hB1.mono HB0.out.size)⟩)
  clear hQ1 hB1 hg
  go_wp2_with fail
  go_loopw [22] (fun i wr => ∃ (k : Nat) (bo : Option Nat) (num : Int) (S : List (It Int)), k ≤ n ∧ i = .int .i64 k ∧ num ≤ k ∧ QIn w wr g bo 100 num S) (fun i _ => n - (intOf i).toNat)
  case atStart => exact ⟨0, none, 0, [], Nat.zero_le _, rfl, by omega, HQ1.out⟩
  case round =>
    rename World => wo
    obtain ⟨k, bo, num, S, hk, rfl, hnum, hQ⟩ := hrel
    clear HQ1
    by_cases hlt : k < n
    · obtain ⟨o, ho⟩ : ∃ o, ops[k]? = some o := ⟨_, List.getElem?_eq_getElem (by have := HN.out; omega)⟩
      obtain ⟨B, off, rfl, hB, c0, c1, c2, c3, c4⟩ := (HA.out.below hQ.bel) k o ho
      have HQ := Lib.hid (hQ.alloc (.cells #[.int .i64 o.kd, .int .i64 o.t, .int .i64 o.r, .int .i64 o.n, .int .i64 o.x] 28))
      have hm := hQ.q.2.2.1
      have hnum2 : num < 9223372036854775807 := by omega
      clear hQ ho
      go_wp2_with fail
      refine (len_at HQ.out.q).mono ?_
      rintro e w2 ⟨rfl, rfl⟩
      by_cases k1 : o.kd = 1
      · obtain ⟨kd, ot, orr, on, ox⟩ := o
        simp only at k1 c0 c1 c2 c3 c4 HQ
        subst k1
        by_cases hf : (S.length : Int) < 100
        · have hf2 : (S.length : Int) < 100 := hf
          have HC := Lib.hid (HQ.out.push ot orr on ox hf hnum2)
          go_wp2_with fail
          refine HC.out.mono ?_
          rintro e w3 ⟨rfl, bo', hq3, hF⟩
          have HQ3 := Lib.hid hq3
          clear hq3 hF HC
          go_wp2
          exact ⟨⟨k + 1, bo', num + 1, _, by omega, by go_num, by omega, HQ3.out⟩, by simp [intOf]; omega⟩
        · have HC := Lib.hid (HQ.out.push_full ot orr on ox (by omega))
          go_wp2_with fail
          refine HC.out.mono ?_
          rintro e w3 ⟨rfl, hq3, hF⟩
          have HQ3 := Lib.hid hq3
          clear hq3 hF HC
          go_wp2
          exact ⟨⟨k + 1, bo, num, _, by omega, by go_num, by omega, HQ3.out⟩, by simp [intOf]; omega⟩
      · have q1 : (o.kd == 1) = false := by simpa using k1
        cases S with
        | nil =>
          have HC := Lib.hid (peek_none_at HQ.out.q)
          have HC2 := Lib.hid (pop_none_at HQ.out.q)
          have HC3 := Lib.hid (len_at HQ.out.q)
          clear k1 hm
          go_wp2_with fail
          refine HC.out.mono ?_
          rintro e w3 ⟨rfl, rfl⟩
          go_wp2_with fail
          refine HC.out.mono ?_
          rintro e w3 ⟨rfl, rfl⟩
          go_wp2_with fail
          refine HC3.out.mono ?_
          rintro e w3 ⟨rfl, rfl⟩
          go_wp2_with fail
          refine HC2.out.mono ?_
          rintro e w3 ⟨rfl, rfl⟩
          go_wp2
          exact ⟨⟨k + 1, bo, num, [], by omega, by go_num, by omega, HQ.out⟩, by simp [intOf]; omega⟩
        | cons y S =>
          clear k1
          go_wp2_with fail
          refine HQ.out.peek.mono ?_
          rintro e w3 ⟨rfl, hq3⟩
          have HQ3 := Lib.hid hq3
          clear hq3 HQ c0 c1 c2 c3 c4
          go_wp2_with fail
          refine HQ3.out.peek.mono ?_
          rintro e w4 ⟨rfl, hq4⟩
          have HQ4 := Lib.hid hq4
          clear hq4 HQ3
          go_wp2_with fail
          refine (len_at HQ4.out.q).mono ?_
          rintro e w5 ⟨rfl, rfl⟩
          go_wp2_with fail
          refine HQ4.out.pop.mono ?_
          rintro e w5 ⟨rfl, hq5, _⟩
          have HQ5 := Lib.hid hq5
          clear hq5 HQ4
          go_wp2_with fail
          refine (len_at HQ5.out.q).mono ?_
          rintro e w6 ⟨rfl, rfl⟩
          simp only [List.length_cons] at hm
          go_wp2
          exact ⟨⟨k + 1, bo, num, S, by omega, by go_num, by omega, HQ5.out⟩, by simp [intOf]; omega⟩
    · obtain rfl : k = n := by omega
      have HQ := Lib.hid hQ
      clear hQ
      go_wp2
      go_ret
      exact ⟨rfl, HQ.out.bel⟩
theorem peeks_walk {H : Type} {enc : TypeId × Value → H} {base : Nat} {dd : DataW H} {p : List MemPlace} {ts : List TypeId} {ds : List (DataW H)} (v : Value) {w : World}
    (hok : Value.okWide Try.prog w .any base 22 v) (hr : DataW.Trod enc Try.prog w 0 (fun _ => true) true 22 v dd p)
    (hsz : (DataW.weightsEach Try.prog ts ds).all (· ≤ reachBytes) = true) (htj : ts[0]? = some 22) (hdj : ds[0]? = some dd) (w' : World) (hw : w' = w) :
    Calls Try.prog 7 #[v] w' fun e w1 => e = .returned (.bool true) ∧ Below w'.heap.size w' w1 := by
  subst hw
  obtain ⟨A, ops, c, rfl, hA, _, _, hn⟩ := script_open hok hr hsz htj hdj
  exact peeks_main A c ops _ hA hn
end Go.Proofs.Ytodlcdpgiejnpaa
