/- A part of the proof of the statement PlanLands: words, contracts of functions that it reaches, and what they compute. No condition. -/
import Derived.Test.YtbmldeikjfecfaaE21
import Derived.Test.YtbmldeikjfecfaaE22
set_option linter.unusedVariables false
set_option linter.unusedSimpArgs false
namespace Go.Proofs.Ytbmldeikjfecfaa.Hd
open Go.RowKit Go.Proofs.Ytbmldeikjfecfaa.T Go.Proofs.YtbmldeikjfecfaaW.PrintWords Go.Proofs.YtbmldeikjfecfaaW.PrintLast Go.Proofs.YtbmldeikjfecfaaW.PrintMore
section
variable {hosts cyc dly win prec : Int} {A5 : Option Addr} {c5 : Nat} {ds : List (List Int)} {A6 : Option Addr} {c6 : Nat} {es : List S40} {A7 : Option Addr} {c7 : Nat} {ls : List S63} {q : Int}
theorem range_any (n : Nat) (p : Nat → Bool) : (List.range n).any p = true ↔ ∃ i, i < n ∧ p i = true := by simp
set_option maxHeartbeats 3200000 in
theorem pairs_calls (l : List S40) (A : Option Addr) (c : Nat) (g : Nat) (lb : Array Value) (eg : ∀ args w, (callFunc g args).run Try.prog w = .ok (.enter g args) w) (w : World) (hr : Kd.C k40 w A l.length l) (hc : l.length ≤ c) (hlen : l.length ≤ 9223372036854775807) (bad : S40 → S40 → Bool)
    (hbad : ∀ a, a ∈ l → ∀ y, y ∈ l → ∀ W, Below w.heap.size w W → Calls Try.prog g (#[.agg #[.int .i64 a.f0, .int .u32 a.f1, .int .i64 a.f2, .int .i64 a.f3], .agg #[.int .i64 y.f0, .int .u32 y.f1, .int .i64 y.f2, .int .i64 y.f3]] ++ lb) W fun e w' => e = .returned (.bool (bad a y)) ∧ Below W.heap.size W w') :
    Calls Try.prog 73 #[.slice A l.length c, .func (.func g) #[] lb] w fun e w' => e = .returned (.bool (pairsV l bad)) ∧ Below w.heap.size w w' := by
  have eg1 : ∀ args w, (callFunc 91 args).run Try.prog w = .ok (.enter 91 args) w := ent Try.func91 (by kernel_rfl) rfl
  obtain ⟨n, hn⟩ : ∃ n, n = l.length := ⟨_, rfl⟩
  have HR := Lib.hid hr
  have HBAD := Lib.hid hbad
  have HN := Lib.hid hn
  have HE := Lib.hid eg
  have HE1 := Lib.hid eg1
  have hlen0 := hlen
  rw [← hn] at hlen hc ⊢
  clear hr hbad hn eg eg1
  go_enter Try.func73, Try.ntmps73
  go_wp2
  go_loopg [5, 6, 9] n (fun gg _ _ s9 wr => ∃ k : Nat, k ≤ n ∧ n - k ≤ gg ∧ s9 = .int .i64 k ∧ Aside (Below w.heap.size w wr) ∧ Aside (wr.heap[w.heap.size]? = some (boxF g lb 91)) ∧ Aside (∀ j, j < k → ((l.take j).any fun b => bad (l.getD j z40) b) = false))
  case atStart => exact ⟨0, Nat.zero_le _, by omega, rfl, below_alloc (Below.refl _ w) _, blk_new w _, (show Aside _ from fun j h => absurd h (Nat.not_lt_zero _))⟩
  case round =>
    obtain ⟨k, hk, hg, rfl, BW, BX, AN⟩ := hrel
    by_cases hlt : k < n
    · have hlt' : k < l.length := by have := HN.out; omega
      obtain ⟨y, hy⟩ : ∃ y, l[k]? = some y := ⟨_, List.getElem?_eq_getElem hlt'⟩
      have HY := Lib.hid hy
      have hm : y ∈ l := List.mem_iff_getElem?.2 ⟨k, hy⟩
      have hR := Kd.C_below HR.out BW.out
      obtain ⟨ad, hA, hcc⟩ := hR.2.2 (by omega)
      obtain ⟨cs, hcl, hK, hcell⟩ := hcc k y hy
      obtain rfl := k40_open hK
      have z0 := hcell 0 _ rfl
      have z1 := hcell 1 _ rfl
      have z2 := hcell 2 _ rfl
      have z3 := hcell 3 _ rfl
      have hsz : k40.sz = 4 := rfl
      rw [hsz] at z0 z1 z2 z3
      rw [Nat.add_zero] at z0
      rw [add_field _ _ 1 (by omega)] at z1
      rw [add_field _ _ 2 (by omega)] at z2
      rw [add_field _ _ 3 (by omega)] at z3
      have hbx := blk_lt BX.out
      have hC := Lib.hid (containsE 91 #[.pointer (some ⟨w.heap.size, 0, none⟩), .pointer (some ⟨wr.heap.size, 0, none⟩)] HE1.out A c (l.take k) (fun b => bad y b) (wr.alloc (.cells #[.int .i64 y.f0, .int .u32 y.f1, .int .i64 y.f2, .int .i64 y.f3] 40))
        (Kd.C_below (Kd.C_take hR (Nat.le_of_lt hlt')) (below_alloc (Below.refl _ _) _)) (by rw [List.length_take]; omega)
        (fun b hb W hW => p1_calls y b w.heap.size wr.heap.size g lb HE.out W (blk_below (blk_alloc BX.out _) hW) (blk_below (blk_new wr _) hW) (bad y b)
          (fun W' hW' => HBAD.out y hm b (List.mem_of_mem_take hb) W' (below_step (below_step (below_alloc BW.out _) hW) hW'))))
      rw [List.length_take, Nat.min_eq_left (Nat.le_of_lt hlt')] at hC
      have hq0 : ((l.take k).any fun b => bad (l.getD k z40) b) = ((l.take k).any fun b => bad y b) := by
        rw [List.getD_eq_getElem?_getD, hy]; rfl
      have HQ0 := Lib.hid hq0
      have i1 : (0 : Int) ≤ (k : Int) := by omega
      have i2 : (k : Int) < (n : Int) := by omega
      have i3 : (k : Int) ≤ (c : Int) := by omega
      clear hq0 hcell hcc hR hm hy hK hcl
      subst hA
      cases hq : ((l.take k).any fun b => bad y b) with
      | true =>
        rw [hq] at hC
        have HQ := Lib.hid hq
        clear hq
        go_wp2_with fail
        refine hC.out.mono ?_
        rintro e w' ⟨rfl, hb'⟩
        have HB := Lib.hid (below_step (below_alloc BW.out _) hb')
        clear hb' hC
        go_wp2
        go_ret
        refine ⟨?_, HB.out⟩
        have : pairsV l bad = true := by
          unfold pairsV
          exact (range_any _ _).2 ⟨k, hlt', by rw [HQ0.out]; exact HQ.out⟩
        rw [this]
        rfl
      | false =>
        rw [hq] at hC
        have HQ := Lib.hid hq
        clear hq
        go_wp2_with fail
        refine hC.out.mono ?_
        rintro e w' ⟨rfl, hb'⟩
        have HB := Lib.hid (below_step (below_alloc BW.out _) hb')
        have HX := Lib.hid (blk_below (blk_alloc BX.out (.cells #[.int .i64 y.f0, .int .u32 y.f1, .int .i64 y.f2, .int .i64 y.f3] 40)) hb')
        clear hb' hC
        go_wp2
        go_roundg (n - (k + 1))
        case measure => omega
        case rel =>
          refine ⟨k + 1, by omega, by omega, by go_num, HB.out, HX.out, (show Aside _ from fun j hj => ?_)⟩
          by_cases e : j = k
          · subst e
            rw [HQ0.out]
            exact HQ.out
          · exact AN.out j (by omega)
    · obtain rfl : k = n := by omega
      go_wp2
      go_ret
      refine ⟨?_, BW.out⟩
      have : pairsV l bad = false := by
        unfold pairsV
        rw [Bool.eq_false_iff]
        intro h
        obtain ⟨i, hi, hp⟩ := (range_any _ _).1 h
        rw [AN.out i (by have := HN.out; omega)] at hp
        cases hp
      rw [this]
      rfl
end
end Go.Proofs.Ytbmldeikjfecfaa.Hd
