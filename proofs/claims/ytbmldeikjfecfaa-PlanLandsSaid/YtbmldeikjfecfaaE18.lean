/- A part of the proof of the statement PlanLands: words, contracts of functions that it reaches, and what they compute. No condition. -/
import Derived.Test.YtbmldeikjfecfaaE02
import Derived.Lib.Hide
set_option linter.unusedVariables false
set_option linter.unusedSimpArgs false
namespace Go.Proofs.Ytbmldeikjfecfaa.Hd
open Go.RowKit Go.Proofs.Ytbmldeikjfecfaa.T Go.Proofs.YtbmldeikjfecfaaW.PrintWords Go.Proofs.YtbmldeikjfecfaaW.PrintLast Go.Proofs.YtbmldeikjfecfaaW.PrintMore
abbrev TestE (w : World) (l : List (S40)) (p : (S40) → Bool) (g : Nat) (lb : Array Value) : Prop := ∀ y, y ∈ l → ∀ W, Below w.heap.size w W → Calls Try.prog g (#[.agg #[.int .i64 y.f0, .int .u32 y.f1, .int .i64 y.f2, .int .i64 y.f3]] ++ lb) W fun e' w' => e' = .returned (.bool (p y)) ∧ Below W.heap.size W w'
set_option maxHeartbeats 1600000 in
theorem indexE (g : Nat) (lb : Array Value) (eg : ∀ args w, (callFunc g args).run Try.prog w = .ok (.enter g args) w) (A : Option Addr) (c : Nat) (l : List (S40)) (p : (S40) → Bool) (w : World) (hr : Kd.C k40 w A l.length l) (hlen : l.length ≤ 9223372036854775807)
    (hp : TestE w l p g lb) :
    Calls Try.prog 90 #[.slice A l.length c, .func (.func g) #[] lb] w fun e w' => (∃ i : Int, e = .returned (.int .i64 i) ∧ decide (0 ≤ i) = l.any p) ∧ Below w.heap.size w w' := by
  obtain ⟨n, hn⟩ : ∃ n, n = l.length := ⟨_, rfl⟩
  have HR := Lib.hid hr
  have HP := Lib.hid hp
  have HN := Lib.hid hn
  rw [← hn] at hlen ⊢
  clear hr hp hn
  go_enter Try.func90, Try.ntmps90
  go_wp2
  go_loopg [5, 8] n (fun gg _ s8 wr => ∃ k : Nat, k ≤ n ∧ n - k ≤ gg ∧ s8 = .int .i64 k ∧ Aside (Below w.heap.size w wr) ∧ Aside (∀ j y, j < k → l[j]? = some y → p y = false))
  case atStart => exact ⟨0, Nat.zero_le _, by omega, rfl, Below.refl _ w, (show Aside _ from fun j y h _ => absurd h (Nat.not_lt_zero _))⟩
  case round =>
    obtain ⟨k, hk, hg, rfl, BW, AN⟩ := hrel
    by_cases hlt : k < n
    · have hlt' : k < l.length := by have := HN.out; omega
      obtain ⟨y, hy⟩ : ∃ y, l[k]? = some y := ⟨_, List.getElem?_eq_getElem hlt'⟩
      have HY := Lib.hid hy
      have hm : y ∈ l := List.mem_iff_getElem?.2 ⟨k, hy⟩
      have hR := Kd.C_below HR.out BW.out
      obtain ⟨ad, hA, hc⟩ := hR.2.2 (by omega)
      obtain ⟨cs, hcl, hK, hcell⟩ := hc k y hy
      obtain rfl := k40_open hK
      have z0 := hcell 0 _ rfl
      have z1 := hcell 1 _ rfl
      have z2 := hcell 2 _ rfl
      have z3 := hcell 3 _ rfl
      have hsz : k40.sz = 4 := rfl
      rw [hsz] at z0 z1 z2 z3
      rw [Nat.add_zero] at z0
      rw [add_field _ _ 1 (by omega)] at z1
      rw [add_field _ _ 2 (by omega)] at z2
      rw [add_field _ _ 3 (by omega)] at z3
      have HC := Lib.hid (HP.out y hm wr BW.out)
      (try clear hK)
      (try clear hcl)
      clear hc hcell hR hm hy
      subst hA
      cases hq : p y with
      | true =>
        have HQ := Lib.hid hq
        clear hq
        go_wp2_with fail
        refine HC.out.mono ?_
        rw [HQ.out]
        rintro e w' ⟨rfl, hb'⟩
        have HB := Lib.hid (BW.out.trans (hb'.mono BW.out.size))
        clear hb' HC
        go_wp2
        go_ret
        refine ⟨⟨_, rfl, ?_⟩, HB.out⟩
        rw [decide_eq_true (by omega)]
        exact (List.any_eq_true.2 ⟨y, List.mem_iff_getElem?.2 ⟨k, HY.out⟩, HQ.out⟩).symm
      | false =>
        have HQ := Lib.hid hq
        clear hq
        go_wp2_with fail
        refine HC.out.mono ?_
        rw [HQ.out]
        rintro e w' ⟨rfl, hb'⟩
        have HB := Lib.hid (BW.out.trans (hb'.mono BW.out.size))
        clear hb' HC
        go_wp2
        go_roundg (n - (k + 1))
        case measure => omega
        case rel =>
          refine ⟨k + 1, by omega, by omega, by go_num, HB.out, (show Aside _ from fun j z hj hz => ?_)⟩
          by_cases e : j = k
          · subst e
            rw [HY.out] at hz
            cases hz
            exact HQ.out
          · exact AN.out j z (by omega) hz
    · obtain rfl : k = n := by omega
      go_wp2
      go_ret
      refine ⟨⟨_, rfl, ?_⟩, BW.out⟩
      rw [decide_eq_false (by omega)]
      refine (List.any_eq_false.2 fun y hy => ?_).symm
      obtain ⟨j, hj⟩ := List.mem_iff_getElem?.1 hy
      rw [AN.out j y (by have := (List.getElem?_eq_some_iff.1 hj).1; have := HN.out; omega) hj]
      decide
theorem containsE (g : Nat) (lb : Array Value) (eg : ∀ args w, (callFunc g args).run Try.prog w = .ok (.enter g args) w) (A : Option Addr) (c : Nat) (l : List (S40)) (p : (S40) → Bool) (w : World) (hr : Kd.C k40 w A l.length l) (hlen : l.length ≤ 9223372036854775807)
    (hp : TestE w l p g lb) :
    Calls Try.prog 69 #[.slice A l.length c, .func (.func g) #[] lb] w fun e w' => e = .returned (.bool (l.any p)) ∧ Below w.heap.size w w' := by
  have H := Lib.hid (indexE g lb eg A c l p w hr hlen hp)
  clear hr hlen hp
  go_enter Try.func69, Try.ntmps69
  go_wp2_with fail
  refine H.out.mono ?_
  rintro e w' ⟨⟨i, rfl, hi⟩, hb⟩
  have HI := Lib.hid hi
  have HB := Lib.hid hb
  clear hi hb
  go_wp2
  go_ret
  exact ⟨by rw [← HI.out]; rfl, HB.out⟩
abbrev TestL (w : World) (l : List (S63)) (p : (S63) → Bool) (g : Nat) (lb : Array Value) : Prop := ∀ y, y ∈ l → ∀ W, Below w.heap.size w W → Calls Try.prog g (#[.agg #[.int .i64 y.f0, .int .u32 y.f1, .int .i64 y.f2, .int .i64 y.f3]] ++ lb) W fun e' w' => e' = .returned (.bool (p y)) ∧ Below W.heap.size W w'
set_option maxHeartbeats 1600000 in
theorem indexL (g : Nat) (lb : Array Value) (eg : ∀ args w, (callFunc g args).run Try.prog w = .ok (.enter g args) w) (A : Option Addr) (c : Nat) (l : List (S63)) (p : (S63) → Bool) (w : World) (hr : Kd.C k63 w A l.length l) (hlen : l.length ≤ 9223372036854775807)
    (hp : TestL w l p g lb) :
    Calls Try.prog 77 #[.slice A l.length c, .func (.func g) #[] lb] w fun e w' => (∃ i : Int, e = .returned (.int .i64 i) ∧ decide (0 ≤ i) = l.any p) ∧ Below w.heap.size w w' := by
  obtain ⟨n, hn⟩ : ∃ n, n = l.length := ⟨_, rfl⟩
  have HR := Lib.hid hr
  have HP := Lib.hid hp
  have HN := Lib.hid hn
  rw [← hn] at hlen ⊢
  clear hr hp hn
  go_enter Try.func77, Try.ntmps77
  go_wp2
  go_loopg [5, 8] n (fun gg _ s8 wr => ∃ k : Nat, k ≤ n ∧ n - k ≤ gg ∧ s8 = .int .i64 k ∧ Aside (Below w.heap.size w wr) ∧ Aside (∀ j y, j < k → l[j]? = some y → p y = false))
  case atStart => exact ⟨0, Nat.zero_le _, by omega, rfl, Below.refl _ w, (show Aside _ from fun j y h _ => absurd h (Nat.not_lt_zero _))⟩
  case round =>
    obtain ⟨k, hk, hg, rfl, BW, AN⟩ := hrel
    by_cases hlt : k < n
    · have hlt' : k < l.length := by have := HN.out; omega
      obtain ⟨y, hy⟩ : ∃ y, l[k]? = some y := ⟨_, List.getElem?_eq_getElem hlt'⟩
      have HY := Lib.hid hy
      have hm : y ∈ l := List.mem_iff_getElem?.2 ⟨k, hy⟩
      have hR := Kd.C_below HR.out BW.out
      obtain ⟨ad, hA, hc⟩ := hR.2.2 (by omega)
      obtain ⟨cs, hcl, hK, hcell⟩ := hc k y hy
      obtain rfl := k63_open hK
      have z0 := hcell 0 _ rfl
      have z1 := hcell 1 _ rfl
      have z2 := hcell 2 _ rfl
      have z3 := hcell 3 _ rfl
      have hsz : k63.sz = 4 := rfl
      rw [hsz] at z0 z1 z2 z3
      rw [Nat.add_zero] at z0
      rw [add_field _ _ 1 (by omega)] at z1
      rw [add_field _ _ 2 (by omega)] at z2
      rw [add_field _ _ 3 (by omega)] at z3
      have HC := Lib.hid (HP.out y hm wr BW.out)
      (try clear hK)
      (try clear hcl)
      clear hc hcell hR hm hy
      subst hA
      cases hq : p y with
      | true =>
        have HQ := Lib.hid hq
        clear hq
        go_wp2_with fail
        refine HC.out.mono ?_
        rw [HQ.out]
        rintro e w' ⟨rfl, hb'⟩
        have HB := Lib.hid (BW.out.trans (hb'.mono BW.out.size))
        clear hb' HC
        go_wp2
        go_ret
        refine ⟨⟨_, rfl, ?_⟩, HB.out⟩
        rw [decide_eq_true (by omega)]
        exact (List.any_eq_true.2 ⟨y, List.mem_iff_getElem?.2 ⟨k, HY.out⟩, HQ.out⟩).symm
      | false =>
        have HQ := Lib.hid hq
        clear hq
        go_wp2_with fail
        refine HC.out.mono ?_
        rw [HQ.out]
        rintro e w' ⟨rfl, hb'⟩
        have HB := Lib.hid (BW.out.trans (hb'.mono BW.out.size))
        clear hb' HC
        go_wp2
        go_roundg (n - (k + 1))
        case measure => omega
        case rel =>
          refine ⟨k + 1, by omega, by omega, by go_num, HB.out, (show Aside _ from fun j z hj hz => ?_)⟩
          by_cases e : j = k
          · subst e
            rw [HY.out] at hz
            cases hz
            exact HQ.out
          · exact AN.out j z (by omega) hz
    · obtain rfl : k = n := by omega
      go_wp2
      go_ret
      refine ⟨⟨_, rfl, ?_⟩, BW.out⟩
      rw [decide_eq_false (by omega)]
      refine (List.any_eq_false.2 fun y hy => ?_).symm
      obtain ⟨j, hj⟩ := List.mem_iff_getElem?.1 hy
      rw [AN.out j y (by have := (List.getElem?_eq_some_iff.1 hj).1; have := HN.out; omega) hj]
      decide
theorem containsL (g : Nat) (lb : Array Value) (eg : ∀ args w, (callFunc g args).run Try.prog w = .ok (.enter g args) w) (A : Option Addr) (c : Nat) (l : List (S63)) (p : (S63) → Bool) (w : World) (hr : Kd.C k63 w A l.length l) (hlen : l.length ≤ 9223372036854775807)
    (hp : TestL w l p g lb) :
    Calls Try.prog 58 #[.slice A l.length c, .func (.func g) #[] lb] w fun e w' => e = .returned (.bool (l.any p)) ∧ Below w.heap.size w w' := by
  have H := Lib.hid (indexL g lb eg A c l p w hr hlen hp)
  clear hr hlen hp
  go_enter Try.func58, Try.ntmps58
  go_wp2_with fail
  refine H.out.mono ?_
  rintro e w' ⟨⟨i, rfl, hi⟩, hb⟩
  have HI := Lib.hid hi
  have HB := Lib.hid hb
  clear hi hb
  go_wp2
  go_ret
  exact ⟨by rw [← HI.out]; rfl, HB.out⟩
abbrev TestI (w : World) (l : List (Int)) (p : (Int) → Bool) (g : Nat) (lb : Array Value) : Prop := ∀ y, y ∈ l → ∀ W, Below w.heap.size w W → Calls Try.prog g (#[.int .i64 y] ++ lb) W fun e' w' => e' = .returned (.bool (p y)) ∧ Below W.heap.size W w'
set_option maxHeartbeats 1600000 in
theorem indexI (g : Nat) (lb : Array Value) (eg : ∀ args w, (callFunc g args).run Try.prog w = .ok (.enter g args) w) (A : Option Addr) (c : Nat) (l : List (Int)) (p : (Int) → Bool) (w : World) (hr : Kd.C (Kd.int .i64) w A l.length l) (hlen : l.length ≤ 9223372036854775807)
    (hp : TestI w l p g lb) :
    Calls Try.prog 89 #[.slice A l.length c, .func (.func g) #[] lb] w fun e w' => (∃ i : Int, e = .returned (.int .i64 i) ∧ decide (0 ≤ i) = l.any p) ∧ Below w.heap.size w w' := by
  obtain ⟨n, hn⟩ : ∃ n, n = l.length := ⟨_, rfl⟩
  have HR := Lib.hid hr
  have HP := Lib.hid hp
  have HN := Lib.hid hn
  rw [← hn] at hlen ⊢
  clear hr hp hn
  go_enter Try.func89, Try.ntmps89
  go_wp2
  go_loopg [5, 8] n (fun gg _ s8 wr => ∃ k : Nat, k ≤ n ∧ n - k ≤ gg ∧ s8 = .int .i64 k ∧ Aside (Below w.heap.size w wr) ∧ Aside (∀ j y, j < k → l[j]? = some y → p y = false))
  case atStart => exact ⟨0, Nat.zero_le _, by omega, rfl, Below.refl _ w, (show Aside _ from fun j y h _ => absurd h (Nat.not_lt_zero _))⟩
  case round =>
    obtain ⟨k, hk, hg, rfl, BW, AN⟩ := hrel
    by_cases hlt : k < n
    · have hlt' : k < l.length := by have := HN.out; omega
      obtain ⟨y, hy⟩ : ∃ y, l[k]? = some y := ⟨_, List.getElem?_eq_getElem hlt'⟩
      have HY := Lib.hid hy
      have hm : y ∈ l := List.mem_iff_getElem?.2 ⟨k, hy⟩
      have hR := Kd.C_below HR.out BW.out
      obtain ⟨ad, hA, hc⟩ := hR.2.2 (by omega)
      obtain ⟨cs, hcl, hK, hcell⟩ := hc k y hy
      obtain rfl : cs = [.int .i64 y] := hK
      have z0 := hcell 0 _ rfl
      have hsz : (Kd.int .i64).sz = 1 := rfl
      rw [hsz, Nat.mul_one, Nat.add_zero] at z0
      have HC := Lib.hid (HP.out y hm wr BW.out)
      (try clear hK)
      (try clear hcl)
      clear hc hcell hR hm hy
      subst hA
      cases hq : p y with
      | true =>
        have HQ := Lib.hid hq
        clear hq
        go_wp2_with fail
        refine HC.out.mono ?_
        rw [HQ.out]
        rintro e w' ⟨rfl, hb'⟩
        have HB := Lib.hid (BW.out.trans (hb'.mono BW.out.size))
        clear hb' HC
        go_wp2
        go_ret
        refine ⟨⟨_, rfl, ?_⟩, HB.out⟩
        rw [decide_eq_true (by omega)]
        exact (List.any_eq_true.2 ⟨y, List.mem_iff_getElem?.2 ⟨k, HY.out⟩, HQ.out⟩).symm
      | false =>
        have HQ := Lib.hid hq
        clear hq
        go_wp2_with fail
        refine HC.out.mono ?_
        rw [HQ.out]
        rintro e w' ⟨rfl, hb'⟩
        have HB := Lib.hid (BW.out.trans (hb'.mono BW.out.size))
        clear hb' HC
        go_wp2
        go_roundg (n - (k + 1))
        case measure => omega
        case rel =>
          refine ⟨k + 1, by omega, by omega, by go_num, HB.out, (show Aside _ from fun j z hj hz => ?_)⟩
          by_cases e : j = k
          · subst e
            rw [HY.out] at hz
            cases hz
            exact HQ.out
          · exact AN.out j z (by omega) hz
    · obtain rfl : k = n := by omega
      go_wp2
      go_ret
      refine ⟨⟨_, rfl, ?_⟩, BW.out⟩
      rw [decide_eq_false (by omega)]
      refine (List.any_eq_false.2 fun y hy => ?_).symm
      obtain ⟨j, hj⟩ := List.mem_iff_getElem?.1 hy
      rw [AN.out j y (by have := (List.getElem?_eq_some_iff.1 hj).1; have := HN.out; omega) hj]
      decide
theorem containsI (g : Nat) (lb : Array Value) (eg : ∀ args w, (callFunc g args).run Try.prog w = .ok (.enter g args) w) (A : Option Addr) (c : Nat) (l : List (Int)) (p : (Int) → Bool) (w : World) (hr : Kd.C (Kd.int .i64) w A l.length l) (hlen : l.length ≤ 9223372036854775807)
    (hp : TestI w l p g lb) :
    Calls Try.prog 65 #[.slice A l.length c, .func (.func g) #[] lb] w fun e w' => e = .returned (.bool (l.any p)) ∧ Below w.heap.size w w' := by
  have H := Lib.hid (indexI g lb eg A c l p w hr hlen hp)
  clear hr hlen hp
  go_enter Try.func65, Try.ntmps65
  go_wp2_with fail
  refine H.out.mono ?_
  rintro e w' ⟨⟨i, rfl, hi⟩, hb⟩
  have HI := Lib.hid hi
  have HB := Lib.hid hb
  clear hi hb
  go_wp2
  go_ret
  exact ⟨by rw [← HI.out]; rfl, HB.out⟩
abbrev TestR (w : World) (l : List (List Int)) (p : (List Int) → Bool) (g : Nat) (lb : Array Value) : Prop := ∀ y, y ∈ l → ∀ W, Below w.heap.size w W → ∀ yA yc, y.length ≤ yc → (Kd.int .i64).C W yA y.length y → Calls Try.prog g (#[.slice yA y.length yc] ++ lb) W fun e' w' => e' = .returned (.bool (p y)) ∧ Below W.heap.size W w'
set_option maxHeartbeats 1600000 in
theorem indexR (g : Nat) (lb : Array Value) (eg : ∀ args w, (callFunc g args).run Try.prog w = .ok (.enter g args) w) (A : Option Addr) (c : Nat) (l : List (List Int)) (p : (List Int) → Bool) (w : World) (hr : Kd.C (Kd.slice 2 (Kd.int .i64)) w A l.length l) (hlen : l.length ≤ 9223372036854775807)
    (hp : TestR w l p g lb) :
    Calls Try.prog 88 #[.slice A l.length c, .func (.func g) #[] lb] w fun e w' => (∃ i : Int, e = .returned (.int .i64 i) ∧ decide (0 ≤ i) = l.any p) ∧ Below w.heap.size w w' := by
  obtain ⟨n, hn⟩ : ∃ n, n = l.length := ⟨_, rfl⟩
  have HR := Lib.hid hr
  have HP := Lib.hid hp
  have HN := Lib.hid hn
  rw [← hn] at hlen ⊢
  clear hr hp hn
  go_enter Try.func88, Try.ntmps88
  go_wp2
  go_loopg [5, 8] n (fun gg _ s8 wr => ∃ k : Nat, k ≤ n ∧ n - k ≤ gg ∧ s8 = .int .i64 k ∧ Aside (Below w.heap.size w wr) ∧ Aside (∀ j y, j < k → l[j]? = some y → p y = false))
  case atStart => exact ⟨0, Nat.zero_le _, by omega, rfl, Below.refl _ w, (show Aside _ from fun j y h _ => absurd h (Nat.not_lt_zero _))⟩
  case round =>
    obtain ⟨k, hk, hg, rfl, BW, AN⟩ := hrel
    by_cases hlt : k < n
    · have hlt' : k < l.length := by have := HN.out; omega
      obtain ⟨y, hy⟩ : ∃ y, l[k]? = some y := ⟨_, List.getElem?_eq_getElem hlt'⟩
      have HY := Lib.hid hy
      have hm : y ∈ l := List.mem_iff_getElem?.2 ⟨k, hy⟩
      have hR := Kd.C_below HR.out BW.out
      obtain ⟨ad, hA, hc⟩ := hR.2.2 (by omega)
      obtain ⟨cs, hcl, hK, hcell⟩ := hc k y hy
      obtain ⟨yA, yc, rfl, hyc, hyr⟩ := hK
      have z0 := hcell 0 _ rfl
      have hsz : (Kd.slice 2 (Kd.int .i64)).sz = 1 := rfl
      rw [hsz, Nat.mul_one, Nat.add_zero] at z0
      have HC := Lib.hid (HP.out y hm wr BW.out yA yc hyc hyr)
      clear hyr hyc
      (try clear hK)
      (try clear hcl)
      clear hc hcell hR hm hy
      subst hA
      cases hq : p y with
      | true =>
        have HQ := Lib.hid hq
        clear hq
        go_wp2_with fail
        refine HC.out.mono ?_
        rw [HQ.out]
        rintro e w' ⟨rfl, hb'⟩
        have HB := Lib.hid (BW.out.trans (hb'.mono BW.out.size))
        clear hb' HC
        go_wp2
        go_ret
        refine ⟨⟨_, rfl, ?_⟩, HB.out⟩
        rw [decide_eq_true (by omega)]
        exact (List.any_eq_true.2 ⟨y, List.mem_iff_getElem?.2 ⟨k, HY.out⟩, HQ.out⟩).symm
      | false =>
        have HQ := Lib.hid hq
        clear hq
        go_wp2_with fail
        refine HC.out.mono ?_
        rw [HQ.out]
        rintro e w' ⟨rfl, hb'⟩
        have HB := Lib.hid (BW.out.trans (hb'.mono BW.out.size))
        clear hb' HC
        go_wp2
        go_roundg (n - (k + 1))
        case measure => omega
        case rel =>
          refine ⟨k + 1, by omega, by omega, by go_num, HB.out, (show Aside _ from fun j z hj hz => ?_)⟩
          by_cases e : j = k
          · subst e
            rw [HY.out] at hz
            cases hz
            exact HQ.out
          · exact AN.out j z (by omega) hz
    · obtain rfl : k = n := by omega
      go_wp2
      go_ret
      refine ⟨⟨_, rfl, ?_⟩, BW.out⟩
      rw [decide_eq_false (by omega)]
      refine (List.any_eq_false.2 fun y hy => ?_).symm
      obtain ⟨j, hj⟩ := List.mem_iff_getElem?.1 hy
      rw [AN.out j y (by have := (List.getElem?_eq_some_iff.1 hj).1; have := HN.out; omega) hj]
      decide
theorem containsR (g : Nat) (lb : Array Value) (eg : ∀ args w, (callFunc g args).run Try.prog w = .ok (.enter g args) w) (A : Option Addr) (c : Nat) (l : List (List Int)) (p : (List Int) → Bool) (w : World) (hr : Kd.C (Kd.slice 2 (Kd.int .i64)) w A l.length l) (hlen : l.length ≤ 9223372036854775807)
    (hp : TestR w l p g lb) :
    Calls Try.prog 63 #[.slice A l.length c, .func (.func g) #[] lb] w fun e w' => e = .returned (.bool (l.any p)) ∧ Below w.heap.size w w' := by
  have H := Lib.hid (indexR g lb eg A c l p w hr hlen hp)
  clear hr hlen hp
  go_enter Try.func63, Try.ntmps63
  go_wp2_with fail
  refine H.out.mono ?_
  rintro e w' ⟨⟨i, rfl, hi⟩, hb⟩
  have HI := Lib.hid hi
  have HB := Lib.hid hb
  clear hi hb
  go_wp2
  go_ret
  exact ⟨by rw [← HI.out]; rfl, HB.out⟩
end Go.Proofs.Ytbmldeikjfecfaa.Hd
