/- FusePlays. -/
import Derived.Test.YtmanibjmcdbgaaaFixed
import Derived.Test.YtmanibjmcdbgaaaRef17
namespace Go.Proofs.Ytmanibjmcdbgaaa
set_option linter.unusedVariables false
set_option linter.unusedSimpArgs false
open Go.RowKit

theorem most_bd (q : Int) : 0 ≤ most q ∧ most q ≤ 4096 := by unfold most; (repeat' split) <;> omega
theorem cAt_most (m : Int) (hm : 0 ≤ m) (Z : Nat → Int) (k : Nat) : cAt m Z k ≤ m + 1 := by
  induction k with
  | zero => simp [cAt]; omega
  | succ k ih =>
    simp only [cAt, nxt, cTo]
    (repeat' split) <;> omega
theorem own_shape {w : World} {base : Nat} {e : TypeId} {size : Nat} {v : Value} {n : Nat} {xs : List Value} (h : w.ownsRow base e size v n xs) : ∃ a c, v = .slice a n c := by
  rcases h.2 with ⟨rfl, rfl⟩ | ⟨g, cap, _, rfl, _⟩
  · exact ⟨_, _, rfl⟩
  · exact ⟨_, _, rfl⟩
theorem play_at {w : World} {base : Nat} {al : Option Addr} {n cl : Nat} {M : Int} {Z : Nat → Int} (h : w.ownsRow base 3 1 (.slice al n cl) n ((counts M Z n).map (Value.int .i64))) {k : Nat} (hk : k < n) :
    ∃ g, al = some ⟨g, 0, none⟩ ∧ w.cell? ⟨g, k, none⟩ = some (.int .i64 (cAt M Z (k + 1))) := by
  obtain ⟨g, cap, e, _⟩ := h.form (by omega)
  injection e with e1 e2 e3
  subst e1 e3
  refine ⟨g, rfl, (h.cellAt k (by omega)).trans ?_⟩
  simp [counts, hk]
theorem strOf_list (ns : List Int) : (strOf ns).data.toList = ns.map fun n => UInt8.ofNat n.toNat := by
  unfold strOf
  suffices h : ∀ (acc : ByteArray), (ns.foldl (fun r n => r.push (UInt8.ofNat n.toNat)) acc).data.toList = acc.data.toList ++ ns.map fun n => UInt8.ofNat n.toNat by
    simpa using h ByteArray.empty
  induction ns with
  | nil => intro acc; simp
  | cons n ns ih =>
    intro acc
    simp only [List.foldl_cons, ih]
    simp [ByteArray.push]
theorem strOf_size (ns : List Int) : (strOf ns).size = ns.length := by
  have h := congrArg List.length (strOf_list ns)
  simpa using h
theorem chr_one (m c x : Int) : chr m c x = 45 ∨ chr m c x = 110 ∨ chr m c x = 121 := by
  unfold chr
  (repeat' split) <;> simp
theorem strOf_at (M : Int) (Z : Nat → Int) (n k : Nat) (hk : k < n) (T : ByteArray) (hT : T = strOf (letters M Z n)) (h : k < T.size) : ((T[k]'h).toNat : Int) = chr M (cAt M Z k) (Z k) := by
  subst hT
  have hl : k < (strOf (letters M Z n)).data.toList.length := by simpa using h
  have e1 : (strOf (letters M Z n)).data.toList[k]'hl = UInt8.ofNat (chr M (cAt M Z k) (Z k)).toNat := by
    have h2 := congrArg (·[k]?) (strOf_list (letters M Z n))
    simp only [List.getElem?_eq_getElem hl] at h2
    rw [List.getElem?_map, show (letters M Z n)[k]? = some (chr M (cAt M Z k) (Z k)) by simp [letters, hk]] at h2
    exact Option.some.inj h2
  have e2 : (strOf (letters M Z n))[k]'h = (strOf (letters M Z n)).data.toList[k]'hl := by
    simp [ByteArray.getElem_eq_getElem_data]
  rw [e2, e1]
  rcases chr_one M (cAt M Z k) (Z k) with e | e | e <;> rw [e] <;> rfl
set_option maxRecDepth 100000 in
set_option maxHeartbeats 6400000 in
theorem plays_walk (q : Int) (A : Option Addr) (n cp : Nat) (Z : Nat → Int) (w : World) (hA : ScriptAt w A n Z) (hn : n * 8 ≤ 140737488351232) : Calls Try.prog 3 #[.int .i64 q, .slice A n cp] w fun e w' => e = .returned (.bool true) ∧ Below w.heap.size w w' := by
  obtain ⟨M, hM⟩ : ∃ M, M = most q := ⟨_, rfl⟩
  have bM : 0 ≤ M ∧ M ≤ 4096 := by rw [hM]; exact most_bd q
  have HP := Lib.hid (fun W h => play_calls q M hM A n cp Z W h hn)
  have HS := Lib.hid (fun c x (h0 : 0 ≤ c) (h1 : c ≤ 4611686018427387904) W => refStep_calls q M c x hM h0 h1 W)
  have HM := Lib.hid (refMost_calls q M hM)
  have HA := Lib.hid hA
  clear hA hM
  go_enter Try.func3, Try.ntmps3
  go_wp2_with fail
  refine (fixed_calls _).mono ?_
  rintro e w1 ⟨rfl, hB⟩
  have HA1 : ScriptAt w1 A n Z := fun i hi => by
    obtain ⟨b, off, e, h1, h2⟩ := HA.out.below hB i hi
    exact ⟨b, off, e, Nat.lt_of_lt_of_le h1 hB.size, h2⟩
  have HA2 := Lib.hid HA1
  have HB := Lib.hid hB
  clear hB HA1
  go_wp2_with fail
  refine (HP.out w1 HA2.out).mono ?_
  rintro e w2 ⟨v, rfl, hO, hB⟩
  have HB2 := Lib.hid (HB.out.trans (hB.mono HB.out.size))
  have HA3 := Lib.hid (fun i hi => HA2.out.below hB i hi)
  obtain ⟨T, hT⟩ : ∃ T, T = strOf (letters M Z n) := ⟨_, rfl⟩
  have hTs : T.size = n := by rw [hT, strOf_size, letters_len]
  rw [← hT]
  have HT := Lib.hid hT
  obtain ⟨al, cl, rfl⟩ := own_shape hO
  have HO := Lib.hid hO
  clear hB hO hT
  go_wp2_with fail
  go_loopw [7, 33] (fun c i wr => ∃ (k : Nat), k ≤ n ∧ i = .int .i64 k ∧ c = .int .i64 (cAt M Z k) ∧ wr = w2) (fun _ i _ => n - (intOf i).toNat)
  case atStart => exact ⟨0, Nat.zero_le _, rfl, rfl, rfl⟩
  case round =>
    obtain ⟨k, hk, rfl, rfl, rfl⟩ := hrel
    by_cases hlt : k < n
    · obtain ⟨B, off, rfl, hBw, c0⟩ := HA3.out k hlt
      obtain ⟨gl, rfl, l0⟩ := play_at HO.out hlt
      obtain ⟨bd0, bd1⟩ := cAt_bd M Z k
      obtain ⟨be0, be1⟩ := cAt_bd M Z (k + 1)
      have bf := cAt_most M bM.1 Z (k + 1)
      have hstep := HS.out (cAt M Z k) (Z k) bd0 (by omega) wr
      rw [show nxt M (cAt M Z k) (Z k) = cAt M Z (k + 1) from rfl] at hstep
      obtain ⟨x, hx⟩ : ∃ x, x = Z k := ⟨_, rfl⟩
      obtain ⟨c, hc⟩ : ∃ c, c = cAt M Z k := ⟨_, rfl⟩
      obtain ⟨X, hX⟩ : ∃ X, X = cAt M Z (k + 1) := ⟨_, rfl⟩
      obtain ⟨C, hC⟩ : ∃ C, C = chr M (cAt M Z k) (Z k) := ⟨_, rfl⟩
      rw [← hC, ← hX, ← hc, ← hx] at hstep
      rw [← hX] at l0 be0 be1 bf
      rw [← hc] at bd0 bd1 ⊢
      rw [← hx] at c0
      have hTl : k < T.size := by omega
      have hTk := strOf_at M Z n k hlt T HT.out hTl
      rw [← hC] at hTk
      have HSt := Lib.hid hstep
      have HX := Lib.hid hX
      have hd : decide (M + 1 < X) = false := by simp; omega
      have HC := Lib.hid hC
      clear hstep hX hc hx hC
      go_wp2_with (first
        | (go_at_call 9; refine HSt.out.mono ?_; rintro e w' ⟨rfl, rfl⟩)
        | (go_at_call 10; refine (HM.out _).mono ?_; rintro e w' ⟨rfl, rfl⟩))
      go_roundw
      case rel => exact ⟨k + 1, by omega, by go_num, by rw [HX.out], trivial⟩
      case measure => simp [intOf]; omega
    · obtain rfl : k = n := by omega
      go_wp2
      go_ret
      exact ⟨rfl, HB2.out⟩
end Go.Proofs.Ytmanibjmcdbgaaa
