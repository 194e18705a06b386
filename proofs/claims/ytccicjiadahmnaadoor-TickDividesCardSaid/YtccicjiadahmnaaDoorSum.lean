/- The sum of all. -/
import Derived.Test.YtccicjiadahmnaaDoorMd2
import Derived.Laws.Externs
import Derived.LoopTactic
import Derived.Outline
namespace Go.Proofs.YtccicjiadahmnaaDoor.Hd
set_option linter.unusedVariables false
set_option linter.unusedSimpArgs false
open Go.RowKit Go.Proofs.YtccicjiadahmnaaDoorW.PrintWords

theorem add64 (x y : Int) (x0 : 0 ≤ x) (x1 : x < 18446744073709551616) (y0 : 0 ≤ y) (y1 : y < 18446744073709551616) (w : World) :
    (callFunc 46 #[.int .u64 x, .int .u64 y, .int .u64 0]).run Tryd.prog w = .ok (.value (.tuple #[.int .u64 ((x + y) % 18446744073709551616), .int .u64 ((x + y) / 18446744073709551616)])) w := by
  obtain ⟨a, rfl⟩ := Int.eq_ofNat_of_zero_le x0
  obtain ⟨b, rfl⟩ := Int.eq_ofNat_of_zero_le y0
  have h := run_add64 (P := Tryd.prog) a b 0 (by omega) (by omega) (by omega) (by omega) w
  rw [run_callFunc_extern Tryd.func46 (by kernel_rfl) (by kernel_rfl) (by kernel_rfl) (e := add64Entry) (by kernel_rfl), h]
  simp only [Result.andThen]
  congr 5 <;> omega
def boxS (A : Option Addr) (n c : Nat) : Obj := .cells #[.slice A n c] 37 (0, 0)
def pre (xs : List Int) (k : Nat) : Int := (xs.take k).sum
theorem pre_succ (xs : List Int) (k : Nat) (h : k < xs.length) : pre xs (k + 1) = pre xs k + xs.getD k 0 := by
  unfold pre
  rw [List.take_succ_eq_append_getElem h, List.sum_append, List.getD_eq_getElem?_getD, List.getElem?_eq_getElem h]
  simp
theorem pre_range (xs : List Int) (h : ∀ x ∈ xs, inR x) (k : Nat) : -(9223372036854775808 * (k : Int)) ≤ pre xs k ∧ pre xs k ≤ 9223372036854775808 * (k : Int) := by
  unfold pre
  induction k generalizing xs with
  | zero => simp
  | succ k ih =>
    cases xs with
    | nil => simp; omega
    | cons x xs =>
      have h1 := ih xs (fun y hy => h y (List.mem_cons_of_mem _ hy))
      have h2 := h x (List.mem_cons_self ..)
      simp only [List.take_succ_cons, List.sum_cons]
      unfold inR at h2
      omega
theorem sum1w (p : Nat) (A : Option Addr) (c : Nat) (xs : List Int) (hx : ∀ x ∈ xs, inR x) (hlen : xs.length * 8 ≤ 140737488351232) (w : World) (hp : w.heap[p]? = some (boxS A xs.length c)) (hr : ReadsOf (Value.int .i64) 0 w A xs.length xs) (e0 : Ending)
    (E1 : Hid (inR xs.sum → e0 = .returned (.int .i64 xs.sum))) (E2 : Hid (¬ inR xs.sum → e0 = endB)) :
    Calls Tryd.prog 45 #[.pointer (some ⟨p, 0, none⟩)] w fun e w' => e = e0 ∧ Below w.heap.size w w' := by
  have p0 := blk_cell hp 0
  have HR := Lib.hid hr
  have HX := Lib.hid hx
  obtain ⟨len, hl⟩ : ∃ n, n = xs.length := ⟨_, rfl⟩
  rw [← hl] at p0 hlen
  have HL := Lib.hid hl
  clear hp hr hx hl
  go_enter Tryd.func45, Tryd.ntmps45
  go_wp2
  go_loop [2, 3, 9] (fun h l i => ∃ k : Nat, k ≤ len ∧ i = .int .i64 k ∧ h = .int .i64 (pre xs k / 18446744073709551616) ∧ l = .int .u64 (pre xs k % 18446744073709551616)) (fun _ _ i => len - (intOf i).toNat)
  case atStart => exact ⟨0, by omega, rfl, rfl, rfl⟩
  case round =>
    obtain ⟨k, hk, rfl, rfl, rfl⟩ := hrel
    have hrg := pre_range xs HX.out k
    obtain ⟨s, hs⟩ : ∃ s, s = pre xs k := ⟨_, rfl⟩
    rw [← hs] at hrg ⊢
    obtain ⟨h, hh⟩ : ∃ h, h = s / 18446744073709551616 := ⟨_, rfl⟩
    obtain ⟨l, hl⟩ : ∃ l, l = s % 18446744073709551616 := ⟨_, rfl⟩
    rw [← hh, ← hl]
    have l0 : 0 ≤ l := by omega
    have l1 : l < 18446744073709551616 := by omega
    have h0 : -70368744177664 ≤ h := by omega
    have h1 : h ≤ 70368744177664 := by omega
    have HS := Lib.hid hs
    have HH := Lib.hid hh
    have HLl := Lib.hid hl
    have HRG := Lib.hid hrg
    clear hs hh hl hrg
    by_cases hlt : k < len
    · obtain ⟨ad, rfl, hc⟩ := HR.out.at_ k (by omega) (by have := HL.out; omega)
      have hn := HX.out (xs.getD k 0) (by rw [List.getD_eq_getElem?_getD, List.getElem?_eq_getElem (by have := HL.out; omega)]; exact List.getElem_mem _)
      have hsucc := pre_succ xs k (by have := HL.out; omega)
      rw [← HS.out] at hsucc
      have hc' : w.cell? (ad.add k) = some (.int .i64 (xs.getD k 0)) := by simpa [rdOf] using hc
      obtain ⟨n, hnn⟩ : ∃ n, n = xs.getD k 0 := ⟨_, rfl⟩
      rw [← hnn] at hn hsucc hc'
      obtain ⟨N, hN⟩ : ∃ N, N = IntKind.u64.wrap n := ⟨_, rfl⟩
      have hN' := hN.symm
      have hNm : N = n % 18446744073709551616 := by rw [hN]; exact DivP.w64m n
      have hadd := add64 l N l0 l1 (by omega) (by omega)
      obtain ⟨l2, hl2⟩ : ∃ x, x = (l + N) % 18446744073709551616 := ⟨_, rfl⟩
      obtain ⟨cy, hcy⟩ : ∃ x, x = (l + N) / 18446744073709551616 := ⟨_, rfl⟩
      rw [← hl2, ← hcy] at hadd
      obtain ⟨sg, hsg⟩ : ∃ x, x = n / 9223372036854775808 := ⟨_, rfl⟩
      have hsg' := hsg.symm
      unfold inR at hn
      have s0 : -1 ≤ sg := by omega
      have s1 : sg ≤ 0 := by omega
      have c0 : 0 ≤ cy := by omega
      have c1 : cy ≤ 1 := by omega
      have HREL := Lib.hid (show pre xs (k + 1) / 18446744073709551616 = h + (sg + cy) ∧ pre xs (k + 1) % 18446744073709551616 = l2 by
        rw [hsucc]
        have := HH.out
        have := HLl.out
        constructor <;> omega)
      clear hn hsucc hc hnn hN hNm hl2 hcy hsg
      go_wp2
      exact ⟨⟨k + 1, by omega, by go_num, by rw [HREL.out.1], by rw [HREL.out.2]⟩, by simp [intOf]; omega⟩
    · obtain rfl : k = len := by omega
      have hsum : s = xs.sum := by rw [HS.out, HL.out]; unfold pre; rw [List.take_length]
      have hbd := below_drewN' w
      obtain ⟨m, hm⟩ : ∃ m, m = wrap64 l := ⟨_, rfl⟩
      obtain ⟨e, he⟩ : ∃ e, e = m / 9223372036854775808 := ⟨_, rfl⟩
      have hm' := hm.symm
      have he' := he.symm
      have hmr : -9223372036854775808 ≤ m ∧ m ≤ 9223372036854775807 := by rw [hm]; simp [wrap64]; omega
      have hml : m = l ∨ m = l - 18446744073709551616 := by rw [hm]; simp [wrap64]; omega
      have hH := HH.out
      have hLl := HLl.out
      by_cases hin : inR s
      · have hms : m = s := by unfold inR at hin; omega
        have ht : (h == e) = true := by unfold inR at hin; simp; omega
        have hend : Hid (e0 = .returned (.int .i64 m)) := Lib.hid (by rw [E1.out (hsum ▸ hin), ← hsum, hms])
        clear hms hsum hm he hml hH hLl hbd hin
        go_wp2
        go_ret
        exact ⟨hend.out.symm, Below.refl _ _⟩
      · have ht : (h == e) = false := by unfold inR at hin; simp; omega
        have hend : Hid (e0 = endB) := Lib.hid (E2.out (hsum ▸ hin))
        clear hsum hm he hml hH hLl hbd hin
        go_wp2
        exact ⟨rfl, hend.out.symm, Below.refl _ _⟩
theorem sum1 (p : Nat) (A : Option Addr) (c : Nat) (xs : List Int) (hx : ∀ x ∈ xs, inR x) (hlen : xs.length * 8 ≤ 140737488351232) (w : World) (hp : w.heap[p]? = some (boxS A xs.length c)) (hr : ReadsOf (Value.int .i64) 0 w A xs.length xs) :
    Calls Tryd.prog 45 #[.pointer (some ⟨p, 0, none⟩)] w fun e w' => e = (if inR xs.sum then .returned (.int .i64 xs.sum) else endB) ∧ Below w.heap.size w w' :=
  sum1w p A c xs hx hlen w hp hr _ (Lib.hid fun h => by rw [if_pos h]) (Lib.hid fun h => by rw [if_neg h])
theorem knownSum (a : Addr) : KnownI 45 #[.pointer (some a)] := ⟨fun _ => by kernel_rfl⟩
def tick_Sum.f (l0 : List Int) : Option (Int × Int) := if (∀ x ∈ l0, inR x) ∧ l0.length * 8 ≤ 140737488351232 then some (val l0.sum, err l0.sum) else none
theorem Sum_calls (A : Option Addr) (c : Nat) (xs : List Int) (hx : ∀ x ∈ xs, inR x) (hlen : xs.length * 8 ≤ 140737488351232) (w : World) (hr : ReadsOf (Value.int .i64) 0 w A xs.length xs) :
    Calls Tryd.prog 23 #[.slice A xs.length c] w fun e w' => e = .returned (.tuple #[.int .i64 (val xs.sum), .int .i64 (err xs.sum)]) ∧ Below w.heap.size w w' := by
  have hmf := mkf
  have HC := Lib.hid (show Calls Tryd.prog 30 #[.func (.func 45) #[] #[.pointer (some ⟨w.heap.size, 0, none⟩)]] (w.alloc (boxS A xs.length c)) fun e w' => e = .returned (.tuple #[.int .i64 (val xs.sum), .int .i64 (err xs.sum)]) ∧ Below w.heap.size w w' from by
    have hb0 : Below w.heap.size w (w.alloc (boxS A xs.length c)) := (Below.refl w.heap.size w).alloc (Nat.le_refl _) _
    have hp : (w.alloc (boxS A xs.length c)).heap[w.heap.size]? = some (boxS A xs.length c) := heap_alloc_new w _
    have hG : ∀ W, Below (w.alloc (boxS A xs.length c)).heap.size (w.alloc (boxS A xs.length c)) W → Calls Tryd.prog 45 #[.pointer (some ⟨w.heap.size, 0, none⟩)] W fun e w' => e = (if inR xs.sum then .returned (.int .i64 xs.sum) else endB) ∧ Below W.heap.size W w' :=
      fun W hW => sum1 _ A c xs hx hlen W (blk_below hp hW (blk_lt hp)) (hr.below (hb0.trans (hW.mono (by simp))))
    unfold val err
    by_cases hs : inR xs.sum
    · rw [if_pos hs, if_pos hs]
      exact (checked_ok _ _ (knownSum _) xs.sum _ fun W hW => (hG W hW).mono fun e w' h => by rw [if_pos hs] at h; exact h).mono fun e w' ⟨he, h⟩ => ⟨he, hb0.trans (h.mono (by simp))⟩
    · rw [if_neg hs, if_neg hs]
      exact (checked_beyond _ _ (knownSum _) _ fun W hW => (hG W hW).mono fun e w' h => by rw [if_neg hs] at h; exact h).mono fun e w' ⟨he, h⟩ => ⟨he, hb0.trans (h.mono (by simp))⟩)
  generalize val xs.sum = V at HC ⊢
  generalize err xs.sum = E at HC ⊢
  clear hx hr
  generalize xs.length = len at *
  go_enter Tryd.func23, Tryd.ntmps23
  go_wp2_with fail
  refine HC.out.mono ?_
  rintro e w1 ⟨rfl, hB⟩
  go_wp2
  go_ret2
  exact ⟨rfl, hB⟩
theorem tick_Sum.calls (A0 : Option Addr) (c0 : Nat) (l0 : List Int) (r1 r2 : Int) (w : World) (hr0 : Kd.C (Kd.int .i64) w A0 l0.length l0) (hc0 : l0.length ≤ c0) (h : tick_Sum.f l0 = some (r1, r2)) : Calls Tryd.prog 23 #[.slice A0 l0.length c0] w fun e w' => e = .returned (.tuple #[.int .i64 r1, .int .i64 r2]) ∧ Below w.heap.size w w' := by
  unfold tick_Sum.f at h
  split at h
  · rename_i hr
    simp only [Option.some.injEq, Prod.mk.injEq] at h
    obtain ⟨rfl, rfl⟩ := h
    exact Sum_calls A0 c0 l0 hr.1 hr.2 w (Kd.reads_of_C hr0)
  · cases h
end Go.Proofs.YtccicjiadahmnaaDoor.Hd
