/- What the library answers: zero bits behind, bits that are set, numerals, joined and split texts. -/
import Derived.Test.YtlaikchebojidaaDoorTabs
import Derived.Test.YtlaikchebojidaaDoorShelf
import Derived.Test.YtlaikchebojidaaDoorP0
import Derived.Lib.BitFns
import Derived.Lib.ItoaLen
import Derived.Shelf.Spec.TrailingZeros
import Derived.WalkLawsBesides
import Derived.WalkSpells
namespace Go.Proofs.YtlaikchebojidaaDoor.Hd
set_option linter.unusedVariables false
set_option linter.unusedSimpArgs false
open Go.RowKit Go.Proofs.YtlaikchebojidaaDoorW.PrintWords

theorem tz_walk (x k idx : Nat) (w : World) (hx0 : ((x : Int) == 0) = false)
    (key : bits BinOp.and IntKind.u32 (x : Int) (-(x : Int) % 4294967296) * 125613361 % 4294967296 / 134217728 = (idx : Int))
    (hi : idx < 32) (hk : k < 32) (hcell : w.cell? ⟨0, idx, none⟩ = some (.int .u8 k)) :
    Calls Tryd.prog 26 #[.int .u32 x] w fun e w' => e = .returned (.int .i64 k) ∧ w = w' := by
  go_enter Tryd.func26, Tryd.ntmps26
  go_wp2_with (simp only [key])
  go_ret
  exact ⟨rfl, rfl⟩
theorem tab_at (I K : Nat) (hi : I < 32) (h : Lib.deBruijn32tab.getD I 0 = K) : (((Lib.deBruijn32tab.map Int.ofNat).map fun z => Value.int .u8 z).toArray)[I]? = some (.int .u8 (K : Int)) := by
  have hl : I < Lib.deBruijn32tab.length := hi
  rw [List.getD_eq_getElem?_getD, List.getElem?_eq_getElem hl] at h
  simp only [Option.getD_some] at h
  simp [List.getElem?_eq_getElem hl, h]
def bits_TrailingZeros32.f (a0 : Int) : Option Int := if 0 < a0 ∧ a0 < 4294967296 then some (Lib.ctz 32 a0.toNat) else none
theorem bits_TrailingZeros32.calls (a0 : Int) (r : Int) (w : World) (h : bits_TrailingZeros32.f a0 = some r) (hT : Tabs w) : Calls Tryd.prog 26 #[.int .u32 a0] w fun e w' => e = .returned (.int .i64 r) ∧ Below w.heap.size w w' := by
  unfold bits_TrailingZeros32.f at h
  split at h
  · rename_i hc
    obtain rfl := Option.some.inj h
    obtain ⟨x, rfl⟩ := Int.eq_ofNat_of_zero_le (show 0 ≤ a0 by omega)
    rw [Int.toNat_natCast]
    have hx0 : x ≠ 0 := by omega
    obtain ⟨hlow, hk⟩ := Lib.lowest_bit 32 x hx0 (by omega)
    obtain ⟨hi, htab⟩ := Lib.deBruijn32_at _ hk
    have hcell := World.var?_cell deb_named hT.deb (2 ^ Lib.ctz 32 x * 125613361 % 4294967296 / 134217728)
    have hcell' : w.cell? ⟨0, 2 ^ Lib.ctz 32 x * 125613361 % 4294967296 / 134217728, none⟩ = some (.int .u8 (Lib.ctz 32 x)) := by
      rw [hcell]
      exact tab_at _ _ hi htab
    exact (tz_walk x _ _ w (by simp; omega) (tz32_key x _ (by omega) hx0 hlow) hi hk hcell').mono fun e w' ⟨he, hw⟩ => ⟨he, hw ▸ Below.refl _ _⟩
  · cases h
theorem below_grow (w : World) (k : Nat) (os : Array Obj) : Below w.heap.size w (Sort.grow (w.drewN k) os) := by
  refine ⟨rfl, rfl, rfl, ?_, fun i hi => ?_⟩
  · simp [Sort.grow]
  · simp [Sort.grow, World.drewN, Array.getElem?_append_left hi]
def text (n : Int) : ByteArray := ⟨(Lib.itoa n).toArray⟩
def strconv_Itoa.f (a0 : Int) : Option ByteArray := if -9223372036854775808 ≤ a0 ∧ a0 ≤ 9223372036854775807 then some (text a0) else none
theorem strconv_Itoa.calls (a0 : Int) (r : ByteArray) (w : World) (h : strconv_Itoa.f a0 = some r) (hT : Tabs w) : Calls Tryd.prog 30 #[.int .i64 a0] w fun e w' => e = .returned (.string r) ∧ Below w.heap.size w w' := by
  unfold strconv_Itoa.f at h
  split at h
  · rename_i hc
    obtain rfl := Option.some.inj h
    exact (Tryd.strconv_Itoa a0 hc.1 hc.2 w hT.tab).mono fun e w' ⟨he, k, os, hw⟩ => ⟨he, hw ▸ below_grow w k os⟩
  · cases h
theorem size_mk (z : List UInt8) : (⟨z.toArray⟩ : ByteArray).size = z.length := by show z.toArray.size = z.length; simp
def join (l : List ByteArray) (sep : ByteArray) : ByteArray := ⟨(Lib.join (l.map (·.data.toList)) sep.data.toList).toArray⟩
def strings_Join.f (l0 : List ByteArray) (a1 : ByteArray) : Option ByteArray := if l0.length ≤ 1000000 ∧ (join l0 a1).size ≤ 1000000 then some (join l0 a1) else none
theorem strings_Join.calls (A0 : Option Addr) (c0 : Nat) (l0 : List ByteArray) (a1 : ByteArray) (r : ByteArray) (w : World) (hr0 : Kd.C Kd.string w A0 l0.length l0) (hc0 : l0.length ≤ c0) (h : strings_Join.f l0 a1 = some r) :
    Calls Tryd.prog 31 #[.slice A0 l0.length c0, .string a1] w fun e w' => e = .returned (.string r) ∧ Below w.heap.size w w' := by
  unfold strings_Join.f at h
  split at h
  · rename_i hc
    obtain rfl := Option.some.inj h
    cases l0 with
    | nil => exact (Tryd.strings_Join_none A0 c0 a1 w).mono fun e w' ⟨he, hw⟩ => ⟨he, hw ▸ Below.refl _ _⟩
    | cons x l =>
      have hR := Kd.reads_of_C (d := ByteArray.empty) hr0
      obtain ⟨ad, rfl, hcell⟩ := hR.2.2 (by simp)
      obtain ⟨b, o, p⟩ := ad
      have hp : p = none := by
        have h0 := hcell 0 (by simp)
        unfold World.cell? at h0
        rcases p with _ | p
        · rfl
        · simp [Addr.add] at h0
          split at h0 <;> cases h0
      subst hp
      have hc' : ∀ (j : Nat) y, (x :: l)[j]? = some y → w.cell? ⟨b, o + j, none⟩ = some (.string y) := by
        intro j y hy
        obtain ⟨hj, hy'⟩ := List.getElem?_eq_some_iff.1 hy
        have h0 := hcell j hj
        rw [List.getD_eq_getElem?_getD, hy] at h0
        by_cases hj0 : j = 0
        · subst hj0; simpa [Addr.add] using h0
        · simpa [Addr.add, hj0] using h0
      have hlt : b < w.heap.size := by
        have h0 := hc' 0 x rfl
        rcases Nat.lt_or_ge b w.heap.size with h' | h'
        · exact h'
        · unfold World.cell? at h0
          simp only [Array.getElem?_eq_none h'] at h0
          simp at h0
      exact Tryd.strings_Join b o c0 (x :: l) a1 w hc' hlt (by omega) hc0 (by have := hc.2; unfold join at this; rw [size_mk] at this; omega)
  · cases h
def strings_Split.f (a0 a1 : ByteArray) : Option (List ByteArray) := if a0.size < 4294967281 ∧ 1 ≤ a1.size then some (Lib.splitB a1 0 (Lib.countB a0 a1) a0) else none
theorem strings_Split.calls (a0 a1 : ByteArray) (r : List ByteArray) (w : World) (h : strings_Split.f a0 a1 = some r) (hT : Tabs w) :
    Calls Tryd.prog 28 #[.string a0, .string a1] w fun e w' => ∃ v0_ : Value, e = .returned v0_ ∧ Kd.R Kd.string 9 w' w.heap.size (fun _ => True) v0_ r ∧ Below w.heap.size w w' := by
  unfold strings_Split.f at h
  split at h
  · rename_i hc
    obtain rfl := Option.some.inj h
    obtain ⟨m, hm⟩ := hT.max
    refine (Tryd.strings_Split a0 a1 m w hc.1 hm hc.2).mono fun e w' ⟨he, hw⟩ => ⟨_, he, ?_, hw ▸ (Below.refl _ _).alloc (Nat.le_refl _) _⟩
    have hlen := Lib.splitB_all a1 hc.2 0 _ a0 rfl
    have hle := Lib.countB_le a1 hc.2 _ a0 (Nat.le_refl _)
    subst hw
    generalize hxs : Lib.splitB a1 0 (Lib.countB a0 a1) a0 = xs at *
    rw [← hlen]
    refine Kd.R_of_own ⟨by simp [encs], .inr ⟨w.heap.size, xs.length, _, rfl, Nat.le_refl _, heap_alloc_new w _, Nat.le_refl _, by unfold maxLen; omega, by simp, List.take_of_length_le (by simp)⟩⟩ (fun _ _ => trivial)
  · cases h
def strconv_Atoi.f (a0 : ByteArray) : Option (Int × Option Int) := if a0.size ≤ 281474976710656 then (match Lib.atoiAll a0.data.toList with
  | .ok v => some (v, none)
  | .range => some (Lib.atoiSat a0.data.toList, some 0)
  | _ => some (0, some 0)) else none
theorem below_bytes {w w' : World} (h : w' = w ∨ ∃ t, w' = Lib.bytesWorld w 5 t) : Below w.heap.size w w' := by
  rcases h with rfl | ⟨t, rfl⟩
  · exact Below.refl _ _
  · exact bytes_below (Below.refl _ _) (Nat.le_refl _) _ _
theorem strconv_Atoi.calls (a0 : ByteArray) (r1 : Int) (r2 : Option Int) (w : World) (h : strconv_Atoi.f a0 = some (r1, r2)) (hT : Tabs w) (h0 : r2 = none := by rfl) :
    Calls Tryd.prog 29 #[.string a0] w fun e w' => e = .returned (.tuple #[.int .i64 r1, .nilIface]) ∧ Below w.heap.size w w' := by
  subst h0
  unfold strconv_Atoi.f at h
  split at h
  · rename_i hc
    rcases hv : Lib.atoiAll a0.data.toList with v | _ | _
    · rw [hv] at h
      simp only [Option.some.injEq, Prod.mk.injEq] at h
      obtain ⟨rfl, _⟩ := h
      exact (Tryd.strconv_Atoi_ok a0 (by omega) v hv w).mono fun e w' ⟨he, hw⟩ => ⟨he, below_bytes hw⟩
    · rw [hv] at h; simp at h
    · rw [hv] at h; simp at h
  · cases h
theorem strconv_Atoi.callsE (a0 : ByteArray) (r1 q : Int) (w : World) (h : strconv_Atoi.f a0 = some (r1, some q)) (hT : Tabs w) :
    Calls Tryd.prog 29 #[.string a0] w fun e w' => (∃ N : Nat, e = .returned (.tuple #[.int .i64 r1, .iface 63 (.pointer (some ⟨N, 0, none⟩))])) ∧ Below w.heap.size w w' := by
  obtain ⟨_, ⟨t1, p1, s1⟩, ⟨t2, p2, s2⟩, _, _⟩ := hT
  unfold strconv_Atoi.f at h
  split at h
  · rename_i hc
    rcases hv : Lib.atoiAll a0.data.toList with v | _ | _
    · rw [hv] at h
      simp only [Option.some.injEq, Prod.mk.injEq] at h
      exact absurd h.2 (by simp)
    · rw [hv] at h
      simp only [Option.some.injEq, Prod.mk.injEq] at h
      obtain ⟨rfl, _⟩ := h
      exact (Any.strconv_Atoi_syntax_var Tryd.laysC172 a0 hc hv t1 p1 w s1).mono fun e w' ⟨N, he, _, _, hb⟩ => ⟨⟨N, he⟩, hb⟩
    · rw [hv] at h
      simp only [Option.some.injEq, Prod.mk.injEq] at h
      obtain ⟨rfl, _⟩ := h
      exact (Tryd.strconv_Atoi_range_var a0 hc hv t2 p2 w s2).mono fun e w' ⟨N, he, _, _, hb⟩ => ⟨⟨N, he⟩, hb⟩
  · cases h
end Go.Proofs.YtlaikchebojidaaDoor.Hd
