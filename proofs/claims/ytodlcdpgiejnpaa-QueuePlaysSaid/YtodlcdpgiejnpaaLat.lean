/- The document's list: a slice that may lie at an offset; what append makes of it. -/
import Derived.Test.YtodlcdpgiejnpaaStrip
import Derived.ArgAppend
namespace Go.Proofs.Ytodlcdpgiejnpaa
set_option linter.unusedVariables false
set_option linter.unusedSimpArgs false
open Go.RowKit Hp

def tc4 (a : Tp) : List Value := [.int .i64 a.1, .int .i64 a.2.1, .int .i64 a.2.2.1, .int .i64 a.2.2.2]
theorem tc4_len (a : Tp) : (tc4 a).length = 4 := rfl
theorem flat4_len (T : List Tp) : (T.flatMap tc4).length = T.length * 4 := by
  induction T with
  | nil => rfl
  | cons x L ih => rw [List.flatMap_cons, List.length_append, ih, tc4_len, List.length_cons]; omega
theorem flat4_get : ∀ (T : List Tp) (j i : Nat), i < 4 → (T.flatMap tc4)[j * 4 + i]? = (T[j]?).bind fun x => (tc4 x)[i]?
  | [], j, i, hi => by simp
  | x :: L, 0, i, hi => by
    rw [List.flatMap_cons, List.getElem?_append_left (by rw [tc4_len]; omega)]
    simp
  | x :: L, j + 1, i, hi => by
    rw [List.flatMap_cons, List.getElem?_append_right (by rw [tc4_len]; omega), tc4_len, show (j + 1) * 4 + i - 4 = j * 4 + i by omega, flat4_get L j i hi]
    simp
/-- the cells of T lie in block b from o on, with room for cap -/
def Row4 (w : World) (b o cap : Nat) (T : List Tp) : Prop :=
  ∃ cur, w.heap[b]? = some (.cells cur 34 (0, 0)) ∧ o + cap * 4 ≤ cur.size ∧ T.length ≤ cap ∧ cap ≤ maxLen ∧ ∀ j a, T[j]? = some a → ∀ i x, (tc4 a)[i]? = some x → cur[o + j * 4 + i]? = some x
def LAt (w : World) (base : Nat) (v : Value) (T : List Tp) : Prop :=
  (v = .slice none 0 0 ∧ T = []) ∨ ∃ b o cap, v = .slice (some ⟨b, o, none⟩) T.length cap ∧ base ≤ b ∧ Row4 w b o cap T
theorem Row4.lt {w : World} {b o cap : Nat} {T : List Tp} (h : Row4 w b o cap T) : b < w.heap.size := by obtain ⟨cur, h, _⟩ := h; exact blk_lt h
theorem Row4.kept {w w' : World} {b o cap : Nat} {T : List Tp} (h : Row4 w b o cap T) (hk : w'.heap[b]? = w.heap[b]?) : Row4 w' b o cap T := by
  obtain ⟨cur, h, r⟩ := h; exact ⟨cur, hk.trans h, r⟩
theorem LAt.kept {w w' : World} {base : Nat} {v : Value} {T : List Tp} (h : LAt w base v T) (hk : ∀ b, v.ownBlock = some b → w'.heap[b]? = w.heap[b]?) : LAt w' base v T := by
  rcases h with h | ⟨b, o, cap, rfl, hb, hr⟩
  · exact .inl h
  · exact .inr ⟨b, o, cap, rfl, hb, hr.kept (hk b rfl)⟩
theorem LAt.lt {w : World} {base : Nat} {v : Value} {T : List Tp} (h : LAt w base v T) : ∀ b, v.ownBlock = some b → base ≤ b ∧ b < w.heap.size := by
  intro b hb
  rcases h with ⟨rfl, _⟩ | ⟨b', o, cap, rfl, hbb, hr⟩
  · simp [Value.ownBlock] at hb
  · simp [Value.ownBlock] at hb
    subst hb
    exact ⟨hbb, hr.lt⟩
theorem Row4.cell {w : World} {b o cap : Nat} {T : List Tp} (h : Row4 w b o cap T) (j : Nat) (a : Tp) (ha : T[j]? = some a) :
    w.cell? ⟨b, o + j * 4, none⟩ = some (.int .i64 a.1) ∧ w.cell? ⟨b, o + j * 4 + 1, none⟩ = some (.int .i64 a.2.1) ∧ w.cell? ⟨b, o + j * 4 + 2, none⟩ = some (.int .i64 a.2.2.1) ∧ w.cell? ⟨b, o + j * 4 + 3, none⟩ = some (.int .i64 a.2.2.2) := by
  obtain ⟨cur, h, _, _, _, hr⟩ := h
  have hc := blk_cell h
  exact ⟨(hc _).trans (hr j a ha 0 _ rfl), (hc _).trans (hr j a ha 1 _ rfl), (hc _).trans (hr j a ha 2 _ rfl), (hc _).trans (hr j a ha 3 _ rfl)⟩
theorem Row4.frozen {w : World} {b o cap : Nat} {T : List Tp} (h : Row4 w b o cap T) (i : Nat) : w.frozen? ⟨b, i, none⟩ = false := by
  obtain ⟨cur, h, _⟩ := h; exact blk_frozen h i
theorem Row4.set {w : World} {b o cap : Nat} {T : List Tp} (h : Row4 w b o cap T) (j : Nat) (a : Tp) (hj : j < T.length) : Row4 (w.setCells b (o + j * 4) (tc4 a)) b o cap (T.set j a) := by
  obtain ⟨cur, h, hs, hl, hm, hr⟩ := h
  refine ⟨_, setCells_blk h _ _, by rw [setM_size]; exact hs, by simpa using hl, hm, fun m y hy i v hv => ?_⟩
  have hi : i < 4 := by have := (List.getElem?_eq_some_iff.1 hv).1; simpa [tc4] using this
  rw [setM_get _ _ _ _ (by rw [tc4_len]; omega), tc4_len]
  rw [List.getElem?_set] at hy
  by_cases hmj : j = m
  · subst hmj
    rw [if_pos rfl, if_pos hj] at hy
    obtain rfl : a = y := by simpa using hy
    rw [if_pos (by omega), show o + j * 4 + i - (o + j * 4) = i by omega]
    exact hv
  · rw [if_neg hmj] at hy
    rw [if_neg (by omega)]
    exact hr m y hy i v hv
theorem Row4.push {w : World} {b o cap : Nat} {T : List Tp} (h : Row4 w b o cap T) (a : Tp) (hc : T.length < cap) : Row4 (w.setCells b (o + T.length * 4) (tc4 a)) b o cap (T ++ [a]) := by
  obtain ⟨cur, h, hs, hl, hm, hr⟩ := h
  refine ⟨_, setCells_blk h _ _, by rw [setM_size]; exact hs, by simp; omega, hm, fun m y hy i v hv => ?_⟩
  have hi : i < 4 := by have := (List.getElem?_eq_some_iff.1 hv).1; simpa [tc4] using this
  rw [setM_get _ _ _ _ (by rw [tc4_len]; omega), tc4_len]
  by_cases hmj : m < T.length
  · rw [List.getElem?_append_left hmj] at hy
    rw [if_neg (by omega)]
    exact hr m y hy i v hv
  · have hm2 := (List.getElem?_eq_some_iff.1 hy).1
    simp at hm2
    obtain rfl : m = T.length := by omega
    rw [List.getElem?_append_right (Nat.le_refl _)] at hy
    simp at hy
    subst hy
    rw [if_pos (by omega), show o + T.length * 4 + i - (o + T.length * 4) = i by omega]
    exact hv
theorem itemInfo4 : (Try.prog.info? 34).map (fun i => (i.zero, i.size, i.bytes)) = some (some (.agg #[.int .i64 0, .int .i64 0, .int .i64 0, .int .i64 0]), 4, 32) := by kernel_rfl
theorem new4 (w : World) (T : List Tp) (cap : Nat) (zs : Array Value) (hz : T.length * 4 + zs.size = cap * 4) (hl : T.length ≤ cap) (hm : cap ≤ maxLen) (xs : Array Value) (hx : xs.toList = T.flatMap tc4) : Row4 (w.alloc (.cells (xs ++ zs) 34)) w.heap.size 0 cap T := by
  have hxs : xs.size = T.length * 4 := by rw [← Array.length_toList, hx, flat4_len]
  refine ⟨xs ++ zs, heap_alloc_new w _, by simp [hxs]; omega, hl, hm, fun j a ha i x hi => ?_⟩
  have h4 : i < 4 := by have := (List.getElem?_eq_some_iff.1 hi).1; simpa [tc4] using this
  have hj := (List.getElem?_eq_some_iff.1 ha).1
  rw [Array.getElem?_append_left (by omega), ← Array.getElem?_toList, hx, show 0 + j * 4 + i = j * 4 + i by omega, flat4_get _ _ _ h4, ha]
  exact hi
theorem append_run (w : World) (base : Nat) (v : Value) (T : List Tp) (hv : LAt w base v T) (hb : base ≤ w.heap.size) (hlen : T.length ≤ 70000) (a : Tp) (ty : TypeId) (ad : Addr) (c : Nat) (hnews : ∀ j u, (tc4 a)[j]? = some u → w.cell? (ad.add j) = some u) :
    ∃ b o cap w', (Builtin.append_ #[26, 26] ty #[v, .slice (some ad) 1 c]).run Try.prog w = .ok (.slice (some ⟨b, o, none⟩) (T.length + 1) cap) w' ∧ base ≤ b ∧ Row4 w' b o cap (T ++ [a]) ∧ w.grownBy w' v.ownBlock ∧ (v.ownBlock = some b ∨ w.heap.size ≤ b) := by
  obtain ⟨i0, hi0, hz0, hz1, hz2⟩ := info_parts itemInfo4
  have hone : ∀ u ∈ tc4 a, u.oneCell' = true := by intro u hu; simp [tc4] at hu; rcases hu with rfl | rfl | rfl | rfl <;> rfl
  have hg63 : ∀ need old : Nat, need ≤ 70001 → grownCap w need old 34 ≤ maxLen := fun need old h => grownCap_le_maxLen w need old _ (by simp [maxLen]; omega)
  rcases hv with ⟨rfl, rfl⟩ | ⟨b, o, cap, rfl, hbb, hr⟩
  · have h := run_append_nil (P := Try.prog) w 26 ty 34 i0 _ Try.underlying26 hi0 hz0 ad 1 c (tc4 a) (by rw [hz1]; rfl) hnews (by omega) (by omega) (by rw [hz2]; omega)
    have hge := grownCap_ge w 1 0 34
    refine ⟨w.heap.size, 0, _, _, h, hb, new4 w.drew [a] _ _ ?_ (by simpa using hge) (hg63 1 0 (by omega)) _ (by simp), ⟨rfl, rfl, rfl, by simp, fun k hk _ => heap_alloc_old w.drew _ hk⟩, .inr (Nat.le_refl _)⟩
    rw [size_zeroCells]
    simp [Value.cells]
    omega
  · by_cases hroom : T.length + 1 ≤ cap
    · have hrr := hr
      obtain ⟨cur, h0, hs, hl, hm, hrd⟩ := hrr
      have h := run_append_room_cells (P := Try.prog) w 26 ty 34 i0 Try.underlying26 hi0 b o T.length cap ad 1 c (tc4 a) (by rw [hz1]; rfl) hnews hone hroom
        (fun j hj => by rw [tc4_len] at hj; rw [blk_cell h0, hz1, Array.getElem?_eq_getElem (by omega)]; rfl) (fun j hj => blk_frozen h0 _)
      rw [hz1] at h
      exact ⟨b, o, cap, _, h, hbb, hr.push a (by omega), grown_setCells w b _ _, .inl rfl⟩
    · have hrr := hr
      obtain ⟨cur, h0, hs, hl, hm, hrd⟩ := hrr
      have holds : ∀ j u, (T.flatMap tc4)[j]? = some u → w.cell? ((⟨b, o, none⟩ : Addr).add j) = some u := by
        intro j u hu
        have hj := (List.getElem?_eq_some_iff.1 hu).1
        rw [flat4_len] at hj
        have h5 : j = j / 4 * 4 + j % 4 := by omega
        rw [h5, flat4_get _ _ _ (by omega), List.getElem?_eq_getElem (by omega)] at hu
        simp only [Option.bind_some] at hu
        rw [Addr.add_mid, blk_cell h0, h5, ← Nat.add_assoc]
        exact hrd (j / 4) _ (List.getElem?_eq_getElem (by omega)) (j % 4) u hu
      have h := run_append_grow (P := Try.prog) w 26 ty 34 i0 _ Try.underlying26 hi0 hz0 ⟨b, o, none⟩ T.length cap (T.flatMap tc4) (by rw [hz1]; exact flat4_len T) holds ad 1 c (tc4 a) (by rw [hz1]; rfl) hnews (by omega) (by omega) (growslice_fits (by omega) (by rw [hz2]; omega))
      have hge := grownCap_ge w (T.length + 1) cap 34
      refine ⟨w.heap.size, 0, _, _, h, hb, new4 w.drew (T ++ [a]) _ _ ?_ (by simpa using hge) (hg63 _ _ (by omega)) _ (by simp [List.flatMap_append]), ⟨rfl, rfl, rfl, by simp, fun k hk _ => heap_alloc_old w.drew _ hk⟩, .inr (Nat.le_refl _)⟩
      rw [size_zeroCells]
      simp [Value.cells]
      omega
end Go.Proofs.Ytodlcdpgiejnpaa
