/- A part of the proof of the statement PlanLands: words, contracts of functions that it reaches, and what they compute. No condition. -/
import Derived.Test.YtbmldeikjfecfaaE02
import Derived.Test.YtbmldeikjfecfaaE36
import Derived.Shelf.SlSortCmp.NoneTotal
import Derived.Lib.Hide
set_option linter.unusedVariables false
set_option linter.unusedSimpArgs false
namespace Go.Proofs.Ytbmldeikjfecfaa.Hd
open Go.RowKit Go.Proofs.Ytbmldeikjfecfaa.T Go.Proofs.YtbmldeikjfecfaaW.PrintWords Go.Proofs.YtbmldeikjfecfaaW.PrintLast Go.Proofs.YtbmldeikjfecfaaW.PrintMore
open Go.Sort (HoldsK flatK size_flatK get_flatK)
structure Z71 where
  x : S71
  h : -2305843009213693952 ≤ x.f0 ∧ x.f0 ≤ 2305843009213693952
instance : Inhabited Z71 := ⟨⟨z71, by decide⟩⟩
def encZ (x : Z71) : List Value := [.int .i64 x.x.f0, .int .i64 x.x.f1]
def cfZ (x y : Z71) : Int := x.x.f0 - y.x.f0
theorem ltZ (x y : Z71) : ltOf cfZ x y = decide (x.x.f0 < y.x.f0) := by
  unfold ltOf cfZ
  apply decide_eq_decide.2
  omega
theorem swoZ : Go.Sort.SWO (ltOf cfZ) where
  irrefl x := by rw [ltZ]; simp
  trans x y z h1 h2 := by rw [ltZ, decide_eq_true_eq] at *; omega
  ntrans x y z h1 h2 := by rw [ltZ, decide_eq_false_iff_not] at *; omega
set_option maxHeartbeats 800000 in
theorem cmpZ_calls (x y : Z71) (w : World) : Calls Try.prog 49 #[.agg (encZ x).toArray, .agg (encZ y).toArray] w fun e w' => e = .returned (.int .i64 (cfZ x y)) ∧ ∃ q os', w' = Go.Sort.grow (w.drewN q) os' := by
  obtain ⟨⟨xa, xb⟩, hx⟩ := x
  obtain ⟨⟨ya, yb⟩, hy⟩ := y
  simp only [encZ, cfZ] at hx hy ⊢
  have h1 : -2305843009213693952 ≤ xa := hx.1
  have h2 : xa ≤ 2305843009213693952 := hx.2
  have h3 : -2305843009213693952 ≤ ya := hy.1
  have h4 : ya ≤ 2305843009213693952 := hy.2
  clear hx hy
  go_enter Try.func49, Try.ntmps49
  go_wp2
  go_ret
  exact ⟨rfl, 0, _, by rw [Go.Sort.alloc_eq_grow, Go.Sort.alloc_eq_grow, Go.Sort.grow_grow]; rfl⟩
theorem inner_at {w : World} {base : Nat} {ok : Nat → Prop} {L : List S71} {inner : List Value} (hr : Reps (k71.M w base ok) k71.sz L inner) (j : Nat) (x : S71) (hx : L[j]? = some x) : inner[j * 2]? = some (.int .i64 x.f0) ∧ inner[j * 2 + 1]? = some (.int .i64 x.f1) := by
  have h := k71_openM (hr.2 j x hx)
  have hs : k71.sz = 2 := rfl
  rw [hs] at h
  have e0 := congrArg (fun l => l[0]?) h
  have e1 := congrArg (fun l => l[1]?) h
  simp only [List.getElem?_take, List.getElem?_drop] at e0 e1
  exact ⟨by simpa using e0, by simpa using e1⟩
theorem put_get (f : Array Value) (c : Array Value) (p : Nat) (hp : p < f.size) (hc : p < c.size) : (Go.Sort.putCells id 0 f c)[p]? = some f[p]! := by
  unfold Go.Sort.putCells
  rw [Array.getElem?_mapIdx, Array.getElem?_eq_getElem hc]
  simp [hp]
theorem lift_Z : ∀ (L : List S71), (∀ x ∈ L, -2305843009213693952 ≤ x.f0 ∧ x.f0 ≤ 2305843009213693952) → ∃ D : List Z71, D.map (·.x) = L
  | [], _ => ⟨[], rfl⟩
  | x :: L, hb => by
    obtain ⟨D, hD⟩ := lift_Z L (fun y hy => hb y (List.mem_cons_of_mem _ hy))
    exact ⟨⟨x, hb x List.mem_cons_self⟩ :: D, by rw [List.map_cons, hD]⟩
theorem sort_R {base : Nat} {v : Value} {L : List S71} {w : World} (hR : Kd.R k71 71 w base (fun _ => True) v L) (hb : ∀ x ∈ L, -2305843009213693952 ≤ x.f0 ∧ x.f0 ≤ 2305843009213693952) (hlen : L.length ≤ 65536) :
    Calls Try.prog 48 #[v, .func (.func 49) #[] #[]] w fun e w' => e = .returned (.tuple #[]) ∧
      ∃ S : List S71, S.Perm L ∧ S.Pairwise (fun x y => x.f0 ≤ y.f0) ∧ Kd.R k71 71 w' base (fun _ => True) v S ∧ w.grownBy w' v.ownBlock := by
  obtain ⟨_, inner, ⟨hil, ho⟩, hr⟩ := hR
  rcases ho with ⟨rfl, h0⟩ | ⟨g, cap, cur, rfl, hg, hcur, hcap, hmax, hcs, htake⟩
  · obtain rfl : L = [] := List.length_eq_zero_iff.1 h0
    refine (AnyF.slices_SortFunc_none Try.sortS none 0 (.func (.func 49) #[] #[]) w).mono ?_
    rintro e w' ⟨rfl, rfl⟩
    exact ⟨rfl, [], List.Perm.refl _, List.Pairwise.nil, Kd.R_nil _ _ _ _ _, grown_of_below (Below.refl _ _) _⟩
  · have hs2 : k71.sz = 2 := rfl
    rw [hs2] at hil hcs htake
    have eg : ∀ args w, (callFunc 49 args).run Try.prog w = .ok (.enter 49 args) w := enters_of Try.func49 (by kernel_rfl) rfl
    obtain ⟨D, hD⟩ := lift_Z L hb
    have hDl : D.length = L.length := by rw [← hD]; simp
    have hH : HoldsK encZ 2 w g 0 D.toArray := by
      intro j hj
      rw [size_flatK] at hj
      simp only [List.size_toArray] at hj
      refine ⟨?_, blk_frozen hcur _⟩
      rw [get_flatK _ _ _ _ (by simpa using hj), blk_cell hcur]
      have hq : j / 2 < D.length := by omega
      have e1 : (D.toArray)[j / 2]! = D[j / 2] := by simp [hq]
      rw [e1]
      have hx : L[j / 2]? = some D[j / 2].x := by rw [← hD, List.getElem?_map, List.getElem?_eq_getElem hq]; rfl
      obtain ⟨i0, i1⟩ := inner_at hr (j / 2) _ hx
      rw [← htake, List.getElem?_take] at i0 i1
      rw [Nat.zero_add]
      rcases Nat.mod_two_eq_zero_or_one j with h | h
      · rw [if_pos (by omega)] at i0
        rw [show j / 2 * 2 = j by omega] at i0
        rw [h]
        simpa [encZ] using i0
      · rw [if_pos (by omega)] at i1
        rw [show j / 2 * 2 + 1 = j by omega] at i1
        rw [h]
        simpa [encZ] using i1
    have h := AnyQ.slices_SortFunc Try.sortS 2 Try.isAgg71 Try.sizeOf71 encZ (fun _ => rfl) (fun x v hv => by simp [encZ] at hv; rcases hv with rfl | rfl <;> rfl) cfZ swoZ 49 #[] g 0 cap D.toArray w eg
      (fun _ _ _ _ x y => cmpZ_calls x y _) hH (blk_lt hcur) (by simp; omega)
    rw [show D.toArray.size = L.length by simpa using hDl] at h
    refine h.mono ?_
    rintro e w' ⟨rfl, d', n, os, ⟨hs, _, hp⟩, hso, rfl⟩
    have hd : d'.size = L.length := by have : d'.size = D.toArray.size := hs; simpa [hDl] using this
    have e1 : (d'.extract 0 L.length).toList = d'.toList := by rw [← hd]; simp
    have e2 : (D.toArray.extract 0 L.length).toList = D := by rw [← hDl]; simp
    rw [e1, e2] at hp
    have hh : (sortWorldK encZ 2 w g 0 n d' os).heap = (w.heap.modify g (Go.Sort.onCells (Go.Sort.putCells id 0 (flatK encZ 2 d')))) ++ os := rfl
    have hgl := blk_lt hcur
    refine ⟨rfl, d'.toList.map (·.x), ?_, ?_, ?_, ?_⟩
    · rw [← hD]; exact hp.map _
    · rw [List.pairwise_map, List.pairwise_iff_getElem]
      intro i j hi hj hij
      have := hso i j (Nat.zero_le _) hij (by simpa [hd] using hj)
      rw [ltZ, decide_eq_false_iff_not] at this
      simp only [Array.length_toList] at hi hj
      rw [getElem!_pos d' i hi, getElem!_pos d' j hj] at this
      simp only [Array.getElem_toList]
      omega
    · have hl' : (d'.toList.map (·.x)).length = L.length := by simpa using hd
      obtain ⟨cur', hcur'⟩ : ∃ c, c = Go.Sort.putCells id 0 (flatK encZ 2 d') cur := ⟨_, rfl⟩
      have hsz' : cur'.size = cap * 2 := by rw [hcur']; simp [Go.Sort.putCells, hcs]
      have hget : ∀ p, p < L.length * 2 → cur'[p]? = some (encZ d'[p / 2]!)[p % 2]! := by
        intro p hp
        rw [hcur', put_get _ _ _ (by rw [size_flatK, hd]; exact hp) (by omega), get_flatK _ _ _ _ (by rw [hd]; exact hp)]
      refine ⟨fun _ _ => trivial, cur'.toList.take (L.length * 2), ⟨?_, .inr ⟨g, cap, cur', by rw [hl'], hg, ?_, by omega, hmax, hsz', by rw [hl']; rfl⟩⟩, ?_, ?_⟩
      · have hlt : cur'.toList.length = cap * 2 := by simpa using hsz'
        rw [hl', List.length_take, hlt, hs2]; omega
      · rw [hh, Array.getElem?_append_left (by simpa using hgl), Array.getElem?_modify, if_pos rfl, hcur, hcur']
        rfl
      · have hlt : cur'.toList.length = cap * 2 := by simpa using hsz'
        rw [hl', List.length_take, hlt, hs2]; omega
      · intro j x hx
        have hj : j < L.length := by have := (List.getElem?_eq_some_iff.1 hx).1; omega
        have hjd : j < d'.size := by omega
        rw [List.getElem?_map, Array.getElem?_toList, Array.getElem?_eq_getElem hjd] at hx
        have hx' : d'[j].x = x := by simpa using hx
        have g0 := hget (j * 2) (by omega)
        have g1 := hget (j * 2 + 1) (by omega)
        rw [show j * 2 / 2 = j by omega, show j * 2 % 2 = 0 by omega, getElem!_pos d' j hjd] at g0
        rw [show (j * 2 + 1) / 2 = j by omega, show (j * 2 + 1) % 2 = 1 by omega, getElem!_pos d' j hjd] at g1
        have ht : ((cur'.toList.take (L.length * 2)).drop (j * k71.sz)).take k71.sz = [.int .i64 x.f0, .int .i64 x.f1] := by
          rw [hs2]
          apply List.ext_getElem?
          intro i
          rw [List.getElem?_take, List.getElem?_drop, List.getElem?_take, Array.getElem?_toList]
          rcases i with _ | _ | i
          · rw [if_pos (by omega), if_pos (by omega), Nat.add_zero, g0]; simp [encZ, hx']
          · rw [if_pos (by omega), if_pos (by omega), g1]; simp [encZ, hx']
          · rw [if_neg (by omega)]; simp
        rw [ht]
        exact k71_mkM _ _ _ x
    · refine ⟨rfl, rfl, rfl, by rw [hh]; simp, fun k hk hne => ?_⟩
      rw [hh, Array.getElem?_append_left (by simpa using hk), Array.getElem?_modify, if_neg (fun e => hne (by rw [e]; rfl))]
end Go.Proofs.Ytbmldeikjfecfaa.Hd
