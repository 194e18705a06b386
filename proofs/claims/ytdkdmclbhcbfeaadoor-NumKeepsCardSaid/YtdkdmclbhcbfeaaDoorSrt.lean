/- slices.SortFunc at a row of numbers, by num.Compare. -/
import Derived.Test.YtdkdmclbhcbfeaaDoorF
import Derived.Test.YtdkdmclbhcbfeaaDoorB
import Derived.Test.YtdkdmclbhcbfeaaDoorSo
import Derived.Test.YtdkdmclbhcbfeaaDoorShelf
import Derived.Shelf.SlSortCmp.NoneTotal
import Derived.Lib.Hide
namespace Go.Proofs.YtdkdmclbhcbfeaaDoor.Nu
open Go.RowKit Go.Proofs.YtdkdmclbhcbfeaaDoor.Fl Go.Proofs.YtdkdmclbhcbfeaaDoorW.PrintWords Go.Proofs.YtdkdmclbhcbfeaaDoorW.PrintLast Go.Proofs.YtdkdmclbhcbfeaaDoorW.PrintMore
set_option linter.unusedVariables false
set_option linter.unusedSimpArgs false
/-- a number's bits -/
structure Bits where
  x : Nat
  h : x < 18446744073709551616
instance : Inhabited Bits := ⟨⟨0, by decide⟩⟩
def encB (x : Bits) : Value := .float .f64 x.x
def cfB (x y : Bits) : Int := cmp3 x.x y.x
theorem ltB (x y : Bits) : ltOf cfB x y = decide (rank x.x < rank y.x) := by
  unfold ltOf cfB cmp3
  apply decide_eq_decide.2
  repeat' split
  all_goals omega
theorem swoB : Go.Sort.SWO (ltOf cfB) where
  irrefl x := by rw [ltB]; simp
  trans x y z h1 h2 := by rw [ltB, decide_eq_true_eq] at *; omega
  ntrans x y z h1 h2 := by rw [ltB, decide_eq_false_iff_not] at *; omega
theorem lift_B : ∀ (L : List Nat), (∀ x ∈ L, x < 18446744073709551616) → ∃ D : List Bits, D.map (·.x) = L
  | [], _ => ⟨[], rfl⟩
  | x :: L, hb => by
    obtain ⟨D, hD⟩ := lift_B L (fun y hy => hb y (List.mem_cons_of_mem _ hy))
    exact ⟨⟨x, hb x List.mem_cons_self⟩ :: D, by rw [List.map_cons, hD]⟩
theorem inner_F {w : World} {base : Nat} {ok : Nat → Prop} {L : List Nat} {inner : List Value} (hr : Reps (kF.M w base ok) kF.sz L inner) (j : Nat) (x : Nat) (hx : L[j]? = some x) : inner[j]? = some (.float .f64 x) := by
  have h : (inner.drop (j * 1)).take 1 = [.float .f64 x] := hr.2 j x hx
  have e0 := congrArg (fun l => l[0]?) h
  simp only [List.getElem?_take, List.getElem?_drop] at e0
  simpa using e0
theorem put_get (f : Array Bits) (c : Array Value) (p : Nat) (hp : p < f.size) (hc : p < c.size) : (Go.Sort.putCells encB 0 f c)[p]? = some (encB f[p]!) := by
  unfold Go.Sort.putCells
  rw [Array.getElem?_mapIdx, Array.getElem?_eq_getElem hc]
  simp [hp]
theorem sort_F {base : Nat} {v : Value} {L : List Nat} {w : World} (hR : Kd.R kF 22 w base (fun _ => True) v L) (hb : ∀ x ∈ L, x < 18446744073709551616) (hlen : L.length < 4611686018427387904) :
    Calls Tryd.prog 40 #[v, .func (.func 18) #[] #[]] w fun e w' => e = .returned (.tuple #[]) ∧
      ∃ S : List Nat, S.Perm L ∧ S.Pairwise (fun a b => rank a ≤ rank b) ∧ Kd.R kF 22 w' base (fun _ => True) v S ∧ w.grownBy w' v.ownBlock := by
  obtain ⟨_, inner, ⟨hil, ho⟩, hr⟩ := hR
  rcases ho with ⟨rfl, h0⟩ | ⟨g, cap, cur, rfl, hg, hcur, hcap, hmax, hcs, htake⟩
  · obtain rfl : L = [] := List.length_eq_zero_iff.1 h0
    refine (AnyF.slices_SortFunc_none Tryd.sortF0 none 0 (.func (.func 18) #[] #[]) w).mono ?_
    rintro e w' ⟨rfl, rfl⟩
    exact ⟨rfl, [], List.Perm.refl _, List.Pairwise.nil, Kd.R_nil _ _ _ _ _, grown_of_below (Below.refl _ _) _⟩
  · rw [kF_sz] at hil hcs htake
    have eg : ∀ args w, (callFunc 18 args).run Tryd.prog w = .ok (.enter 18 args) w := enters_of Tryd.func18 (by kernel_rfl) rfl
    obtain ⟨D, hD⟩ := lift_B L hb
    have hDl : D.length = L.length := by rw [← hD]; simp
    have hH : Go.Sort.Holds encB w g 0 D.toArray := by
      intro j hj
      simp only [List.size_toArray] at hj
      refine ⟨?_, blk_frozen hcur _⟩
      rw [blk_cell hcur]
      have e1 : (D.toArray)[j]! = D[j] := by simp [hj]
      rw [e1]
      have hx : L[j]? = some D[j].x := by rw [← hD, List.getElem?_map, List.getElem?_eq_getElem hj]; rfl
      have i0 := inner_F hr j _ hx
      rw [← htake, List.getElem?_take, if_pos (by omega)] at i0
      rw [Nat.zero_add]
      simpa [encB] using i0
    have h := Any.slices_SortFunc Tryd.sortF encB (fun _ => rfl) cfB swoB 18 #[] g 0 cap D.toArray w eg
      (fun m os dk hs x y => (compare_calls x.x y.x x.h y.h _).mono fun _ _ ⟨he, hw⟩ => ⟨he, 0, #[], by rw [← hw]; rfl⟩) hH (blk_lt hcur) (by simp; omega)
    rw [show D.toArray.size = L.length by simpa using hDl] at h
    refine h.mono ?_
    rintro e w' ⟨rfl, d', n, os, ⟨hs, _, hp⟩, hso, rfl⟩
    have hd : d'.size = L.length := by have : d'.size = D.toArray.size := hs; simpa [hDl] using this
    have e1 : (d'.extract 0 L.length).toList = d'.toList := by rw [← hd]; simp
    have e2 : (D.toArray.extract 0 L.length).toList = D := by rw [← hDl]; simp
    rw [e1, e2] at hp
    have hh : (sortWorld encB w g 0 n d' os).heap = (w.heap.modify g (Go.Sort.onCells (Go.Sort.putCells encB 0 d'))) ++ os := rfl
    have hgl := blk_lt hcur
    refine ⟨rfl, d'.toList.map (·.x), ?_, ?_, ?_, ?_⟩
    · rw [← hD]; exact hp.map _
    · rw [List.pairwise_map, List.pairwise_iff_getElem]
      intro i j hi hj hij
      have := hso i j (Nat.zero_le _) hij (by simpa [hd] using hj)
      rw [ltB, decide_eq_false_iff_not] at this
      simp only [Array.length_toList] at hi hj
      rw [getElem!_pos d' i hi, getElem!_pos d' j hj] at this
      simp only [Array.getElem_toList]
      omega
    · have hl' : (d'.toList.map (·.x)).length = L.length := by simpa using hd
      obtain ⟨cur', hcur'⟩ : ∃ c, c = Go.Sort.putCells encB 0 d' cur := ⟨_, rfl⟩
      have hsz' : cur'.size = cap * 1 := by rw [hcur']; simp [Go.Sort.putCells, hcs]
      have hget : ∀ p, p < L.length → cur'[p]? = some (encB d'[p]!) := by
        intro p hp
        rw [hcur', put_get _ _ _ (by rw [hd]; exact hp) (by omega)]
      have hlt : cur'.toList.length = cap * 1 := by simpa using hsz'
      refine ⟨fun _ _ => trivial, cur'.toList.take (L.length * 1), ⟨?_, .inr ⟨g, cap, cur', by rw [hl'], hg, ?_, by omega, hmax, hsz', by rw [hl']; rfl⟩⟩, ?_, ?_⟩
      · rw [hl', List.length_take, hlt, kF_sz]; omega
      · rw [hh, Array.getElem?_append_left (by simpa using hgl), Array.getElem?_modify, if_pos rfl, hcur, hcur']
        rfl
      · rw [hl', List.length_take, hlt, kF_sz]; omega
      · intro j x hx
        have hj : j < L.length := by have := (List.getElem?_eq_some_iff.1 hx).1; omega
        have hjd : j < d'.size := by omega
        rw [List.getElem?_map, Array.getElem?_toList, Array.getElem?_eq_getElem hjd] at hx
        have hx' : d'[j].x = x := by simpa using hx
        have g0 := hget j hj
        rw [getElem!_pos d' j hjd] at g0
        have ht : ((cur'.toList.take (L.length * 1)).drop (j * kF.sz)).take kF.sz = [.float .f64 x] := by
          rw [kF_sz]
          apply List.ext_getElem?
          intro i
          rw [List.getElem?_take, List.getElem?_drop, List.getElem?_take, Array.getElem?_toList]
          rcases i with _ | i
          · rw [if_pos (by omega), if_pos (by omega), Nat.add_zero, Nat.mul_one, g0]; simp [encB, hx']
          · rw [if_neg (by omega)]; simp
        rw [ht]
        exact (show [Value.float .f64 x] = [Value.float .f64 x] from rfl)
    · refine ⟨rfl, rfl, rfl, by rw [hh]; simp, fun k hk hne => ?_⟩
      rw [hh, Array.getElem?_append_left (by simpa using hk), Array.getElem?_modify, if_neg (fun e => hne (by rw [e]; rfl))]
end Go.Proofs.YtdkdmclbhcbfeaaDoor.Nu
