/- A part of the proof of the statement PlanLands: words, contracts of functions that it reaches, and what they compute. No condition. -/
import Derived.Test.YtbmldeikjfecfaaE01
set_option linter.unusedVariables false
set_option linter.unusedSimpArgs false
namespace Go.Proofs.Ytbmldeikjfecfaa.Hd
open Go.Proofs.Ytbmldeikjfecfaa.T
def i64 (x : Int) : Prop := -9223372036854775808 ≤ x ∧ x < 9223372036854775808
def u32 (x : Int) : Prop := 0 ≤ x ∧ x < 4294967296
instance (x : Int) : Decidable (i64 x) := inferInstanceAs (Decidable (_ ∧ _))
instance (x : Int) : Decidable (u32 x) := inferInstanceAs (Decidable (_ ∧ _))
def okE (e : S40) : Prop := i64 e.f0 ∧ u32 e.f1 ∧ i64 e.f2 ∧ i64 e.f3
def okL (e : S63) : Prop := i64 e.f0 ∧ u32 e.f1 ∧ i64 e.f2 ∧ i64 e.f3
instance (e : S40) : Decidable (okE e) := inferInstanceAs (Decidable (_ ∧ _))
instance (e : S63) : Decidable (okL e) := inferInstanceAs (Decidable (_ ∧ _))
def sane (hosts cyc dly win prec : Int) (ds : List (List Int)) (es : List S40) (ls : List S63) (q : Int) : Prop :=
  i64 hosts ∧ i64 cyc ∧ i64 dly ∧ i64 win ∧ i64 prec ∧ i64 q ∧ (∀ l ∈ ds, l.length ≤ 9223372036854775807 ∧ ∀ x ∈ l, i64 x) ∧ (∀ e ∈ es, okE e) ∧ (∀ e ∈ ls, okL e) ∧
    ds.length ≤ 9223372036854775807 ∧ es.length ≤ 9223372036854775807 ∧ ls.length ≤ 9223372036854775807
instance (hosts cyc dly win prec : Int) (ds : List (List Int)) (es : List S40) (ls : List S63) (q : Int) : Decidable (sane hosts cyc dly win prec ds es ls q) := inferInstanceAs (Decidable (_ ∧ _))
def timeV (s : Int) : Int := 8 * (if s < 64 then 64 else if 1518 < s then 1518 else s)
def hasV (dst i : Int) : Bool := decide (0 ≤ i) && decide (i < 6) && dst.toNat.testBit i.toNat
def routeV (hosts frm dst size : Int) : Bool := decide (0 ≤ frm) && decide (frm < hosts) && decide (dst ≠ 0) && decide (dst < 2 ^ hosts.toNat) && !hasV dst frm && decide (64 ≤ size) && decide (size ≤ 1518)
def spansV (cyc dly win prec : Int) : Bool := decide (1 ≤ cyc ∧ cyc ≤ 1073741824 ∧ 0 ≤ dly ∧ dly ≤ 1048576 ∧ 0 ≤ win ∧ win ≤ 1048576 ∧ 0 ≤ prec ∧ prec ≤ 1048576)
def quietV (dly win prec : Int) : Int := 2 * dly + win + 4 * prec
def fwdV (dly prec : Int) (e : S40) : Int := e.f2 + timeV e.f3 + dly + 2 * prec
def lateV (dly prec : Int) (e : S40) : Int := fwdV dly prec e + timeV e.f3 + dly + prec
def meetV (a ta b tb : Int) : Bool := decide (a < b + tb) && decide (b < a + ta)
def rowV (dly : Int) (l : List Int) : Bool := decide (l.length = 2) && l.all (fun n => decide (0 ≤ n ∧ n ≤ dly))
def bad5 (hosts : Int) (e : S40) : Bool := !routeV hosts e.f0 e.f1 e.f3
def bad6 (cyc dly win prec : Int) (e : S40) : Bool := decide (e.f2 < quietV dly win prec) || decide (cyc ≤ e.f2) || decide (cyc ≤ lateV dly prec e)
def bad7 (a b : S40) : Bool := decide (a.f0 = b.f0) && meetV a.f2 (timeV a.f3) b.f2 (timeV b.f3)
def bad8 (dly prec : Int) (a b : S40) : Bool := (Go.bits .and .u32 a.f1 b.f1 != 0) && meetV (fwdV dly prec a) (timeV a.f3) (fwdV dly prec b) (timeV b.f3)
def bad9 (hosts : Int) (l : S63) : Bool := !routeV hosts l.f0 l.f1 l.f3 || !decide (1 ≤ l.f2 ∧ l.f2 ≤ 1073741824)
def pairsV (l : List S40) (bad : S40 → S40 → Bool) : Bool := (List.range l.length).any fun i => (l.take i).any fun b => bad (l.getD i z40) b
def checkV (hosts cyc dly win prec : Int) (ds : List (List Int)) (es : List S40) (ls : List S63) (q : Int) : Int :=
  if ¬(1 ≤ hosts ∧ hosts ≤ 6) then 1 else if ¬(1 ≤ cyc ∧ cyc ≤ 1073741824) then 2 else if spansV cyc dly win prec = false then 3
  else if ¬((ds.length : Int) = hosts ∧ ds.all (rowV dly) = true) then 4
  else if 16 < es.length ∨ es.any (bad5 hosts) = true then 5
  else if es.any (bad6 cyc dly win prec) = true then 6
  else if pairsV es bad7 = true then 7
  else if pairsV es (bad8 dly prec) = true then 8
  else if 16 < ls.length ∨ ls.any (bad9 hosts) = true then 9
  else if ¬(1 ≤ q ∧ q ≤ 64) then 10 else 0
def conf_Check.f (a0_0 : Int) (a0_1 : Int) (a0_2 : Int) (a0_3 : Int) (a0_4 : Int) (l0_5 : List (List Int)) (l0_6 : List (S40)) (l0_7 : List (S63)) (a0_8 : Int) : Option Int :=
  if sane a0_0 a0_1 a0_2 a0_3 a0_4 l0_5 l0_6 l0_7 a0_8 then some (checkV a0_0 a0_1 a0_2 a0_3 a0_4 l0_5 l0_6 l0_7 a0_8) else none
def onWire (host : Int) (down : Bool) (e : S40) : Bool := if down then hasV e.f1 host else decide (e.f0 = host)
def stretchV (dly prec : Int) (down : Bool) (e : S40) : S71 := ⟨if down then fwdV dly prec e else e.f2, (if down then fwdV dly prec e else e.f2) + timeV e.f3⟩
def resV (dly prec : Int) (es : List S40) (host : Int) (down : Bool) : List S71 := (es.filter (onWire host down)).map (stretchV dly prec down)
def plan_reserved.f (a0_0 : Int) (a0_1 : Int) (a0_2 : Int) (a0_3 : Int) (a0_4 : Int) (l0_5 : List (List Int)) (l0_6 : List (S40)) (l0_7 : List (S63)) (a0_8 : Int) (a1 : Int) (a2 : Bool) : Option (List S71) :=
  if sane a0_0 a0_1 a0_2 a0_3 a0_4 l0_5 l0_6 l0_7 a0_8 ∧ checkV a0_0 a0_1 a0_2 a0_3 a0_4 l0_5 l0_6 l0_7 a0_8 = 0 ∧ i64 a1 then
    some ((resV a0_2 a0_4 l0_6 a1 a2).mergeSort (fun x y => decide (x.f0 ≤ y.f0))) else none
end Go.Proofs.Ytbmldeikjfecfaa.Hd
