/- A part of the claim P: the texts Sp, without what the claim does not lean on. -/
namespace Go.Proofs.Ytmpondcccbmlhaa.Sp
def firstErr : List Int → Int
  | [] => 0
  | x :: l => if x = 0 then firstErr l else x
def countErr (n : Int) : Int := if n < 2 then 10 else if 5 < n then 8 else 0
def coefErr (x : Int) : Int := if -1000 ≤ x ∧ x ≤ 1000 then 0 else 2
def coefsErr : List Int → Int
  | [] => 0
  | x :: l => if coefErr x = 0 then coefsErr l else coefErr x
def polyErr (p : List Int) : Int :=
  if countErr p.length = 0 then (if coefsErr p = 0 then (if 0 < p.headD 0 then 0 else 3) else coefsErr p) else countErr p.length
def freqErr (w : Int) : Int := if 0 ≤ w ∧ w ≤ 1000 then 0 else 2
def freqsErr (before : Option Int) : List Int → Int
  | [] => 0
  | w :: l => if freqErr w = 0 then (if before.elim true (fun b => decide (b < w)) = true then freqsErr (some w) l else 9) else freqErr w
def gridErr (l : List Int) : Int := if 20 < (l.length : Int) then 8 else freqsErr none l
def valFrom (w : Int) : List Int → Int × Int → Int × Int
  | [], v => v
  | x :: l, v => valFrom w l (x - v.2 * w, v.1 * w)
def val (p : List Int) (w : Int) : Int × Int := valFrom w p (0, 0)
def quad (v : Int × Int) : Int :=
  if 0 < v.1 ∧ 0 ≤ v.2 then 0 else if v.1 ≤ 0 ∧ 0 < v.2 then 1 else if v.1 < 0 ∧ v.2 ≤ 0 then 2 else 3
def quads (p : List Int) : List Int → Option (List Int)
  | [] => some []
  | w :: l => if val p w = (0, 0) then none else (quads p l).map (quad (val p w) :: ·)
end Go.Proofs.Ytmpondcccbmlhaa.Sp
