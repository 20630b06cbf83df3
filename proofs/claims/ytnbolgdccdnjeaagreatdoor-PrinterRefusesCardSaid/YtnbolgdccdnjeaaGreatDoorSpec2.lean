/- The plain functions of layers 20 and 25 that the contracts name. -/
import Derived.Test.YtnbolgdccdnjeaaGreatDoorSpec
namespace Go.Proofs.YtnbolgdccdnjeaaGreatDoor.Np

structure Sig where
  zone : List UInt8
  key : Int
  alg : Int
  frm : Int
  til : Int
  sum : Int
deriving DecidableEq

structure Signed where
  set : DSet
  sigs : List Sig
deriving DecidableEq

structure Span where
  frm : Int
  til : Int
deriving DecidableEq

def sameWin (g x : Sig) : Bool := (x.frm != g.frm) || (x.til != g.til)
def plainSigs : List Sig → Bool
  | [] => true
  | g :: r => !(decide (g.frm < 0) || decide (g.til < g.frm) || decide (20000000 < g.til)) && !((g :: r).any (sameWin g))
def plain (s : Signed) : Bool := validSet s.set && decide (s.sigs.length ≤ 6) && plainSigs s.sigs

def sureErr (s : Signed) (drift stop : Int) : Int := if 0 ≤ drift ∧ drift ≤ 1000 ∧ 1 ≤ stop ∧ stop ≤ 20000000 ∧ plain s = true then 0 else 1
def sureFrom (s : Signed) (drift : Int) : Int := match s.sigs with | [] => 0 | g :: _ => g.frm + drift
def sureTil (s : Signed) (drift stop : Int) : Int := match s.sigs with | [] => stop | g :: _ => min stop (g.til - drift + 1)
def sure (s : Signed) (drift stop : Int) : List Span :=
  if sureErr s drift stop = 0 then (if sureTil s drift stop ≤ sureFrom s drift then [] else [⟨sureFrom s drift, sureTil s drift stop⟩]) else []

def timesStep (length drift life : Int) : Int := length - max life 1 - 3 * drift + 2
def timesArg (begin stop length drift life : Int) : Prop := 0 ≤ drift ∧ drift ≤ 1000 ∧ 1 ≤ stop ∧ stop ≤ 10000000 ∧ drift ≤ begin ∧ begin ≤ stop - 1 ∧ 1 ≤ length ∧ length ≤ 10000000 ∧ 0 ≤ life ∧ life ≤ 100000
instance (b s l d f : Int) : Decidable (timesArg b s l d f) := by unfold timesArg; infer_instance
/-- The times from b on, before s, by steps of k. -/
def timesFrom (b s k : Int) : List Int := (List.range ((s - b + k - 1) / k).toNat).map fun (i : Nat) => b + i * k
def timesErr (b s l d f : Int) : Int := if timesArg b s l d f then (if timesStep l d f < 1 then 32 else if 400 < (timesFrom b s (timesStep l d f)).length then 2 else 0) else 1
def times (b s l d f : Int) : List Int := if timesErr b s l d f = 0 then timesFrom b s (timesStep l d f) else []

end Go.Proofs.YtnbolgdccdnjeaaGreatDoor.Np
