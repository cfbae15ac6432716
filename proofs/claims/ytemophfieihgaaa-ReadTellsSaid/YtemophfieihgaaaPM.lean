/- What rxread reads, told plainly: on the characters that are left. -/
import Derived.Test.YtemophfieihgaaaC5
import Derived.Test.YtemophfieihgaaaVM
import Derived.Test.YtemophfieihgaaaV4
import Derived.Test.YtemophfieihgaaaW2
set_option maxRecDepth 100000
namespace Go.Proofs.Ytemophfieihgaaa
abbrev Res := Except Int (Rx × List Str)
def rx0 : Rx := .mk 0 [] false [] 0 0 false []
def rxK (k : Int) : Rx := .mk k [] false [] 0 0 false []
def chrR (c : Str) : Rx := .mk 2 c false [] 0 0 false []
def setR (rows : List Row) (ng : Bool) : Rx := .mk 4 [] ng rows 0 0 false []
def grpR (k : Int) (x : Rx) : Rx := .mk k [] false [] 0 0 false [x]
def repR (lo hi : Int) (lz : Bool) (x : Rx) : Rx := .mk 7 [] false [] lo hi lz [x]
def plainM (c : Str) : Option Str :=
  if c = [] then none else if c = [110] then some [10] else if c = [114] then some [13] else if c = [116] then some [9] else if c = [102] then some [12] else if c = [118] then some [11]
  else if c = [95] ∨ wordB c = false then some c else none
def namedS (c : Str) : Option (List Row) := match c with
  | [b] => if namedB b = true then some (namedL b) else none
  | _ => none
/-- 'D', 'W', 'S'. -/
def bigS (c : Str) : Option (List Row) := if c = [68] then some (namedL 100) else if c = [87] then some (namedL 119) else if c = [83] then some (namedL 115) else none
def escM : List Str → Res
  | [] => .error 10
  | c :: r => match namedS c with
    | some rows => .ok (setR rows false, r)
    | none => match bigS c with
      | some rows => .ok (setR rows true, r)
      | none => match plainM c with
        | none => .error 10
        | some t => .ok (chrR t, r)
/-- An item of a class: a character, or rows. -/
def itemM : List Str → Option (Str × List Row × List Str)
  | [] => none
  | c :: r => if c = [93] then none else if c = [92] then (match r with
      | [] => none
      | c2 :: r2 => match namedS c2 with
        | some rows => some ([], rows, r2)
        | none => match plainM c2 with
          | none => none
          | some t => some (t, [], r2)) else some (c, [], r)
/-- Is a character taken, and what is behind it? -/
def takeM (c : Str) : List Str → Option (List Str)
  | [] => none
  | x :: r => if x = c then some r else none
def classL : Nat → List Row → List Str → Option (List Row × List Str)
  | 0, _, _ => none
  | n + 1, rows, r => match takeM [93] r with
    | some r1 => some (rows, r1)
    | none => match itemM r with
      | none => none
      | some (c, nm, r1) =>
        if nm ≠ [] then classL n (rows ++ nm) r1
        else match takeM [45] r1 with
          | none => classL n (rows ++ [(c, c)]) r1
          | some r2 => if takeM [93] r2 = none then (match itemM r2 with
              | none => none
              | some (t, nm2, r3) => if nm2 ≠ [] ∨ Op.bytesLess t c = true then none else classL n (rows ++ [(c, t)]) r3)
            else classL n (rows ++ [(c, c)]) r1
def classM (r : List Str) : Res :=
  let ng := (takeM [94] r).isSome
  let r0 := (takeM [94] r).getD r
  match classL (r0.length + 1) [] r0 with
  | none => .error 10
  | some (rows, r1) => .ok (setR (unionM rows) ng, r1)
def digS (c : Str) : Option Nat := match c with
  | [b] => if 48 ≤ b.toNat ∧ b.toNat ≤ 57 then some (b.toNat - 48) else none
  | _ => none
def numL : Nat → Nat → List Str → Option (Nat × List Str)
  | k, n, [] => if 0 < k ∧ n ≤ 255 then some (n, []) else none
  | k, n, c :: r => match digS c with
    | some d => if k = 3 then none else numL (k + 1) (10 * n + d) r
    | none => if 0 < k ∧ n ≤ 255 then some (n, c :: r) else none
def boundsM (r : List Str) : Option (Int × Int × List Str) := match numL 0 0 r with
  | none => none
  | some (lo, r1) => match takeM [125] r1 with
    | some r2 => some (lo, lo, r2)
    | none => match takeM [44] r1 with
      | none => none
      | some r2 => match takeM [125] r2 with
        | some r3 => some (lo, -1, r3)
        | none => match numL 0 0 r2 with
          | none => none
          | some (hi, r3) => if lo ≤ hi then (match takeM [125] r3 with
            | some r4 => some (lo, hi, r4)
            | none => none) else none
def lazyM (x : Rx) (lo hi : Int) (r : List Str) : Rx × List Str := match takeM [63] r with
  | some r1 => (repR lo hi true x, r1)
  | none => (repR lo hi false x, r)
def quantM (x : Rx) : List Str → Res
  | [] => .ok (x, [])
  | c :: r => if c = [42] then .ok (lazyM x 0 (-1) r) else if c = [43] then .ok (lazyM x 1 (-1) r) else if c = [63] then .ok (lazyM x 0 1 r)
    else if c = [123] then (match boundsM r with
      | none => .error 10
      | some (lo, hi, r1) => .ok (lazyM x lo hi r1)) else .ok (x, c :: r)
def groupK (r : List Str) : Option (Int × List Str) := match takeM [63] r with
  | none => some (5, r)
  | some r1 => match takeM [58] r1 with
    | none => none
    | some r2 => some (6, r2)
def groupM (pat : List Str → Nat → Res) (r : List Str) (d : Nat) : Res :=
  if 16 ≤ d then .error 8 else match groupK r with
  | none => .error 10
  | some (k, r0) => match pat r0 (d + 1) with
    | .error e => .error e
    | .ok (x, r1) => match takeM [41] r1 with
      | none => .error 10
      | some r2 => .ok (grpR k x, r2)
/-- The characters that are no atom by themselves. -/
def noAtom (c : Str) : Bool := decide (c = [42]) || decide (c = [43]) || decide (c = [63]) || decide (c = [41]) || decide (c = [123]) || decide (c = [124]) || decide (c = [94]) || decide (c = [36])
def atomM (pat : List Str → Nat → Res) : List Str → Nat → Res
  | [], _ => .error 10
  | c :: r, d => if c = [46] then .ok (rxK 3, r) else if c = [40] then groupM pat r d else if c = [91] then classM r else if c = [92] then escM r
    else if noAtom c = true then .error 10 else .ok (chrR c, r)
/-- The four bounds. -/
def edgeM (r : List Str) : Option (Rx × List Str) := match r with
  | [] => none
  | c :: r1 => if c = [94] then some (rxK 8, r1) else if c = [36] then some (rxK 9, r1) else if c = [92] then (match takeM [98] r1 with
    | some r2 => some (rxK 10, r2)
    | none => match takeM [66] r1 with
      | some r2 => some (rxK 11, r2)
      | none => none) else none
def termM (pat : List Str → Nat → Res) (r : List Str) (d : Nat) : Res := match edgeM r with
  | some y => .ok y
  | none => match atomM pat r d with
    | .error e => .error e
    | .ok (x, r1) => quantM x r1
def patL (trm : List Str → Res) : Nat → List Rx → List Rx → List Str → Res
  | 0, _, _, _ => .error 1
  | n + 1, alts, terms, r => match r with
    | [] => .ok (altR (alts ++ [seqR terms]), [])
    | c :: r1 => if c = [41] then .ok (altR (alts ++ [seqR terms]), c :: r1) else if c = [124] then patL trm n (alts ++ [seqR terms]) [] r1
      else match trm (c :: r1) with
        | .error e => .error e
        | .ok (x, r2) => patL trm n alts (terms ++ [x]) r2
def patF : Nat → List Str → Nat → Res
  | 0, _, _ => .error 1
  | n + 1, r, d => patL (fun r => termM (patF n) r d) (r.length + 1) [] [] r
def readC (l : List Str) : Except Int Rx := match patF (l.length + 1) l 0 with
  | .error e => .error e
  | .ok (x, []) => .ok x
  | .ok (_, _ :: _) => .error 10
def readM (s : Str) : Except Int Rx :=
  if 256 < s.length then .error 4 else match splitM s with
  | [] => readC []
  | c :: r => if properB c = true then readC (c :: r) else .error 10
end Go.Proofs.Ytemophfieihgaaa
