/-
  The items of a text, as a plain function on tokens.
-/
import Derived.Test.YtpfhgkielakmoaaDoorTn
set_option linter.unusedSimpArgs false
set_option linter.unusedVariables false
namespace Go.Proofs.YtpfhgkielakmoaaDoor

/-- What a part of the parser answers: a value, and what is left; or what is wrong, where this is left. -/
inductive PR (α : Type) where
  | ok (x : α) (l : List Tok)
  | bad (e : Int) (l : List Tok)
abbrev Pm (α : Type) := List Tok → PR α
def pret {α : Type} (x : α) : Pm α := fun l => .ok x l
def pbind {α β : Type} (f : Pm α) (g : α → Pm β) : Pm β := fun l => match f l with
  | .ok x r => g x r
  | .bad e r => .bad e r
def errP (l : List Tok) : Int := if l.isEmpty then 6 else 5
def wrongP {α : Type} : Pm α := fun l => .bad (errP l) l
def isP (s : List UInt8) (l : List Tok) : Bool := match l with
  | [] => false
  | t :: _ => t.t == s
def headP (l : List Tok) : Tok := l.headD ⟨0, [], 0, 0⟩
def mayP (s : List UInt8) : Pm Bool := fun l => if isP s l then .ok true l.tail else .ok false l
def takeP (s : List UInt8) : Pm Unit := fun l => if isP s l then .ok () l.tail else wrongP l
def takesP : List (List UInt8) → Pm Unit
  | [] => pret ()
  | s :: r => pbind (takeP s) fun _ => takesP r
def words : List (List UInt8) := [[97, 114, 114, 97, 121], [98, 111, 111, 108], [99, 111, 110, 115, 116, 114, 97, 105, 110, 116], [102, 97, 108, 115, 101], [105, 110, 116], [109, 97, 120, 105, 109, 105, 122, 101], [109, 105, 110, 105, 109, 105, 122, 101], [111, 102], [111, 117, 116, 112, 117, 116, 95, 97, 114, 114, 97, 121], [111, 117, 116, 112, 117, 116, 95, 118, 97, 114], [115, 97, 116, 105, 115, 102, 121], [115, 111, 108, 118, 101], [116, 114, 117, 101], [118, 97, 114]]
def wordP (t : List UInt8) : Bool := words.contains t
def kindP (l : List Tok) : Int := match l with
  | [] => 0
  | t :: _ => if t.k = 1 ∧ wordP t.t = true then 0 else t.k
def nameP : Pm (List UInt8) := fun l => if kindP l = 1 then .ok (headP l).t l.tail else wrongP l
def numberP : Pm Int := fun l => if kindP l = 2 then .ok (headP l).v l.tail else wrongP l
def exactP (n : Int) : Pm Unit := fun l => if kindP l = 2 ∧ (headP l).v = n then .ok () l.tail else wrongP l
/-- An expression within a list (m: how many it has itself); an expression. -/
structure Ex0 where
  k : Int
  n : Int
  s : List UInt8
  m : Nat
structure Ex where
  k : Int
  n : Int
  s : List UInt8
  l : List Ex0
def Ex.low (x : Ex) : Ex0 := ⟨x.k, x.n, x.s, x.l.length⟩
structure It where
  k : Int
  name : List UInt8
  bool : Bool
  dom : List (Int × Int)
  size : Int
  out : Bool
  vals : List Ex
  ask : Int
def wTrue : List UInt8 := [116, 114, 117, 101]
def wFalse : List UInt8 := [102, 97, 108, 115, 101]
def plainP : Pm Ex := fun l =>
  if kindP l = 2 then .ok ⟨1, (headP l).v, [], []⟩ l.tail
  else if kindP l = 1 then .ok ⟨3, 0, (headP l).t, []⟩ l.tail
  else if isP wTrue l then .ok ⟨2, 1, [], []⟩ l.tail
  else if isP wFalse l then .ok ⟨2, 0, [], []⟩ l.tail
  else wrongP l
def exprsGo (en : List UInt8) (one : Pm Ex) : Nat → List Ex → Pm (List Ex)
  | 0, _ => fun l => .bad 3 l
  | k + 1, acc => pbind one fun x => pbind (mayP en) fun b => if b then pret (acc ++ [x]) else pbind (takeP [44]) fun _ => exprsGo en one k (acc ++ [x])
def exprsP (en : List UInt8) (one : Pm Ex) : Pm (List Ex) := pbind (mayP en) fun b => if b then pret [] else exprsGo en one 64 []
def exprP : Pm Ex := pbind (mayP [91]) fun b => if b then pbind (exprsP [93] plainP) fun xs => pret ⟨4, 0, [], xs.map Ex.low⟩ else plainP
def domGo : Nat → List (Int × Int) → Pm (List (Int × Int))
  | 0, _ => fun l => .bad 3 l
  | k + 1, acc => pbind numberP fun n => pbind (mayP [125]) fun b => if b then pret (acc ++ [(n, n)]) else pbind (takeP [44]) fun _ => domGo k (acc ++ [(n, n)])
def wBool : List UInt8 := [98, 111, 111, 108]
def domP : Pm (Bool × List (Int × Int)) := pbind (mayP wBool) fun b => if b then pret (true, []) else
  pbind (mayP [123]) fun b => if b then pbind (domGo 256 []) fun d => pret (false, d) else
  pbind numberP fun lo => pbind (takeP [46, 46]) fun _ => pbind numberP fun hi => pret (false, [(lo, hi)])
def wOutVar : List UInt8 := [111, 117, 116, 112, 117, 116, 95, 118, 97, 114]
def wOutArray : List UInt8 := [111, 117, 116, 112, 117, 116, 95, 97, 114, 114, 97, 121]
def wInt : List UInt8 := [105, 110, 116]
def wOf : List UInt8 := [111, 102]
def wVar : List UInt8 := [118, 97, 114]
def wArray : List UInt8 := [97, 114, 114, 97, 121]
def wConstraint : List UInt8 := [99, 111, 110, 115, 116, 114, 97, 105, 110, 116]
def wSolve : List UInt8 := [115, 111, 108, 118, 101]
def wSatisfy : List UInt8 := [115, 97, 116, 105, 115, 102, 121]
def wMinimize : List UInt8 := [109, 105, 110, 105, 109, 105, 122, 101]
def wMaximize : List UInt8 := [109, 97, 120, 105, 109, 105, 122, 101]
def variableP : Pm It := pbind domP fun d => pbind (takeP [58]) fun _ => pbind nameP fun nm =>
  pbind (mayP [58, 58]) fun o => pbind (if o then takeP wOutVar else pret ()) fun _ =>
  pbind (mayP [61]) fun v => if v then pbind plainP fun x => pret ⟨2, nm, d.1, d.2, 0, o, [x], 0⟩ else pret ⟨2, nm, d.1, d.2, 0, o, [], 0⟩
def truthP : Pm Bool := pbind (mayP wBool) fun b => if b then pret true else pbind (takeP wInt) fun _ => pret false
def arrayP : Pm It := pbind (takeP [91]) fun _ => pbind (exactP 1) fun _ => pbind (takeP [46, 46]) fun _ => pbind numberP fun n =>
  pbind (takesP [[93], wOf]) fun _ => pbind (mayP wVar) fun v => pbind truthP fun b => pbind (takeP [58]) fun _ => pbind nameP fun nm =>
  pbind (if v then mayP [58, 58] else pret false) fun o =>
  pbind (if o then pbind (takesP [wOutArray, [40], [91]]) fun _ => pbind (exactP 1) fun _ => pbind (takeP [46, 46]) fun _ => pbind (exactP n) fun _ => takesP [[93], [41]] else pret ()) fun _ =>
  pbind (takesP [[61], [91]]) fun _ => pbind (exprsP [93] plainP) fun xs => pret ⟨if v then 4 else 3, nm, b, [], n, o, xs, 0⟩
/-- May the value of a Par stand here? -/
def fitsP (b : Bool) (l : List Tok) : Bool := if b then isP wTrue l || isP wFalse l else !(isP wTrue l || isP wFalse l) && decide (kindP l = 2)
def parP : Pm It := pbind truthP fun b => pbind (takeP [58]) fun _ => pbind nameP fun nm => pbind (takeP [61]) fun _ => fun l =>
  if fitsP b l then pbind plainP (fun x => pret ⟨1, nm, b, [], 0, false, [x], 0⟩) l else wrongP l
def goalP : Pm It := pbind (mayP wSatisfy) fun s => if s then pret ⟨6, [], false, [], 0, false, [], 0⟩ else
  pbind (mayP wMinimize) fun s => if s then pbind nameP fun nm => pret ⟨6, nm, false, [], 0, false, [], 1⟩ else
  pbind (mayP wMaximize) fun s => if s then pbind nameP fun nm => pret ⟨6, nm, false, [], 0, false, [], 2⟩ else wrongP
def itemP : Pm It := fun l => if isP wInt l || isP wBool l then parP l else
  (pbind (mayP wVar) fun b => if b then variableP else
  pbind (mayP wArray) fun b => if b then arrayP else
  pbind (mayP wConstraint) fun b => if b then (pbind nameP fun nm => pbind (takeP [40]) fun _ => pbind (exprsP [41] exprP) fun xs => pret ⟨5, nm, false, [], 0, false, xs, 0⟩) else
  pbind (mayP wSolve) fun b => if b then goalP else wrongP) l
def allGo : Nat → List It → Pm (List It)
  | k, acc => fun l => if l.isEmpty then .ok acc l else match k with
    | 0 => .bad 3 l
    | k + 1 => pbind itemP (fun x => pbind (takeP [59]) fun _ => allGo k (acc ++ [x])) l
def placeP (n : Int) (l : List Tok) : Int := match l with
  | [] => n
  | t :: _ => t.at_
/-- The items of a text; or none, where it is wrong, and how. -/
def textP (s : List UInt8) : List It × Int × Int := match splitR s with
  | (l, p, e) => if e ≠ 0 then ([], p, e) else match allGo 512 [] l with
    | .ok x _ => (x, 0, 0)
    | .bad e r => ([], placeP s.length r, e)
end Go.Proofs.YtpfhgkielakmoaaDoor
