import Derived.Test.YtjlhjabgclflcaaGreatDoorProg
import Derived.Lib.ParseIntB
set_option linter.unusedSimpArgs false
set_option linter.unusedVariables false
namespace Go.Proofs.YtjlhjabgclflcaaGreatDoor
def isLetter (c:UInt8):Bool:=c==95||(decide (97≤c.toNat)&&decide (c.toNat≤122))||(decide (65≤c.toNat)&&decide (c.toNat≤90))
def isDigit (c:UInt8):Bool:=decide (48≤c.toNat)&&decide (c.toNat≤57)
def isWs (c:UInt8):Bool:=c==32||c==9||c==13||c==10
def isSign (c:UInt8):Bool:=c==58||c==123||c==125||c==91||c==93||c==40||c==41||c==44||c==59||c==61
def isWord (c:UInt8):Bool:=isLetter c||isDigit c
def noLf (c:UInt8):Bool:= !(c==10)
def classN (c:UInt8):Int:=if isLetter c then 1 else if isDigit c then 2 else if isSign c then 3 else 0
theorem dropWhile_le {α:Type} (p:α→Bool) (l:List α):(l.dropWhile p).length≤l.length:=by
 induction l with
 |nil=>simp
 |cons x r ih=>
  rw[List.dropWhile_cons];split
  ·simp;omega
  ·simp
def blankL (l:List UInt8):List UInt8:=
 match h:l.dropWhile isWs with
 |[]=>[]
 |c::r=>if c=37 then blankL (r.dropWhile noLf) else c::r
termination_by l.length
decreasing_by
 have h1:=dropWhile_le isWs l
 have h2:=dropWhile_le noLf r
 rw[h]at h1
 simp at h1
 omega
theorem blankL_le (l:List UInt8):(blankL l).length≤l.length:=by
 induction l using blankL.induct with
 |case1 l h=>rw[blankL];split<;>simp_all
 |case2 l r h ih=>
  have h1:=dropWhile_le isWs l;have h2:=dropWhile_le noLf r;rw[blankL];split
  ·simp
  ·rename_i c r' h';rw[h]at h' h1;injection h' with e1 e2;subst e1 e2;simp at h1;simp;omega
 |case3 l c r h hc=>
  have h1:=dropWhile_le isWs l;rw[blankL];split
  ·simp
  ·rename_i c' r' h';rw[h]at h' h1;injection h' with e1 e2;subst e1 e2;rw[if_neg hc];exact h1
def wordL:List UInt8→Int×Nat
 |[]=>(0,0)
 |c::r=>
  if isLetter c then (1,1+(r.takeWhile isWord).length)
  else if isDigit c then (2,1+(r.takeWhile isDigit).length)
  else if c=45∧(r.head?.map isDigit)=some true then (2,1+(r.takeWhile isDigit).length)
  else if (c=58∧r.head? =some 58)∨(c=46∧r.head? =some 46) then (3,2)
  else if isSign c then (3,1) else (0,0)
structure Tok where
 k:Int
 t:List UInt8
 v:Int
 at_:Int
theorem takeWhile_le {α:Type} (p:α→Bool) (l:List α):(l.takeWhile p).length≤l.length:=by
 induction l with
 |nil=>simp
 |cons x r ih=>
  rw[List.takeWhile_cons];split
  ·simp;omega
  ·simp
theorem wordL_pos {l:List UInt8} (h:(wordL l).1≠0):1≤(wordL l).2∧(wordL l).2≤l.length:=by
 cases l with
 |nil=>exact absurd rfl h
 |cons c r=>
  have h1:=takeWhile_le isWord r;have h2:=takeWhile_le isDigit r;unfold wordL at h⊢;simp only at h⊢;split
  ·simp;omega
  ·rename_i e1;rw[if_neg e1]at h;split
   ·simp;omega
   ·rename_i e2;rw[if_neg e2]at h;split
    ·simp;omega
    ·rename_i e3;rw[if_neg e3]at h;split
     ·rename_i e4;cases r with
      |nil=>simp at e4
      |cons d r=>simp
     ·rename_i e4;rw[if_neg e4]at h;split
      ·simp
      ·rename_i e5;rw[if_neg e5]at h;exact absurd rfl h
def splitB (n:Nat) (l:List UInt8) (acc:List Tok):List Tok×Nat×Int:=
 if l=[] then (acc,0,0)
 else if acc.length=4096 then ([],n-l.length,3)
 else if h:(wordL l).1=0 then ([],n-l.length,5)
 else if (wordL l).1=2 then
  match Lib.parseIntB 64 (l.take (wordL l).2) with
  | .ok v=>splitB n (blankL (l.drop (wordL l).2)) (acc++[⟨2,l.take (wordL l).2,v,((n-l.length:Nat):Int)⟩])
  |_=>([],n-l.length,4)
 else splitB n (blankL (l.drop (wordL l).2)) (acc++[⟨(wordL l).1,l.take (wordL l).2,0,((n-l.length:Nat):Int)⟩])
termination_by l.length
decreasing_by
 all_goals
  have h1:=wordL_pos h;have h2:=blankL_le (l.drop (wordL l).2);rw[List.length_drop]at h2;omega
def splitR (l:List UInt8):List Tok×Nat×Int:=if 8192<l.length then ([],0,3) else splitB l.length (blankL l) []
end Go.Proofs.YtjlhjabgclflcaaGreatDoor
