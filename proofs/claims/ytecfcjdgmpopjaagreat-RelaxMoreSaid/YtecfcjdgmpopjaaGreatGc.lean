/-
  Joined texts: Ma, Ga, Ea, Gb, Gc.
-/
import Derived.Test.YtecfcjdgmpopjaaGreatBase
import Derived.Test.YtecfcjdgmpopjaaGreatKb
import Derived.Test.YtecfcjdgmpopjaaGreatKu
import Derived.Test.YtecfcjdgmpopjaaGreatKC
set_option linter.unusedSimpArgs false
set_option linter.unusedVariables false
namespace Go.Proofs.YtecfcjdgmpopjaaGreat
open Go.RowKit Num
structure Cn where
 k:Int
 x:List Int
 a:List Int
 c:Int
structure Md where
 doms:List (List (Int×Int))
 cons:List Cn
 ask:Int
 goal:Int
def withinB (n:Int):Bool:=decide (-1048576≤n)&&decide (n≤1048576)
def rangeB (p:Option Int)(r:Int×Int):Bool:=decide (r.1≤r.2)&&(withinB r.1&&(withinB r.2&&(match p with
 |none=>true
 |some h=>decide (2≤r.1-h))))
def rangesB (p:Option Int):List (Int×Int)→Bool
 |[]=>true
 |r::l=>rangeB p r&&rangesB (some r.2) l
def domB (l:List (Int×Int)):Bool:=rangesB none l&&decide (1≤l.length)
def truthB (l:List (Int×Int)):Bool:=match l with
 |[]=>false
 |r::l'=>decide (0≤r.1)&&decide (((r::l').getLast (by simp)).2≤1)
structure Shp where
 rule:Int
 x:Int
 a:Int
 has:Bool
 bits:Int
def shapeOf (k:Int):Option Shp:=
 if k=1∨k=2∨k=3 then some ⟨1,0,0,true,0⟩
 else if k=4∨k=5∨k=6 then some ⟨1,1,0,true,1⟩
 else if k=7∨k=8∨k=9 then some ⟨0,3,0,false,0⟩
 else if k=10∨k=15 then some ⟨0,2,0,false,0⟩
 else if k=11 then some ⟨1,0,0,false,2⟩
 else if k=12∨k=13 then some ⟨2,1,0,false,2⟩
 else if k=14 then some ⟨0,3,0,false,2⟩
 else if k=16 then some ⟨3,2,0,false,0⟩
 else if k=17 then some ⟨2,3,0,false,0⟩
 else if k=18 then some ⟨2,0,0,false,0⟩
 else if k=19 then some ⟨4,0,0,true,0⟩
 else none
def countsB (s:Shp)(x a:Int):Bool:=
 if s.rule=0 then decide (x=s.x)&&decide (a=s.a)
 else if s.rule=1 then decide (x=a+s.x)
 else if s.rule=2 then decide (s.x≤x)&&decide (a=s.a)
 else if s.rule=3 then decide (x=s.x)&&(decide (1≤a)&&decide (a≤64))
 else decide (a=2*x)
def unitB (a:Int):Bool:=a==1||a== -1
def formedB (c:Cn):Bool:=match shapeOf c.k with
 |none=>false
 |some s=>countsB s c.x.length c.a.length&&(if c.k=11 then c.a.all unitB else if c.k=19 then decide (0≤c.c)&&c.a.all (fun a=>decide (0≤a)) else true)
def placeB (doms:List (List (Int×Int)))(bit:Bool)(x:Int):Bool:=decide (0≤x)&&(match doms[x.toNat]? with
 |none=>false
 |some d=> !bit||truthB d)
def placesB (doms:List (List (Int×Int)))(bits:Int):List Int→Bool
 |[]=>true
 |[x]=>placeB doms (decide (bits=2)||decide (bits=1)) x
 |x::y::l=>placeB doms (decide (bits=2)) x&&placesB doms bits (y::l)
def mayC (doms:List (List (Int×Int)))(c:Cn):Bool:=formedB c&&(decide (c.x.length≤32)&&(withinB c.c&&((decide (c.c=0)||(match shapeOf c.k with|some s=>s.has|none=>false))&&
 (placesB doms (match shapeOf c.k with|some s=>s.bits|none=>0) c.x&&c.a.all withinB))))
def askB (m:Md):Bool:=if m.ask=0 then decide (m.goal=0) else if m.ask=1∨m.ask=2 then decide (0≤m.goal)&&decide (m.goal<m.doms.length) else false
def rightM (m:Md):Bool:=decide (m.doms.length≤64)&&(decide (m.cons.length≤64)&&(m.doms.all domB&&(m.cons.all (mayC m.doms)&&askB m)))
def shapeD (c:Cn):Bool:=
 if c.k=1∨c.k=2∨c.k=3 then decide (c.x.length=c.a.length)
 else if c.k=4∨c.k=5∨c.k=6 then decide (c.x.length=c.a.length+1)
 else if c.k=7∨c.k=8∨c.k=9∨c.k=14 then decide (c.x.length=3)&&decide (c.a.length=0)
 else if c.k=10∨c.k=15 then decide (c.x.length=2)&&decide (c.a.length=0)
 else if c.k=11 then decide (c.x.length=c.a.length)&&c.a.all unitB
 else if c.k=12∨c.k=13 then decide (1≤c.x.length)&&decide (c.a.length=0)
 else if c.k=16 then decide (c.x.length=2)&&(decide (1≤c.a.length)&&decide (c.a.length≤64))
 else if c.k=17 then decide (3≤c.x.length)&&decide (c.a.length=0)
 else if c.k=18 then decide (c.a.length=0)
 else if c.k=19 then decide (c.a.length=2*c.x.length)&&(c.a.all (fun a=>decide (0≤a))&&decide (0≤c.c))
 else false
def namedD (k:Int):Bool:=(decide (1≤k)&&decide (k≤6))||decide (k=19)
def inD (doms:List (List (Int×Int)))(x:Int):Bool:=decide (0≤x)&&decide (x<doms.length)
def truthD (doms:List (List (Int×Int)))(x:Int):Bool:=match doms[x.toNat]? with
 |none=>false
 |some d=>truthB d
def conD (doms:List (List (Int×Int)))(c:Cn):Bool:=shapeD c&&(decide (c.x.length≤32)&&(withinB c.c&&((decide (c.c=0)||namedD c.k)&&(c.x.all (inD doms)&&(c.a.all withinB&&
 (if c.k=4∨c.k=5∨c.k=6 then(match c.x.getLast? with|none=>false|some x=>truthD doms x) else if c.k=11∨c.k=12∨c.k=13∨c.k=14 then c.x.all (truthD doms) else true))))))
theorem placeB_in {doms:List (List (Int×Int))}{b:Bool}{x:Int}:placeB doms b x=(inD doms x&&(!b||truthD doms x)):=by
 unfold placeB inD truthD;by_cases h0:0≤x
 ·rw[dT h0];by_cases h1:x<doms.length
  ·rw[dT h1,gG (by omega:x.toNat<doms.length)];rfl
  ·rw[dF h1,List.getElem?_eq_none (by omega)];rfl
 ·rw[dF h0];rfl
theorem places_0 (doms:List (List (Int×Int))):∀x:List Int,placesB doms 0 x=x.all (inD doms)
 |[]=>rfl
 |[x]=>by
  show placeB doms false x=(inD doms x&&true);rw[placeB_in];rfl
 |x::y::l=>by
  show(placeB doms false x&&placesB doms 0 (y::l))=(inD doms x&&(y::l).all (inD doms));rw[placeB_in,places_0 doms (y::l)];cases inD doms x<;>rfl
theorem places_2 (doms:List (List (Int×Int))):∀x:List Int,placesB doms 2 x=(x.all (inD doms)&&x.all (truthD doms))
 |[]=>rfl
 |[x]=>by
  show placeB doms true x=((inD doms x&&true)&&(truthD doms x&&true));rw[placeB_in];cases inD doms x<;>cases truthD doms x<;>rfl
 |x::y::l=>by
  show(placeB doms true x&&placesB doms 2 (y::l))=((inD doms x&&(y::l).all (inD doms))&&(truthD doms x&&(y::l).all (truthD doms)));rw[placeB_in,places_2 doms (y::l)];cases inD doms x<;>cases truthD doms x<;>cases (y::l).all (inD doms)<;>rfl
theorem places_1 (doms:List (List (Int×Int))):∀x:List Int,x≠[]→placesB doms 1 x=(x.all (inD doms)&&(match x.getLast? with|none=>false|some y=>truthD doms y))
 |[],h=>absurd rfl h
 |[x],_=>by
  show placeB doms true x=((inD doms x&&true)&&truthD doms x);rw[placeB_in];cases inD doms x<;>rfl
 |x::y::l,_=>by
  show(placeB doms false x&&placesB doms 1 (y::l))=((inD doms x&&(y::l).all (inD doms))&&(match (x::y::l).getLast? with|none=>false|some z=>truthD doms z));rw[placeB_in,places_1 doms (y::l) (by simp),List.getLast?_cons_cons];cases inD doms x<;>rfl
theorem c_p0 (n m:Nat)(h:Bool)(b:Int):countsB ⟨1,0,0,h,b⟩ n m=decide (n=m):=by
 show decide ((n:Int)=(m:Int)+0)=_;exact decide_eq_decide.2 (by omega)
theorem c_p1 (n m:Nat)(h:Bool)(b:Int):countsB ⟨1,1,0,h,b⟩ n m=decide (n=m+1):=by
 show decide ((n:Int)=(m:Int)+1)=_;exact decide_eq_decide.2 (by omega)
theorem c_k (n m:Nat)(h:Bool)(b:Int):countsB ⟨4,0,0,h,b⟩ n m=decide (m=2*n):=by
 show decide ((m:Int)=2*(n:Int))=_;exact decide_eq_decide.2 (by omega)
theorem c_e3 (n m:Nat)(h:Bool)(b:Int):countsB ⟨0,3,0,h,b⟩ n m=(decide (n=3)&&decide (m=0)):=by
 show(decide ((n:Int)=3)&&decide ((m:Int)=0))=_;rw[show decide ((n:Int)=3)=decide (n=3) from decide_eq_decide.2 (by omega),show decide ((m:Int)=0)=decide (m=0) from decide_eq_decide.2 (by omega)]
theorem c_e2 (n m:Nat)(h:Bool)(b:Int):countsB ⟨0,2,0,h,b⟩ n m=(decide (n=2)&&decide (m=0)):=by
 show(decide ((n:Int)=2)&&decide ((m:Int)=0))=_;rw[show decide ((n:Int)=2)=decide (n=2) from decide_eq_decide.2 (by omega),show decide ((m:Int)=0)=decide (m=0) from decide_eq_decide.2 (by omega)]
theorem c_s1 (n m:Nat)(h:Bool)(b:Int):countsB ⟨2,1,0,h,b⟩ n m=(decide (1≤n)&&decide (m=0)):=by
 show(decide (1≤(n:Int))&&decide ((m:Int)=0))=_;rw[show decide (1≤(n:Int))=decide (1≤n) from decide_eq_decide.2 (by omega),show decide ((m:Int)=0)=decide (m=0) from decide_eq_decide.2 (by omega)]
theorem c_s3 (n m:Nat)(h:Bool)(b:Int):countsB ⟨2,3,0,h,b⟩ n m=(decide (3≤n)&&decide (m=0)):=by
 show(decide (3≤(n:Int))&&decide ((m:Int)=0))=_;rw[show decide (3≤(n:Int))=decide (3≤n) from decide_eq_decide.2 (by omega),show decide ((m:Int)=0)=decide (m=0) from decide_eq_decide.2 (by omega)]
theorem c_s0 (n m:Nat)(h:Bool)(b:Int):countsB ⟨2,0,0,h,b⟩ n m=decide (m=0):=by
 show(decide ((0:Int)≤(n:Int))&&decide ((m:Int)=0))=_;rw[dT (show(0:Int)≤(n:Int) by omega),Bool.true_and];exact decide_eq_decide.2 (by omega)
theorem c_t (n m:Nat)(h:Bool)(b:Int):countsB ⟨3,2,0,h,b⟩ n m=(decide (n=2)&&(decide (1≤m)&&decide (m≤64))):=by
 show(decide ((n:Int)=2)&&(decide (1≤(m:Int))&&decide ((m:Int)≤64)))=_;rw[show decide ((n:Int)=2)=decide (n=2) from decide_eq_decide.2 (by omega),show decide (1≤(m:Int))=decide (1≤m) from decide_eq_decide.2 (by omega),show decide ((m:Int)≤64)=decide (m≤64) from decide_eq_decide.2 (by omega)]
theorem may_con (doms:List (List (Int×Int)))(c:Cn):mayC doms c=conD doms c:=by
 obtain⟨k,x,a,cc⟩:=c;by_cases hk:1≤k∧k≤19
 ·have h:k=1∨k=2∨k=3∨k=4∨k=5∨k=6∨k=7∨k=8∨k=9∨k=10∨k=11∨k=12∨k=13∨k=14∨k=15∨k=16∨k=17∨k=18∨k=19:=by omega
  rcases h with rfl|rfl|rfl|rfl|rfl|rfl|rfl|rfl|rfl|rfl|rfl|rfl|rfl|rfl|rfl|rfl|rfl|rfl|rfl
  ·have e1:mayC doms ⟨1,x,a,cc⟩=((countsB ⟨1,0,0,true,0⟩ x.length a.length&&true)&&(decide (x.length≤32)&&(withinB cc&&((decide (cc=0)||true)&&(placesB doms 0 x&&a.all withinB))))):=rfl;have e2:conD doms ⟨1,x,a,cc⟩=(decide (x.length=a.length)&&(decide (x.length≤32)&&(withinB cc&&((decide (cc=0)||true)&&(x.all (inD doms)&&(a.all withinB&&true)))))):=rfl;rw[e1,e2,c_p0,places_0];cases x.all (inD doms)<;>cases a.all withinB<;>simp
  ·have e1:mayC doms ⟨2,x,a,cc⟩=((countsB ⟨1,0,0,true,0⟩ x.length a.length&&true)&&(decide (x.length≤32)&&(withinB cc&&((decide (cc=0)||true)&&(placesB doms 0 x&&a.all withinB))))):=rfl;have e2:conD doms ⟨2,x,a,cc⟩=(decide (x.length=a.length)&&(decide (x.length≤32)&&(withinB cc&&((decide (cc=0)||true)&&(x.all (inD doms)&&(a.all withinB&&true)))))):=rfl;rw[e1,e2,c_p0,places_0];cases x.all (inD doms)<;>cases a.all withinB<;>simp
  ·have e1:mayC doms ⟨3,x,a,cc⟩=((countsB ⟨1,0,0,true,0⟩ x.length a.length&&true)&&(decide (x.length≤32)&&(withinB cc&&((decide (cc=0)||true)&&(placesB doms 0 x&&a.all withinB))))):=rfl;have e2:conD doms ⟨3,x,a,cc⟩=(decide (x.length=a.length)&&(decide (x.length≤32)&&(withinB cc&&((decide (cc=0)||true)&&(x.all (inD doms)&&(a.all withinB&&true)))))):=rfl;rw[e1,e2,c_p0,places_0];cases x.all (inD doms)<;>cases a.all withinB<;>simp
  ·have e1:mayC doms ⟨4,x,a,cc⟩=((countsB ⟨1,1,0,true,1⟩ x.length a.length&&true)&&(decide (x.length≤32)&&(withinB cc&&((decide (cc=0)||true)&&(placesB doms 1 x&&a.all withinB))))):=rfl;have e2:conD doms ⟨4,x,a,cc⟩=(decide (x.length=a.length+1)&&(decide (x.length≤32)&&(withinB cc&&((decide (cc=0)||true)&&(x.all (inD doms)&&(a.all withinB&&(match x.getLast? with|none=>false|some x=>truthD doms x))))))):=rfl;rw[e1,e2,c_p1];cases x with
   |nil=>
    rw[dF (show ¬([]:List Int).length=a.length+1 by simp)];rfl
   |cons y l=>
    rw[places_1 doms (y::l) (by simp)];generalize (match (y::l).getLast? with|none=>false|some x=>truthD doms x)=v;cases (y::l).all (inD doms)<;>cases a.all withinB<;>cases v<;>simp
  ·have e1:mayC doms ⟨5,x,a,cc⟩=((countsB ⟨1,1,0,true,1⟩ x.length a.length&&true)&&(decide (x.length≤32)&&(withinB cc&&((decide (cc=0)||true)&&(placesB doms 1 x&&a.all withinB))))):=rfl;have e2:conD doms ⟨5,x,a,cc⟩=(decide (x.length=a.length+1)&&(decide (x.length≤32)&&(withinB cc&&((decide (cc=0)||true)&&(x.all (inD doms)&&(a.all withinB&&(match x.getLast? with|none=>false|some x=>truthD doms x))))))):=rfl;rw[e1,e2,c_p1];cases x with
   |nil=>
    rw[dF (show ¬([]:List Int).length=a.length+1 by simp)];rfl
   |cons y l=>
    rw[places_1 doms (y::l) (by simp)];generalize (match (y::l).getLast? with|none=>false|some x=>truthD doms x)=v;cases (y::l).all (inD doms)<;>cases a.all withinB<;>cases v<;>simp
  ·have e1:mayC doms ⟨6,x,a,cc⟩=((countsB ⟨1,1,0,true,1⟩ x.length a.length&&true)&&(decide (x.length≤32)&&(withinB cc&&((decide (cc=0)||true)&&(placesB doms 1 x&&a.all withinB))))):=rfl;have e2:conD doms ⟨6,x,a,cc⟩=(decide (x.length=a.length+1)&&(decide (x.length≤32)&&(withinB cc&&((decide (cc=0)||true)&&(x.all (inD doms)&&(a.all withinB&&(match x.getLast? with|none=>false|some x=>truthD doms x))))))):=rfl;rw[e1,e2,c_p1];cases x with
   |nil=>
    rw[dF (show ¬([]:List Int).length=a.length+1 by simp)];rfl
   |cons y l=>
    rw[places_1 doms (y::l) (by simp)];generalize (match (y::l).getLast? with|none=>false|some x=>truthD doms x)=v;cases (y::l).all (inD doms)<;>cases a.all withinB<;>cases v<;>simp
  ·have e1:mayC doms ⟨7,x,a,cc⟩=((countsB ⟨0,3,0,false,0⟩ x.length a.length&&true)&&(decide (x.length≤32)&&(withinB cc&&((decide (cc=0)||false)&&(placesB doms 0 x&&a.all withinB))))):=rfl;have e2:conD doms ⟨7,x,a,cc⟩=((decide (x.length=3)&&decide (a.length=0))&&(decide (x.length≤32)&&(withinB cc&&((decide (cc=0)||false)&&(x.all (inD doms)&&(a.all withinB&&true)))))):=rfl;rw[e1,e2,c_e3,places_0];cases x.all (inD doms)<;>cases a.all withinB<;>simp
  ·have e1:mayC doms ⟨8,x,a,cc⟩=((countsB ⟨0,3,0,false,0⟩ x.length a.length&&true)&&(decide (x.length≤32)&&(withinB cc&&((decide (cc=0)||false)&&(placesB doms 0 x&&a.all withinB))))):=rfl;have e2:conD doms ⟨8,x,a,cc⟩=((decide (x.length=3)&&decide (a.length=0))&&(decide (x.length≤32)&&(withinB cc&&((decide (cc=0)||false)&&(x.all (inD doms)&&(a.all withinB&&true)))))):=rfl;rw[e1,e2,c_e3,places_0];cases x.all (inD doms)<;>cases a.all withinB<;>simp
  ·have e1:mayC doms ⟨9,x,a,cc⟩=((countsB ⟨0,3,0,false,0⟩ x.length a.length&&true)&&(decide (x.length≤32)&&(withinB cc&&((decide (cc=0)||false)&&(placesB doms 0 x&&a.all withinB))))):=rfl;have e2:conD doms ⟨9,x,a,cc⟩=((decide (x.length=3)&&decide (a.length=0))&&(decide (x.length≤32)&&(withinB cc&&((decide (cc=0)||false)&&(x.all (inD doms)&&(a.all withinB&&true)))))):=rfl;rw[e1,e2,c_e3,places_0];cases x.all (inD doms)<;>cases a.all withinB<;>simp
  ·have e1:mayC doms ⟨10,x,a,cc⟩=((countsB ⟨0,2,0,false,0⟩ x.length a.length&&true)&&(decide (x.length≤32)&&(withinB cc&&((decide (cc=0)||false)&&(placesB doms 0 x&&a.all withinB))))):=rfl;have e2:conD doms ⟨10,x,a,cc⟩=((decide (x.length=2)&&decide (a.length=0))&&(decide (x.length≤32)&&(withinB cc&&((decide (cc=0)||false)&&(x.all (inD doms)&&(a.all withinB&&true)))))):=rfl;rw[e1,e2,c_e2,places_0];cases x.all (inD doms)<;>cases a.all withinB<;>simp
  ·have e1:mayC doms ⟨11,x,a,cc⟩=((countsB ⟨1,0,0,false,2⟩ x.length a.length&&a.all unitB)&&(decide (x.length≤32)&&(withinB cc&&((decide (cc=0)||false)&&(placesB doms 2 x&&a.all withinB))))):=rfl;have e2:conD doms ⟨11,x,a,cc⟩=((decide (x.length=a.length)&&a.all unitB)&&(decide (x.length≤32)&&(withinB cc&&((decide (cc=0)||false)&&(x.all (inD doms)&&(a.all withinB&&x.all (truthD doms))))))):=rfl;rw[e1,e2,c_p0,places_2];cases x.all (inD doms)<;>cases a.all withinB<;>cases x.all (truthD doms)<;>simp
  ·have e1:mayC doms ⟨12,x,a,cc⟩=((countsB ⟨2,1,0,false,2⟩ x.length a.length&&true)&&(decide (x.length≤32)&&(withinB cc&&((decide (cc=0)||false)&&(placesB doms 2 x&&a.all withinB))))):=rfl;have e2:conD doms ⟨12,x,a,cc⟩=((decide (1≤x.length)&&decide (a.length=0))&&(decide (x.length≤32)&&(withinB cc&&((decide (cc=0)||false)&&(x.all (inD doms)&&(a.all withinB&&x.all (truthD doms))))))):=rfl;rw[e1,e2,c_s1,places_2];cases x.all (inD doms)<;>cases a.all withinB<;>cases x.all (truthD doms)<;>simp
  ·have e1:mayC doms ⟨13,x,a,cc⟩=((countsB ⟨2,1,0,false,2⟩ x.length a.length&&true)&&(decide (x.length≤32)&&(withinB cc&&((decide (cc=0)||false)&&(placesB doms 2 x&&a.all withinB))))):=rfl;have e2:conD doms ⟨13,x,a,cc⟩=((decide (1≤x.length)&&decide (a.length=0))&&(decide (x.length≤32)&&(withinB cc&&((decide (cc=0)||false)&&(x.all (inD doms)&&(a.all withinB&&x.all (truthD doms))))))):=rfl;rw[e1,e2,c_s1,places_2];cases x.all (inD doms)<;>cases a.all withinB<;>cases x.all (truthD doms)<;>simp
  ·have e1:mayC doms ⟨14,x,a,cc⟩=((countsB ⟨0,3,0,false,2⟩ x.length a.length&&true)&&(decide (x.length≤32)&&(withinB cc&&((decide (cc=0)||false)&&(placesB doms 2 x&&a.all withinB))))):=rfl;have e2:conD doms ⟨14,x,a,cc⟩=((decide (x.length=3)&&decide (a.length=0))&&(decide (x.length≤32)&&(withinB cc&&((decide (cc=0)||false)&&(x.all (inD doms)&&(a.all withinB&&x.all (truthD doms))))))):=rfl;rw[e1,e2,c_e3,places_2];cases x.all (inD doms)<;>cases a.all withinB<;>cases x.all (truthD doms)<;>simp
  ·have e1:mayC doms ⟨15,x,a,cc⟩=((countsB ⟨0,2,0,false,0⟩ x.length a.length&&true)&&(decide (x.length≤32)&&(withinB cc&&((decide (cc=0)||false)&&(placesB doms 0 x&&a.all withinB))))):=rfl;have e2:conD doms ⟨15,x,a,cc⟩=((decide (x.length=2)&&decide (a.length=0))&&(decide (x.length≤32)&&(withinB cc&&((decide (cc=0)||false)&&(x.all (inD doms)&&(a.all withinB&&true)))))):=rfl;rw[e1,e2,c_e2,places_0];cases x.all (inD doms)<;>cases a.all withinB<;>simp
  ·have e1:mayC doms ⟨16,x,a,cc⟩=((countsB ⟨3,2,0,false,0⟩ x.length a.length&&true)&&(decide (x.length≤32)&&(withinB cc&&((decide (cc=0)||false)&&(placesB doms 0 x&&a.all withinB))))):=rfl;have e2:conD doms ⟨16,x,a,cc⟩=((decide (x.length=2)&&(decide (1≤a.length)&&decide (a.length≤64)))&&(decide (x.length≤32)&&(withinB cc&&((decide (cc=0)||false)&&(x.all (inD doms)&&(a.all withinB&&true)))))):=rfl;rw[e1,e2,c_t,places_0];cases x.all (inD doms)<;>cases a.all withinB<;>simp
  ·have e1:mayC doms ⟨17,x,a,cc⟩=((countsB ⟨2,3,0,false,0⟩ x.length a.length&&true)&&(decide (x.length≤32)&&(withinB cc&&((decide (cc=0)||false)&&(placesB doms 0 x&&a.all withinB))))):=rfl;have e2:conD doms ⟨17,x,a,cc⟩=((decide (3≤x.length)&&decide (a.length=0))&&(decide (x.length≤32)&&(withinB cc&&((decide (cc=0)||false)&&(x.all (inD doms)&&(a.all withinB&&true)))))):=rfl;rw[e1,e2,c_s3,places_0];cases x.all (inD doms)<;>cases a.all withinB<;>simp
  ·have e1:mayC doms ⟨18,x,a,cc⟩=((countsB ⟨2,0,0,false,0⟩ x.length a.length&&true)&&(decide (x.length≤32)&&(withinB cc&&((decide (cc=0)||false)&&(placesB doms 0 x&&a.all withinB))))):=rfl;have e2:conD doms ⟨18,x,a,cc⟩=(decide (a.length=0)&&(decide (x.length≤32)&&(withinB cc&&((decide (cc=0)||false)&&(x.all (inD doms)&&(a.all withinB&&true)))))):=rfl;rw[e1,e2,c_s0,places_0];cases x.all (inD doms)<;>cases a.all withinB<;>simp
  ·have e1:mayC doms ⟨19,x,a,cc⟩=((countsB ⟨4,0,0,true,0⟩ x.length a.length&&(decide (0≤cc)&&a.all fun a=>decide (0≤a)))&&(decide (x.length≤32)&&(withinB cc&&((decide (cc=0)||true)&&(placesB doms 0 x&&a.all withinB))))):=rfl;have e2:conD doms ⟨19,x,a,cc⟩=((decide (a.length=2*x.length)&&((a.all fun a=>decide (0≤a))&&decide (0≤cc)))&&(decide (x.length≤32)&&(withinB cc&&((decide (cc=0)||true)&&(x.all (inD doms)&&(a.all withinB&&true)))))):=rfl;rw[e1,e2,c_k,places_0];cases x.all (inD doms)<;>cases a.all withinB<;>cases decide (0≤cc)<;>cases (a.all fun a=>decide (0≤a))<;>simp
 ·have hs:shapeOf k=none:=by
   unfold shapeOf;rw[if_neg (by omega),if_neg (by omega),if_neg (by omega),if_neg (by omega),if_neg (by omega),if_neg (by omega),if_neg (by omega),if_neg (by omega),if_neg (by omega),if_neg (by omega),if_neg (by omega)]
  have hd:shapeD ⟨k,x,a,cc⟩=false:=by
   unfold shapeD;dsimp only;rw[if_neg (by omega),if_neg (by omega),if_neg (by omega),if_neg (by omega),if_neg (by omega),if_neg (by omega),if_neg (by omega),if_neg (by omega),if_neg (by omega),if_neg (by omega)]
  unfold mayC formedB conD;rw[hs,hd];rfl
def rowP:List Int→Int→List Int→List Int→List Int
 |row,s,a::l,x::xs=>rowP (row.set x.toNat (row.getD x.toNat 0+s*a)) s l xs
 |row,_,_,_=>row
def addP (p:Pg)(c:Cn)(s most:Int):Pg:=
 if (rowP (List.replicate p.lo.length 0) s c.a c.x).all withinB then{p with a:=p.a++[rowP (List.replicate p.lo.length 0) s c.a c.x],b:=p.b++[most]} else p
def mostP:Int→List Int→Int
 |n,[]=>n
 |n,z::l=>mostP (if z<0 then n+1 else n) l
def conP (p:Pg)(c:Cn):Pg:=
 if c.k=2 then addP p c 1 c.c else if c.k=1 then addP (addP p c 1 c.c) c (-1) (-c.c) else if c.k=11 then addP p c (-1) (mostP (-1) c.a) else p
def costP (n:Nat)(ask goal:Int):List Int:=if ask=1 then(List.replicate n 0).set goal.toNat 1 else if ask=2 then(List.replicate n 0).set goal.toNat (-1) else List.replicate n 0
def fitM (m:Md)(d:List (List (Int×Int))):Bool:=decide (d.length=m.doms.length)&&rightM {m with doms:=d}
def loD (l:List (Int×Int)):Int:=(l.headD (0,0)).1
def hiD (l:List (Int×Int)):Int:=(l.getLastD (0,0)).2
def startP (m:Md)(d:List (List (Int×Int))):Pg:=⟨d.map loD,d.map hiD,[],[],costP d.length m.ask m.goal⟩
def ofP (m:Md)(d:List (List (Int×Int))):Pg:=m.cons.foldl conP (startP m d)
theorem rowP_len:∀(a x:List Int)(row:List Int)(s:Int),(rowP row s a x).length=row.length
 |[],x,row,s=>by cases x<;>rfl
 |a::l,[],row,s=>rfl
 |a::l,x::xs,row,s=>by
  show(rowP _ s l xs).length=_;rw[rowP_len l xs,List.length_set]
theorem mostP_in:∀(l:List Int)(n:Int),n≤mostP n l∧mostP n l≤n+l.length
 |[],n=>by
  show n≤n∧n≤n+((0:Nat):Int);omega
 |z::l,n=>by
  have h:=mostP_in l (if z<0 then n+1 else n);show n≤mostP (if z<0 then n+1 else n) l∧mostP (if z<0 then n+1 else n) l≤n+((l.length+1:Nat):Int);by_cases hz:z<0
  ·rw[if_pos hz]at h⊢;omega
  ·rw[if_neg hz]at h⊢;omega
structure Rwp (n k:Nat) (p q:Pg):Prop where
 lo:q.lo=p.lo
 hi:q.hi=p.hi
 c:q.c=p.c
 nn:p.lo.length=n
 ab:q.a.length=q.b.length
 ak:q.a.length≤k
 rows:∀r∈q.a,r.length=n∧r.all withinB=true
 ends:∀z∈q.b,-1099511627776≤z∧z≤1099511627776
theorem Rwp.mono {n k k':Nat}{p q:Pg}(h:Rwp n k p q)(hk:k≤k'):Rwp n k' p q:=⟨h.lo,h.hi,h.c,h.nn,h.ab,Nat.le_trans h.ak hk,h.rows,h.ends⟩
theorem Rwp.add {n k:Nat}{p q:Pg}(h:Rwp n k p q)(c:Cn)(s:Int){most:Int}(h1: -1099511627776≤most)(h2:most≤1099511627776):Rwp n (k+1) p (addP q c s most):=by
 unfold addP;split
 ·rename_i hw;refine⟨h.lo,h.hi,h.c,h.nn,?_,?_,fun r hr=> ?_,fun z hz=> ?_⟩
  ·show(q.a++[_]).length=(q.b++[_]).length;rw[List.length_append,List.length_append,h.ab];rfl
  ·show(q.a++[_]).length≤_;rw[List.length_append];exact Nat.succ_le_succ h.ak
  ·rcases List.mem_append.1 hr with hr|hr
   ·exact h.rows r hr
   ·rw[List.mem_singleton]at hr;subst hr;exact⟨by rw[rowP_len,List.length_replicate,h.lo,h.nn],hw⟩
  ·rcases List.mem_append.1 hz with hz|hz
   ·exact h.ends z hz
   ·rw[List.mem_singleton]at hz;subst hz;exact⟨h1,h2⟩
 ·exact h.mono (Nat.le_succ k)
theorem within_in {z:Int}(h:withinB z=true): -1048576≤z∧z≤1048576:=by
 unfold withinB at h;rw[Bool.and_eq_true,decide_eq_true_eq,decide_eq_true_eq]at h;exact h
theorem Rwp.con {n k:Nat}{p q:Pg}(h:Rwp n k p q){c:Cn}(h1:withinB c.c=true)(h2:c.k=11→c.a.length≤32):Rwp n (k+2) p (conP q c):=by
 have hc:=within_in h1;unfold conP;split
 ·exact(h.add c 1 (by omega) (by omega)).mono (by omega)
 ·split
  ·exact(h.add c 1 (by omega) (by omega)).add c (-1) (by omega) (by omega)
  ·split
   ·rename_i e;have h3:=mostP_in c.a (-1);have h4:=h2 e;exact(h.add c (-1) (by omega) (by omega)).mono (by omega)
   ·exact h.mono (by omega)
theorem Rwp.cons {n:Nat}{p:Pg}:∀(l:List Cn){k:Nat}{q:Pg},Rwp n k p q→(∀c∈l,withinB c.c=true∧(c.k=11→c.a.length≤32))→Rwp n (k+2*l.length) p (l.foldl conP q)
 |[],k,q,h,_=>h
 |c::l,k,q,h,hl=>by
  have h1:=hl c List.mem_cons_self;have h2:=Rwp.cons l (h.con h1.1 h1.2) fun c' hc=>hl c' (List.mem_cons_of_mem _ hc);exact h2.mono (by rw[List.length_cons];omega)
theorem Rwp.start (m:Md)(d:List (List (Int×Int))):Rwp d.length 0 (startP m d) (startP m d):=
 ⟨rfl,rfl,rfl,List.length_map _,rfl,Nat.le_refl _,(fun r hr=>by cases hr),fun z hz=>by cases hz⟩
theorem may_in {doms:List (List (Int×Int))}{c:Cn}(h:mayC doms c=true):withinB c.c=true∧(c.k=11→c.a.length≤32):=by
 rw[may_con]at h;unfold conD at h;simp only[Bool.and_eq_true,decide_eq_true_eq]at h;obtain⟨h1,h2,h3,_⟩:=h;refine⟨h3,fun e=> ?_⟩;unfold shapeD at h1;rw[e]at h1;simp at h1;omega
theorem dom_in {l:List (Int×Int)}(h:domB l=true):(-1048576≤loD l∧loD l≤1048576)∧(-1048576≤hiD l∧hiD l≤1048576)∧loD l≤hiD l:=by
 have key:∀(l:List (Int×Int))(p:Option Int)(r:Int×Int),rangesB p (r::l)=true→(-1048576≤r.1∧r.1≤1048576)∧(-1048576≤hiD (r::l)∧hiD (r::l)≤1048576)∧r.1≤hiD (r::l):=fun l=>by
  induction l with
  |nil=>
   intro p r h;have h0:(rangeB p r&&true)=true:=h;unfold rangeB at h0;simp only[Bool.and_eq_true,decide_eq_true_eq]at h0;exact⟨within_in h0.1.2.1,within_in h0.1.2.2.1,h0.1.1⟩
  |cons y l ih=>
   intro p r h;have h0:(rangeB p r&&rangesB (some r.2) (y::l))=true:=h;rw[Bool.and_eq_true]at h0;obtain⟨h1,h2⟩:=h0;have h3:=ih _ _ h2;have h4:(rangeB (some r.2) y&&rangesB (some y.2) l)=true:=h2;unfold rangeB at h1 h4;simp only[Bool.and_eq_true,decide_eq_true_eq]at h1 h4;have e:hiD (r::y::l)=hiD (y::l):=rfl;rw[e];exact⟨within_in h1.2.1,h3.2.1,by omega⟩
 unfold domB at h;rw[Bool.and_eq_true,decide_eq_true_eq]at h;obtain⟨h1,h2⟩:=h;cases l with
 |nil=>cases h2
 |cons r l=>exact key l none r h1
theorem fit_parts {m:Md}{d:List (List (Int×Int))}(h:fitM m d=true):d.length=m.doms.length∧d.length≤64∧m.cons.length≤64∧(∀l∈d,domB l=true)∧(∀c∈m.cons,mayC d c=true)∧askB {m with doms:=d}=true:=by
 unfold fitM rightM at h;simp only[Bool.and_eq_true,decide_eq_true_eq,List.all_eq_true]at h;exact h
theorem costP_in {n:Nat}{ask goal:Int}:(costP n ask goal).length=n∧∀z∈costP n ask goal,-1≤z∧z≤1:=by
 have key:∀(v:Int),-1≤v∧v≤1→∀z∈(List.replicate n (0:Int)).set goal.toNat v,-1≤z∧z≤1:=fun v hv z hz=>by
  rcases List.mem_or_eq_of_mem_set hz with h|h
  ·have:=List.eq_of_mem_replicate h;omega
  ·omega
 unfold costP;split
 ·exact⟨by rw[List.length_set,List.length_replicate],key 1 (by decide)⟩
 ·split
  ·exact⟨by rw[List.length_set,List.length_replicate],key (-1) (by decide)⟩
  ·exact⟨List.length_replicate,fun z hz=>by have:=List.eq_of_mem_replicate hz;omega⟩
theorem near_all {most:Int}{l:List Int}(h:∀z∈l,-most≤z∧z≤most):nearL most l=true:=List.all_eq_true.2 fun z hz=>by
 rw[Bool.and_eq_true,decide_eq_true_eq,decide_eq_true_eq];exact h z hz
theorem ends_map:∀(d:List (List (Int×Int))),(∀l∈d,domB l=true)→endsL (d.map loD) (d.map hiD)=true
 |[],_=>rfl
 |l::d,h=>by
  show(decide (loD l≤hiD l)&&endsL (d.map loD) (d.map hiD))=true;rw[ends_map d fun l' hl=>h l' (List.mem_cons_of_mem _ hl),dT (dom_in (h l List.mem_cons_self)).2.2];rfl
theorem ofP_right {m:Md}{d:List (List (Int×Int))}(h:fitM m d=true):rightPg (ofP m d)=true:=by
 obtain⟨h1,h2,h3,h4,h5,h6⟩:=fit_parts h;have R:=Rwp.cons m.cons (Rwp.start m d) fun c hc=>may_in (h5 c hc);have e1:(ofP m d).lo=d.map loD:=R.lo;have e2:(ofP m d).hi=d.map hiD:=R.hi;have e3:(ofP m d).c=costP d.length m.ask m.goal:=R.c;have e4:(ofP m d).a.length=(ofP m d).b.length:=R.ab;have e5:(ofP m d).a.length≤0+2*m.cons.length:=R.ak;have c1:=costP_in (n:=d.length) (ask:=m.ask) (goal:=m.goal);unfold rightPg;simp only[Bool.and_eq_true,decide_eq_true_eq];rw[e1,e2,e3,List.length_map,List.length_map];refine⟨h2,rfl,c1.1,e4,by omega,near_all fun z hz=> ?_,near_all fun z hz=> ?_,near_all fun z hz=> ?_,near_all R.ends,ends_map d h4,List.all_eq_true.2 fun r hr=> ?_⟩
 ·obtain⟨l,hl,rfl⟩:=List.mem_map.1 hz;exact(dom_in (h4 l hl)).1
 ·obtain⟨l,hl,rfl⟩:=List.mem_map.1 hz;exact(dom_in (h4 l hl)).2.1
 ·have:=c1.2 z hz;omega
 ·have:=R.rows r hr;rw[Bool.and_eq_true,decide_eq_true_eq];exact⟨this.1,near_all fun z hz=>within_in (List.all_eq_true.1 this.2 z hz)⟩
def setB (l:List (Int×Int)):Bool:=rangesB none l
def meetR (lo hi:Int)(r:Int×Int):Option (Int×Int):=if max r.1 lo≤min r.2 hi then some (max r.1 lo,min r.2 hi) else none
def cutS (l:List (Int×Int))(lo hi:Int):List (Int×Int):=if setB l then l.filterMap (meetR lo hi) else[]
def weightO (p:Pg)(y:List Rat)(j:Nat):Option Rat:=(dotO 0 y (colL p j)).bind fun s=>addO s ((p.c.getD j 0:Int):Rat)
def farO (room w:Rat):Option (Option Int):=(divO room w).map fun q=>if q.floor≤4194304 then some q.floor else none
def cutO (p:Pg)(y:List Rat)(room:Rat)(j:Nat)(d:List (Int×Int)):Option (List (Int×Int)):=(weightO p y j).bind fun w=>
 if w=0 then some d else if 0<w then(farO room w).map fun n=>match n with
  |none=>d
  |some n=>cutS d (-1048576) (p.lo.getD j 0+n)
 else(farO room (-w)).map fun n=>match n with
  |none=>d
  |some n=>cutS d (p.hi.getD j 0-n) 1048576
def cutsO (p:Pg)(y:List Rat)(room:Rat):Nat→List (List (Int×Int))→Option (List (List (Int×Int)))
 |_,[]=>some []
 |j,d::l=>(cutO p y room j d).bind fun x=>(cutsO p y room (j+1) l).map fun o=>x::o
def emptyB (d:List (List (Int×Int))):Bool:=d.any fun l=>l.isEmpty
def filterM (m:Md)(d:List (List (Int×Int)))(y:List Rat)(good:Bool)(limit:Int):List (List (Int×Int))×Int:=
 if fitM m d&&(decide (-1099511627776≤limit)&&(decide (limit≤1099511627776)&&good)) then
  match leastP (ofP m d) y (some (ofP m d).c) with
  |none=>([],3)
  |some b=>match addO ((limit:Int):Rat) (-b) with
   |none=>([],3)
   |some room=>if room<0 then([],12) else match (if limit=1099511627776 then some d else cutsO (ofP m d) y room 0 d) with
    |none=>([],3)
    |some out=>if emptyB out then([],12) else(out,0)
 else([],2)
def pruneM (m:Md)(d:List (List (Int×Int)))(limit pivots:Int):List (List (Int×Int))×Int:=
 if fitM m d&&(decide (-1099511627776≤limit)&&decide (limit≤1099511627776)) then
  if pivots<0 then([],2) else
  let a:=solveT (ofP m d) pivots.toNat
  if a.kind=2 then([],12) else if a.kind=1 then(let f:=filterM m d a.y true limit
   if f.2=3 then(d,0) else f) else(d,0)
 else([],2)
theorem room_mono {l1 l2 b r1 r2:Rat}(h:l1≤l2)(h1:addO l1 (-b)=some r1)(h2:addO l2 (-b)=some r2):r1≤r2:=by
 obtain⟨e1,_⟩:=qfit_some h1;obtain⟨e2,_⟩:=qfit_some h2;rw[←e1,←e2];grind
theorem floor_mono {a b:Rat}(h:a≤b):a.floor≤b.floor:=Rat.le_floor_iff.2 (Rat.le_trans (Rat.floor_le a) h)
abbrev iw (z:Int):Value:= .int .i64 z
def RRow (w:World)(A:Option Addr)(l:List (Int×Int)):Prop:=CRow w A (l.length*2) fun i=>if i%2=0 then iw (l.getD (i/2) (0,0)).1 else iw (l.getD (i/2) (0,0)).2
theorem RRow.below {w w':World}{A:Option Addr}{l:List (Int×Int)}(h:RRow w A l)(q:Below w.heap.size w w'):RRow w' A l:=CRow.below h q
theorem RRow.at {w:World}{A:Option Addr}{l:List (Int×Int)}(h:RRow w A l){j:Nat}(hj:j<l.length):∃g o,A=some ⟨g,o,none⟩∧w.cell? ⟨g,o+j*2,none⟩=some (iw (l.getD j (0,0)).1)∧w.cell? ⟨g,o+j*2+1,none⟩=some (iw (l.getD j (0,0)).2):=by
 obtain⟨g,o,rfl,h1⟩:=h (j*2) (by omega);obtain⟨g',o',e,h2⟩:=h (j*2+1) (by omega);cases e;refine⟨g,o,rfl,?_,?_⟩
 ·simp only[Nat.mul_mod_left,if_true,Nat.mul_div_cancel _ (show 0<2 by decide)]at h1;exact h1
 ·have e1:(j*2+1)%2=1:=by omega
  have e2:(j*2+1)/2=j:=by omega
  simp only[e1,e2]at h2;exact h2
abbrev Adr:Type:=Option Addr×Nat
def ad0:Adr:=(none,0)
structure DsAt (w:World) (A:Option Addr) (ds:List Adr) (d:List (List (Int×Int))):Prop where
 ap:CRow w A d.length fun i=> .slice (ds.getD i ad0).1 (d.getD i []).length (ds.getD i ad0).2
 ar:∀i,i<d.length→RRow w (ds.getD i ad0).1 (d.getD i [])
theorem DsAt.below {w w':World}{A:Option Addr}{ds:List Adr}{d:List (List (Int×Int))}(h:DsAt w A ds d)(q:Below w.heap.size w w'):DsAt w' A ds d:=⟨CRow.below h.ap q,fun i hi=>(h.ar i hi).below q⟩
def cn0:Cn:=⟨0,[],[],0⟩
def cnCell (x a:Adr)(c:Cn):Nat→Value
 |0=>iw c.k
 |1=> .slice x.1 c.x.length x.2
 |2=> .slice a.1 c.a.length a.2
 |_=>iw c.c
abbrev cnC (x a:Adr)(c:Cn):Array Value:= #[iw c.k,.slice x.1 c.x.length x.2,.slice a.1 c.a.length a.2,iw c.c]
structure CnAt (w:World) (x a:Adr) (c:Cn):Prop where
 x:IRow w x.1 c.x
 a:IRow w a.1 c.a
theorem CnAt.below {w w':World}{x a:Adr}{c:Cn}(h:CnAt w x a c)(q:Below w.heap.size w w'):CnAt w' x a c:=⟨h.x.below q,h.a.below q⟩
structure CsAt (w:World) (A:Option Addr) (xs as_:List Adr) (l:List Cn):Prop where
 cp:CRow w A (l.length*4) fun i=>cnCell (xs.getD (i/4) ad0) (as_.getD (i/4) ad0) (l.getD (i/4) cn0) (i%4)
 cr:∀i,i<l.length→CnAt w (xs.getD i ad0) (as_.getD i ad0) (l.getD i cn0)
theorem CsAt.below {w w':World}{A:Option Addr}{xs as_:List Adr}{l:List Cn}(h:CsAt w A xs as_ l)(q:Below w.heap.size w w'):CsAt w' A xs as_ l:=⟨CRow.below h.cp q,fun i hi=>(h.cr i hi).below q⟩
theorem CsAt.at {w:World}{A:Option Addr}{xs as_:List Adr}{l:List Cn}(h:CsAt w A xs as_ l){j:Nat}(hj:j<l.length):∃g o,A=some ⟨g,o,none⟩∧w.cell? ⟨g,o+j*4,none⟩=some (iw (l.getD j cn0).k)∧w.cell? ⟨g,o+j*4+1,none⟩=some (.slice (xs.getD j ad0).1 (l.getD j cn0).x.length (xs.getD j ad0).2)∧w.cell? ⟨g,o+j*4+2,none⟩=some (.slice (as_.getD j ad0).1 (l.getD j cn0).a.length (as_.getD j ad0).2)∧w.cell? ⟨g,o+j*4+3,none⟩=some (iw (l.getD j cn0).c):=by
 obtain⟨g,o,rfl,h0⟩:=h.cp (j*4) (by omega);have get:∀k,k<4→w.cell? ⟨g,o+(j*4+k),none⟩=some (cnCell (xs.getD j ad0) (as_.getD j ad0) (l.getD j cn0) k):=fun k hk=>by
  obtain⟨g',o',e,h1⟩:=h.cp (j*4+k) (by omega);cases e;have e1:(j*4+k)%4=k:=by omega
  have e2:(j*4+k)/4=j:=by omega
  simp only[e1,e2]at h1;exact h1
 exact⟨g,o,rfl,get 0 (by decide),get 1 (by decide),get 2 (by decide),get 3 (by decide)⟩
structure Mp where
 doms:Adr
 ds:List Adr
 cons:Adr
 xs:List Adr
 as_:List Adr
abbrev mdC (a:Mp)(m:Md):Array Value:= #[.slice a.doms.1 m.doms.length a.doms.2,.slice a.cons.1 m.cons.length a.cons.2,iw m.ask,iw m.goal]
structure MdAt (w:World) (a:Mp) (m:Md):Prop where
 ds:DsAt w a.doms.1 a.ds m.doms
 cs:CsAt w a.cons.1 a.xs a.as_ m.cons
theorem MdAt.below {w w':World}{a:Mp}{m:Md}(h:MdAt w a m)(q:Below w.heap.size w w'):MdAt w' a m:=⟨h.ds.below q,h.cs.below q⟩
structure MdSz (m:Md):Prop where
 doms:m.doms.length≤1000
 cons:m.cons.length≤1000
 ds:∀d∈m.doms,d.length≤1000
 cs:∀c∈m.cons,c.x.length≤1000∧c.a.length≤1000
end Go.Proofs.YtecfcjdgmpopjaaGreat
