/-
  Joined texts: Qe, RefT, Qf, Qg, Qh, Qi, Qn, Ka, Kb.
-/
import Derived.Test.YtecfcjdgmpopjaaGreatQd
import Derived.Test.YtecfcjdgmpopjaaGreatReg
set_option maxHeartbeats 1000000
set_option maxRecDepth 100000
set_option linter.unusedSimpArgs false
set_option linter.unusedVariables false
namespace Go.Proofs.YtecfcjdgmpopjaaGreat
open Go.RowKit Num
theorem qneg_any {n m:Bool}{A B:Option Addr}{c d:Nat}{xs ys:List Nat}{w:World}(ha:Rd w A c xs)(hb:Rd w B d ys):Calls Tryz.prog 42 #[rv n A xs.length c m B ys.length d] w fun e w'=>RetQE w w' e (qnegR n xs m ys):=by
 have M:Mem w ((w.alloc (.cells #[.bool n,.slice A xs.length c,.bool m,.slice B ys.length d] 72)).alloc (.cells #[.bool false,.slice none 0 0,.bool false,.slice none 0 0] 72)) [(w.heap.size+1,72,#[.bool false,.slice none 0 0,.bool false,.slice none 0 0]),(w.heap.size,72,#[.bool n,.slice A xs.length c,.bool m,.slice B ys.length d])] [(B,d,ys),(A,c,xs)]:=
  (((((Mem.start w).addR ha).addR hb).new 72 #[.bool n,.slice A xs.length c,.bool m,.slice B ys.length d]).newAt (by simp) 72 #[.bool false,.slice none 0 0,.bool false,.slice none 0 0])
 have ox:=ha.ok;have oy:=hb.ok;clear ha hb;rcases Bool.eq_false_or_eq_true (qright n xs m ys) with h|h
 case inr=>
  have HB:=ZH h;unfold qnegR;rw[h];clear h ox oy;obtain⟨v1,v2,v3,v4⟩:=(M.k (i:=1) rfl).four;go_enter Tryz.func42,Tryz.ntmps42;go_wp2_with fail;refine(qright_any (M.r (i:=1) rfl) (M.r (i:=0) rfl)).mono ?_;rw[HB.out];rintro e z1 ⟨rfl,q⟩;replace M:=M.below q;clear q v1 v2 v3 v4;obtain⟨v1,v2,v3,v4⟩:=(M.k (i:=1) rfl).four;go_wp2_with ((with_reducible refine st_ ?_);refine wP2 _ _ (M.k (i:=0) rfl) rfl rfl rfl rfl info_rat rfl rfl ?_;intro w4 b4 g4;replace M:=M.rowAt (i:=0) rfl (by omega) (by simp<;>omega) rfl b4 g4;obtain⟨f1,f2,f3,f4⟩:=(M.k (i:=0) rfl).four);exact bodyPost_ret (v:= .tuple #[rv false none 0 0 false none 0 0,.int .i64 2]) (by simp[results,Tryz.results42,go_sem,f1,f2,f3,f4]) rfl ⟨⟨none,0,none,0,rfl,Rd.nil,Rd.nil⟩,M.bel⟩
 have HB:=ZH h;obtain⟨nn,e1,e2,e3⟩:=neg_facts ox oy h;rw[e2];have H1:=ZH e1;have H3:=ZH e3;clear h ox oy e1 e2 e3;obtain⟨v1,v2,v3,v4⟩:=(M.k (i:=1) rfl).four;go_enter Tryz.func42,Tryz.ntmps42;go_wp2_with fail;refine(qright_any (M.r (i:=1) rfl) (M.r (i:=0) rfl)).mono ?_;rw[HB.out];rintro e z1 ⟨rfl,q⟩;replace M:=M.below q;clear q v1 v2 v3 v4;obtain⟨v1,v2,v3,v4⟩:=(M.k (i:=1) rfl).four;go_wp2_with fail;refine(sneg_any _ A c _ _ (M.r (i:=1) rfl)).mono ?_;rw[H1.out];rintro e w2 ⟨⟨A4,c4,rfl,h⟩,q⟩;replace M:=(M.below q).addR h;have p2:=(M.k (i:=0) rfl).lt;replace M:=M.new 70 #[.bool nn,.slice A4 xs.length c4];clear q h v1 v2 v3 v4;obtain⟨v1,v2,v3,v4⟩:=(M.k (i:=2) rfl).four;go_wp2_with fail;refine(sadd_any _ false B none d 0 _ [] _ (M.r (i:=1) rfl) Rd.nil).mono ?_;rw[H3.out];rintro e w3 ⟨⟨A6,c6,rfl,h⟩,q⟩;replace M:=(M.below q).addR h;have p3:=(M.k (i:=0) rfl).lt;replace M:=M.new 70 #[.bool m,.slice A6 ys.length c6];clear q h v1 v2 v3 v4;obtain⟨v1,v2,_,_⟩:=(M.k (i:=0) rfl).both;obtain⟨v3,v4,_,_⟩:=(M.k (i:=1) rfl).both;go_wp2_with ((with_reducible refine st_ ?_);refine wP2 _ _ (M.k (i:=2) rfl) rfl rfl rfl rfl info_rat rfl rfl ?_;intro w4 b4 g4;replace M:=M.rowAt (i:=2) rfl (by omega) (by simp<;>omega) rfl b4 g4;obtain⟨f1,f2,f3,f4⟩:=(M.k (i:=2) rfl).four);exact bodyPost_ret (v:= .tuple #[rv nn A4 xs.length c4 m A6 ys.length c6,.int .i64 0]) (by simp[results,Tryz.results42,go_sem,f1,f2,f3,f4]) rfl ⟨⟨A4,c4,A6,c6,rfl,M.r (i:=1) rfl,M.r (i:=0) rfl⟩,M.bel⟩
theorem qfloor_any {n m:Bool}{A B:Option Addr}{c d:Nat}{xs ys:List Nat}{w:World}(ha:Rd w A c xs)(hb:Rd w B d ys):Calls Tryz.prog 134 #[rv n A xs.length c m B ys.length d] w fun e w'=>RetI w w' e (qfloorR n xs m ys):=by
 have M:Mem w ((w.alloc (.cells #[.bool n,.slice A xs.length c,.bool m,.slice B ys.length d] 72)).alloc (.cells #[.bool false,.slice none 0 0] 70)) [(w.heap.size+1,70,#[.bool false,.slice none 0 0]),(w.heap.size,72,#[.bool n,.slice A xs.length c,.bool m,.slice B ys.length d])] [(B,d,ys),(A,c,xs)]:=
  (((((Mem.start w).addR ha).addR hb).new 72 #[.bool n,.slice A xs.length c,.bool m,.slice B ys.length d]).newAt (by simp) 70 #[.bool false,.slice none 0 0])
 have ox:=ha.ok;have oy:=hb.ok;clear ha hb;rcases Bool.eq_false_or_eq_true (qright n xs m ys) with h|h
 case inr=>
  have HB:=ZH h;unfold qfloorR;rw[h];clear h ox oy;obtain⟨v1,v2,v3,v4⟩:=(M.k (i:=1) rfl).four;go_enter Tryz.func134,Tryz.ntmps134;go_wp2_with fail;refine(qright_any (M.r (i:=1) rfl) (M.r (i:=0) rfl)).mono ?_;rw[HB.out];rintro e z1 ⟨rfl,q⟩;replace M:=M.below q;clear q v1 v2 v3 v4;obtain⟨v1,v2,v3,v4⟩:=(M.k (i:=1) rfl).four;go_wp2_with ((with_reducible refine st_ ?_);refine wP2 _ _ (M.k (i:=0) rfl) rfl rfl rfl rfl info_int rfl rfl ?_;intro w4 b4 g4;replace M:=M.rowAt (i:=0) rfl (by omega) (by simp<;>omega) rfl b4 g4;obtain⟨f1,f2,_,_⟩:=(M.k (i:=0) rfl).both);exact bodyPost_ret (v:= .tuple #[iv false none 0 0,.int .i64 2]) (by simp[results,Tryz.results134,go_sem,f1,f2]) rfl ⟨⟨none,0,rfl,Rd.nil⟩,M.bel⟩
 have HB:=ZH h;obtain⟨rn,rd,e1,e2⟩:=floor_facts ox oy h;generalize qfloorR n xs m ys=r at*;obtain⟨fn,fd,fe⟩:=r;simp only at e1 e2;subst e2;have H1:=ZH e1;clear h ox oy e1;obtain⟨v1,v2,v3,v4⟩:=(M.k (i:=1) rfl).four;go_enter Tryz.func134,Tryz.ntmps134;go_wp2_with fail;refine(qright_any (M.r (i:=1) rfl) (M.r (i:=0) rfl)).mono ?_;rw[HB.out];rintro e z1 ⟨rfl,q⟩;replace M:=M.below q;clear q v1 v2 v3 v4;obtain⟨v1,v2,v3,v4⟩:=(M.k (i:=1) rfl).four;go_wp2_with fail;refine(sdivmod_any _ _ A B c d _ _ _ (M.r (i:=1) rfl) (M.r (i:=0) rfl)).mono ?_;rw[H1.out];rintro e w2 ⟨⟨A4,c4,B4,d4,rfl,h,k⟩,q⟩;replace M:=((M.below q).addR k).addR h;have p2:=(M.k (i:=0) rfl).lt;replace M:=(M.new 70 #[.bool fn,.slice A4 fd.length c4]).newAt (g:=w2.heap.size+1) (by simp) 70 #[.bool rn,.slice B4 rd.length d4];clear q h k v1 v2 v3 v4;obtain⟨v1,v2,_,_⟩:=(M.k (i:=1) rfl).both;go_wp2_with ((with_reducible refine st_ ?_);refine wP2 _ _ (M.k (i:=2) rfl) rfl rfl rfl rfl info_int rfl rfl ?_;intro w4 b4 g4;replace M:=M.rowAt (i:=2) rfl (by omega) (by simp<;>omega) rfl b4 g4;obtain⟨f1,f2,_,_⟩:=(M.k (i:=2) rfl).both);exact bodyPost_ret (v:= .tuple #[iv fn A4 fd.length c4,.int .i64 0]) (by simp[results,Tryz.results134,go_sem,f1,f2]) rfl ⟨⟨A4,c4,rfl,M.r (i:=0) rfl⟩,M.bel⟩
def Sz (q:Rat)(k:Nat):Prop:=(sD q.num).length≤k∧(dig q.den).length≤k
theorem Sz.few {q:Rat}{k:Nat}(h:Sz q k)(hk:k≤64):Few q:=⟨Nat.le_trans h.1 hk,Nat.le_trans h.2 hk⟩
theorem qright_sz {q:Rat}{k:Nat}(h:Sz q k)(hk:k≤64):qright (sN q.num) (sD q.num) false (dig q.den)=true:=qright_rat (h.few hk)
theorem num_ne {q:Rat}:sD q.num≠[]↔q≠0:=by rw[Ne,sD_nil,Rat.num_eq_zero]
theorem sz_neg {p:Rat}{j:Nat}(hp:Sz p j):Sz (-p) j:=⟨by rw[Rat.neg_num,sD_neg];exact hp.1,by rw[Rat.neg_den];exact hp.2⟩
theorem qfloor_sz {p:Rat}{j:Nat}(hp:Sz p j)(hj:j≤64):qfloorR (sN p.num) (sD p.num) false (dig p.den)=(sN p.floor,sD p.floor,0):=by
 unfold qfloorR;rw[if_pos (qright_sz hp hj),toQ_rat];rfl
structure Pg where
 lo:List Int
 hi:List Int
 a:List (List Int)
 b:List Int
 c:List Int
def nearL (most:Int)(l:List Int):Bool:=l.all fun n=>decide (-most≤n)&&decide (n≤most)
def endsL:List Int→List Int→Bool
 |l::ls,h::hs=>decide (l≤h)&&endsL ls hs
 |_,_=>true
def rightPg (p:Pg):Bool:=
 decide (p.lo.length≤64)&&(decide (p.hi.length=p.lo.length)&&(decide (p.c.length=p.lo.length)&&(decide (p.a.length=p.b.length)&&(decide (p.a.length≤160)&&
  (nearL 1048576 p.lo&&(nearL 1048576 p.hi&&(nearL 1048576 p.c&&(nearL 1099511627776 p.b&&(endsL p.lo p.hi&&p.a.all fun r=>decide (r.length=p.lo.length)&&nearL 1048576 r)))))))))
def qfit (q:Rat):Option Rat:=if (sD q.num).length≤64∧(dig q.den).length≤64 then some q else none
def addO (a b:Rat):Option Rat:=qfit (a+b)
def mulO (a b:Rat):Option Rat:=qfit (a*b)
def divO (a b:Rat):Option Rat:=if b=0 then none else qfit (a/b)
def subO (a b:Rat):Option Rat:=qfit (a+ -b)
theorem qfit_some {q r:Rat}(h:qfit q=some r):q=r∧Few r:=by
 unfold qfit at h;split at h
 ·rename_i h1;cases h;exact⟨rfl,h1⟩
 ·cases h
def dotO (s:Rat):List Rat→List Int→Option Rat
 |x::l,n::m=>(mulO x n).bind fun p=>(addO s p).bind fun t=>dotO t l m
 |_,_=>some s
def colL (p:Pg)(j:Nat):List Int:=p.a.map fun r=>r.getD j 0
def leastO (p:Pg)(y:List Rat)(c:Option (List Int)):Nat→Rat→List (Int×Int)→Option Rat
 |_,s,[]=>some s
 |j,s,(l,h)::r=>(dotO 0 y (colL p j)).bind fun d0=>((match c with|none=>some d0|some c=>addO d0 (c.getD j 0))).bind fun d=>
  (mulO d (if d<0 then h else l)).bind fun m=>(addO s m).bind fun t=>leastO p y c (j+1) t r
def leastP (p:Pg)(y:List Rat)(c:Option (List Int)):Option Rat:=(leastO p y c 0 0 (p.lo.zip p.hi)).bind fun s=>(dotO 0 y p.b).bind fun d=>subO s d
structure Vr where
 lo:Option Rat
 hi:Option Rat
 v:Rat
def Vr.below (x:Vr):Bool:=match x.lo with
 |none=>false
 |some l=>decide (x.v<l)
def Vr.above (x:Vr):Bool:=match x.hi with
 |none=>false
 |some h=>decide (h<x.v)
def Vr.mayRise (x:Vr):Bool:=match x.hi with
 |none=>true
 |some h=>decide (x.v<h)
def Vr.mayFall (x:Vr):Bool:=match x.lo with
 |none=>true
 |some l=>decide (l<x.v)
structure Tb where
 n:Nat
 vars:List Vr
 basic:List Nat
 free:List Nat
 t:List (List Rat)
 cost:List Rat
 left:Nat
def vz:Vr:=⟨none,none,0⟩
def Tb.var (b:Tb)(v:Nat):Vr:=b.vars.getD v vz
def Tb.setV (b:Tb)(v:Nat)(q:Rat):Tb:={b with vars:=b.vars.set v {b.var v with v:=q}}
def sumO (b:Tb):Rat→List Rat→List Nat→Option Rat
 |s,a::l,k::f=>(mulO a (b.var k).v).bind fun p=>(addO s p).bind fun t=>sumO b t l f
 |s,_,_=>some s
def beginO (n:Nat):Nat→Tb→List (List Int)→List Int→Option Tb
 |i,b,row::a,h::bs=>
  let line:=row.map fun z:Int=>(z:Rat)
  let b':Tb:={b with vars:=b.vars++[⟨none,some h,0⟩],basic:=b.basic++[n+i],t:=b.t++[line]}
  (sumO b' 0 line b'.free).bind fun s=>beginO n (i+1) (b'.setV (n+i) s) a bs
 |_,b,_,_=>some b
def colsV:List Int→List Int→List Vr
 |l::lo,h::hi=>⟨some l,some h,l⟩::colsV lo hi
 |_,_=>[]
def startT (p:Pg)(pivots:Nat):Tb:=⟨p.lo.length,colsV p.lo p.hi,[],List.range p.lo.length,[],p.c.map fun z:Int=>(z:Rat),min pivots 10000⟩
def beginT (p:Pg)(pivots:Nat):Option Tb:=beginO p.lo.length 0 (startT p pivots) p.a p.b
def moveL (by_:Rat)(k:Nat):Tb→List (List Rat)→List Nat→Option Tb
 |b,l::ls,v::vs=>(mulO (l.getD k 0) by_).bind fun p=>(addO (b.var v).v p).bind fun q=>moveL by_ k (b.setV v q) ls vs
 |b,_,_=>some b
def moveT (b:Tb)(k:Nat)(by_:Rat):Option Tb:=
 (addO (b.var (b.free.getD k 0)).v by_).bind fun q=>moveL by_ k (b.setV (b.free.getD k 0) q) b.t b.basic
def turnL (a:Rat)(k:Nat):Nat→List Rat→Option (List Rat)
 |_,[]=>some []
 |c,x::l=>(if c=k then divO 1 a else(divO x a).map fun q=> -q).bind fun y=>(turnL a k (c+1) l).map (y::·)
def layL (f:Rat)(k:Nat):Nat→List Rat→List Rat→Option (List Rat)
 |c,x::l,y::m=>(if c=k then mulO f y else(mulO f y).bind fun p=>addO x p).bind fun z=>(layL f k (c+1) l m).map (z::·)
 |_,_,_=>some []
def layT (line:List Rat)(k i:Nat):Nat→List (List Rat)→Option (List (List Rat))
 |_,[]=>some []
 |r,l::ls=>(if r=i then some line else layL (l.getD k 0) k 0 l line).bind fun l'=>(layT line k i (r+1) ls).map (l'::·)
def pivotT (b:Tb)(i k:Nat):Option Tb:=
 (turnL ((b.t.getD i []).getD k 0) k 0 (b.t.getD i [])).bind fun line=>
 (layT line k i 0 b.t).bind fun t=>(layL (b.cost.getD k 0) k 0 b.cost line).map fun cost=>
  {b with t:=t,cost:=cost,basic:=b.basic.set i (b.free.getD k 0),free:=b.free.set k (b.basic.getD i 0)}
def beyondGo (b:Tb):Nat→Option (Nat×Nat)→List Nat→Option (Nat×Nat)
 |_,best,[]=>best
 |i,best,v::l=>
  let ok:=((b.var v).below||(b.var v).above)&&(match best with|none=>true|some (_,u)=>decide (v<u))
  beyondGo b (i+1) (if ok then some (i,v) else best) l
def beyondT (b:Tb):Option Nat:=(beyondGo b 0 none b.basic).map (·.1)
def helpB (up:Bool)(a:Rat)(x:Vr):Bool:=if up then decide (0<a)&&x.mayRise||decide (a<0)&&x.mayFall else decide (0<a)&&x.mayFall||decide (a<0)&&x.mayRise
def helpsGo (b:Tb)(up:Bool):Nat→Option (Nat×Nat)→List Rat→List Nat→Option (Nat×Nat)
 |k,best,a::l,v::f=>
  let ok:=helpB up a (b.var v)&&(match best with|none=>true|some (_,u)=>decide (v<u))
  helpsGo b up (k+1) (if ok then some (k,v) else best) l f
 |_,best,_,_=>best
def helpsT (b:Tb)(i:Nat)(up:Bool):Option Nat:=(helpsGo b up 0 none (b.t.getD i []) b.free).map (·.1)
def feasT:Nat→Tb→Option (Tb×Option Nat)
 |fuel,b=>match beyondT b with
  |none=>some (b,none)
  |some i=>match fuel with
   |0=>none
   |fuel+1=>
    let b1:={b with left:=b.left-1}
    let x:=b1.var (b1.basic.getD i 0)
    let up:=x.below
    match helpsT b1 i up with
    |none=>some (b1,some i)
    |some k=>
     let goal:=if up then x.lo.getD 0 else x.hi.getD 0
     (subO goal x.v).bind fun d=>(divO d ((b1.t.getD i []).getD k 0)).bind fun by_=>(moveT b1 k by_).bind fun b2=>(pivotT b2 i k).bind fun b3=>feasT fuel b3
def cheapB (a:Rat)(x:Vr):Bool:=decide (a<0)&&x.mayRise
def cheapGo (b:Tb):Nat→Option (Nat×Nat×Bool)→List Rat→List Nat→Option (Nat×Nat×Bool)
 |k,best,a::l,v::f=>
  let rise:=cheapB a (b.var v)
  let ok:=(rise||decide (0<a)&&(b.var v).mayFall)&&(match best with|none=>true|some (_,u,_)=>decide (v<u))
  cheapGo b (k+1) (if ok then some (k,v,rise) else best) l f
 |_,best,_,_=>best
def cheapT (b:Tb):Option (Nat×Bool):=(cheapGo b 0 none b.cost b.free).map fun r=>(r.1,r.2.2)
structure Bk where
 far:Rat
 line:Option Nat
 v:Nat
def nearS (c:Option Bk)(far:Rat)(line:Option Nat)(v:Nat):Option Bk:=match c with
 |none=>some ⟨far,line,v⟩
 |some k=>if k.far<far∨(far=k.far∧k.v<v) then some k else some ⟨far,line,v⟩
def stopL (b:Tb)(k:Nat)(up:Bool):Nat→Option Bk→List (List Rat)→List Nat→Option (Option Bk)
 |i,c,l::ls,v::vs=>
  let a:=if up then l.getD k 0 else-(l.getD k 0)
  let y:=b.var v
  (if 0<a then(match y.hi with
   |none=>some c
   |some h=>(subO h y.v).bind fun d=>(divO d a).map fun q=>nearS c q (some i) v)
  else if a<0 then(match y.lo with
   |none=>some c
   |some h=>(subO h y.v).bind fun d=>(divO d a).map fun q=>nearS c q (some i) v)
  else some c).bind fun c'=>stopL b k up (i+1) c' ls vs
 |_,c,_,_=>some c
def stopsT (b:Tb)(k:Nat)(up:Bool):Option (Option Bk):=
 let x:=b.var (b.free.getD k 0)
 (if up then(match x.hi with|none=>some none|some h=>(subO h x.v).map fun q=>nearS none q none (b.free.getD k 0))
  else(match x.lo with|none=>some none|some l=>(subO x.v l).map fun q=>nearS none q none (b.free.getD k 0))).bind fun c=>stopL b k up 0 c b.t b.basic
def optT:Nat→Tb→Option Tb
 |fuel,b=>match cheapT b with
  |none=>some b
  |some (k,up)=>match fuel with
   |0=>none
   |fuel+1=>
    let b1:={b with left:=b.left-1}
    (stopsT b1 k up).bind fun c=>match c with
     |none=>none
     |some s=>(moveT b1 k (if up then s.far else-s.far)).bind fun b2=>(match s.line with
      |none=>some b2
      |some i=>pivotT b2 i k).bind fun b3=>optT fuel b3
structure An where
 kind:Int
 x:List Rat
 value:Option Rat
 y:List Rat
def proofGo (n:Nat)(up:Bool):List Rat→List Rat→List Nat→List Rat
 |y,a::l,v::f=>proofGo n up (if v<n then y else y.set (v-n) (if up then a else-a)) l f
 |y,_,_=>y
def zerosT (b:Tb):List Rat:=List.replicate (b.vars.length-b.n) 0
def proofT (b:Tb)(i:Nat):List Rat:=
 let v:=b.basic.getD i 0
 let y:=proofGo b.n (b.var v).below (zerosT b) (b.t.getD i []) b.free
 if v<b.n then y else y.set (v-b.n) 1
def dualGo (n:Nat):List Rat→List Rat→List Nat→List Rat
 |y,a::l,v::f=>dualGo n (if v<n then y else y.set (v-n) (-a)) l f
 |y,_,_=>y
def answerT (p:Pg)(b:Tb):Option An:=(feasT b.left b).bind fun r=>match r.2 with
 |some i=>some ⟨2,[],none,proofT r.1 i⟩
 |none=>(optT r.1.left r.1).bind fun b2=>
  let x:=(b2.vars.take b2.n).map (·.v)
  (dotO 0 x p.c).map fun v=>⟨1,x,some v,dualGo b2.n (zerosT b2) b2.cost b2.free⟩
def solveT (p:Pg)(pivots:Nat):An:=((beginT p pivots).bind (answerT p)).getD ⟨3,[],none,[]⟩
structure Wf (b:Tb):Prop where
 bt:b.basic.length=b.t.length
 ft:∀i,i<b.t.length→(b.t.getD i []).length=b.free.length
 fc:b.cost.length=b.free.length
 bv:∀j,j<b.basic.length→b.basic.getD j 0<b.vars.length
 fv:∀j,j<b.free.length→b.free.getD j 0<b.vars.length
 sv:b.vars.length≤1000
 st:b.t.length≤1000
 sf:b.free.length≤1000
 sl:b.left≤10000
 nv:b.n≤b.vars.length
theorem drop_at {α:Type}{l:List α}{j:Nat}{z:α}(h:j<l.length):l.drop j=l.getD j z::l.drop (j+1):=by
 rw[List.drop_eq_getElem_cons h,gE,gG h];rfl
theorem drop_none {α:Type}{l:List α}{j:Nat}(h:¬j<l.length):l.drop j=[]:=List.drop_eq_nil_of_le (by omega)
end Go.Proofs.YtecfcjdgmpopjaaGreat
