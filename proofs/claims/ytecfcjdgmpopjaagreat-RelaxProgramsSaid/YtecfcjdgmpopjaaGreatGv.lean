/-
  Joined texts: Gt, Gu, Gv.
-/
import Derived.Test.YtecfcjdgmpopjaaGreatHq
import Derived.Test.YtecfcjdgmpopjaaGreatKd
import Derived.Test.YtecfcjdgmpopjaaGreatGp
import Derived.Deep.CutBlock
set_option linter.unusedSimpArgs false
set_option linter.unusedVariables false
namespace Go.Proofs.YtecfcjdgmpopjaaGreat
open Go.RowKit Num
theorem wp_appAt_op {P:Program}{o:Oper}{a:Act}{KK:Act→World→Prop}{Q:Exit→Act→World→Prop}(s x:Operand)(w:World)(base:Nat)(e:TypeId)(v:Value)(n:Nat)(xs:List Value)(g:Nat)(u:Value){sl bytes:Nat}{z:Value}(hu:P.underlying sl=some (.slice e))(hinfo:(P.info? e).map (fun i=>(i.zero,i.size,i.bytes))=some (some z,1,bytes))(hz:z.cells.size=1)(hzn:z.cells.toList.all nu=true)(hbt:bytes≤1000)(hown:NRow w base e 1 v n xs)(hb:base≤w.heap.size)(hlen:n≤1000000)(h1:u.oneCell'=true)(hnn:nu u=true)(hc:w.cell? ⟨g,0,none⟩=some u)(ho:o.op= .call {callee:= .builtin .append,args:= #[s,x],argTypes:= #[sl,sl]})(hs:a.eval s=v)(hx:a.eval x= .slice (some ⟨g,0,none⟩) 1 1)(K:∀v' w',NRow w' base e 1 v' (n+1) (xs++[u])→w.grownBy w' v.ownBlock→Below base w w'→(v'.ownBlock=v.ownBlock∨∀g,v'.ownBlock=some g→w.heap.size≤g)→KK (a.put o.dst v') w'):o.wp P a w KK Q:=by
 obtain⟨i0,hi,hz0,hz1,hz2⟩:=info_parts hinfo;obtain⟨v',w',hr,r1,r2,r3⟩:=run_append_nu (P:=P) w base sl o.type e i0 z 1 bytes hu hi hz0 hz1 hz2 hz (by decide) hzn v n xs hown ⟨g,0,none⟩ 1 1 Nat.one_pos [u] rfl
  (by
   intro j y hj;cases j with
   |zero=>
    have:u=y:=by simpa using hj
    subst this;exact hc
   |succ j=>simp at hj)
  (fun y hy=>by rw[List.mem_singleton]at hy;subst hy;exact h1) (by rw[List.all_cons,hnn];rfl) (by unfold maxLen;omega) (Nat.le_trans (Nat.mul_le_mul_left _ hbt) (by omega)) hb
 unfold Oper.wp execOp;simp only[ho,resolve,invoke,builtin,Sem.run_bind,Sem.run_pure,Result.andThen_ok,List.map_toArray,List.map_cons,List.map_nil,hs,hx,hr];have hat:v'.ownBlock=v.ownBlock∨∀g,v'.ownBlock=some g→w.heap.size≤g:=by
  rcases r3 with r3|r3
  ·exact Or.inl r3
  ·refine Or.inr fun g e=> ?_;rw[r3]at e;injection e with e;omega
 exact K v' w' r1 r2 ((Below.refl base w).grown r2 hb (fun k hk=>(World.ownsRow.lt hown.1 k hk).1)) hat
def ElR (gp:Nat)(v1 v2 v3:Value)(w:World)(s z:Value):Prop:=∃g,s= .slice (some ⟨g,0,none⟩) 1 1∧w.cell? ⟨g,0,none⟩=some z∧g<w.heap.size∧g≠gp∧v1.ownBlock≠some g∧v2.ownBlock≠some g∧v3.ownBlock≠some g
structure J3 (w0:World) (gp:Nat) (cells:Array Value) (v1 v2 v3:Value) (n1 n2 n3:Nat) (x1 x2 x3:List Value) (b1:Bool) (s1 z1:Value) (b2:Bool) (s2 z2:Value) (b3:Bool) (s3 z3:Value) (B:List (Nat×TypeId×Array Value)) (w:World):Prop where
 bel:Below w0.heap.size w0 w
 gb:w0.heap.size≤gp
 hd:Blk w gp tyRw cells
 nu:cells.toList.all nu=true
 r1:NRow w w0.heap.size tyI6 1 v1 n1 x1
 r2:NRow w w0.heap.size tyI6 1 v2 n2 x2
 r3:NRow w w0.heap.size tyI6 1 v3 n3 x3
 d12:∀k,v1.ownBlock=some k→v2.ownBlock≠some k
 d13:∀k,v1.ownBlock=some k→v3.ownBlock≠some k
 d23:∀k,v2.ownBlock=some k→v3.ownBlock≠some k
 p1:∀k,v1.ownBlock=some k→k≠gp
 p2:∀k,v2.ownBlock=some k→k≠gp
 p3:∀k,v3.ownBlock=some k→k≠gp
 e1:b1=true→ElR gp v1 v2 v3 w s1 z1
 e2:b2=true→ElR gp v1 v2 v3 w s2 z2
 e3:b3=true→ElR gp v1 v2 v3 w s3 z3
 kp:∀b∈B,Blk w b.1 b.2.1 b.2.2∧b.1≠gp∧v1.ownBlock≠some b.1∧v2.ownBlock≠some b.1∧v3.ownBlock≠some b.1
section
variable {w0 w w' : World} {gp : Nat} {cells : Array Value} {v1 v2 v3 : Value} {n1 n2 n3 : Nat} {x1 x2 x3 : List Value} {b1 b2 b3 : Bool} {s1 s2 s3 z1 z2 z3 : Value} {B : List (Nat × TypeId × Array Value)}
theorem ElR.below {s z:Value}(h:ElR gp v1 v2 v3 w s z)(q:Below w.heap.size w w'):ElR gp v1 v2 v3 w' s z:=by
 obtain⟨g,e,hc,hl,rest⟩:=h;exact⟨g,e,Lk.of hc _ q,Nat.lt_of_lt_of_le hl q.size,rest⟩
theorem J3.below (h:J3 w0 gp cells v1 v2 v3 n1 n2 n3 x1 x2 x3 b1 s1 z1 b2 s2 z2 b3 s3 z3 B w)(q:Below w.heap.size w w'):J3 w0 gp cells v1 v2 v3 n1 n2 n3 x1 x2 x3 b1 s1 z1 b2 s2 z2 b3 s3 z3 B w':=
 ⟨h.bel.trans (q.mono h.bel.size),h.gb,h.hd.below q ZL,h.nu,h.r1.below q,h.r2.below q,h.r3.below q,h.d12,h.d13,h.d23,h.p1,h.p2,h.p3,fun e=>(h.e1 e).below q,fun e=>(h.e2 e).below q,fun e=>(h.e3 e).below q,fun b hb=>⟨(h.kp b hb).1.below q ZL,(h.kp b hb).2⟩⟩
theorem J3.swap12 (h:J3 w0 gp cells v1 v2 v3 n1 n2 n3 x1 x2 x3 b1 s1 z1 b2 s2 z2 b3 s3 z3 B w):J3 w0 gp cells v2 v1 v3 n2 n1 n3 x2 x1 x3 b2 s2 z2 b1 s1 z1 b3 s3 z3 B w:=by
 have el:∀{s z},ElR gp v1 v2 v3 w s z→ElR gp v2 v1 v3 w s z:=fun{s z} ⟨g,a1,a2,a3,a4,a5,a6,a7⟩=>⟨g,a1,a2,a3,a4,a6,a5,a7⟩;exact⟨h.bel,h.gb,h.hd,h.nu,h.r2,h.r1,h.r3,fun k a b=>h.d12 k b a,h.d23,h.d13,h.p2,h.p1,h.p3,fun e=>el (h.e2 e),fun e=>el (h.e1 e),fun e=>el (h.e3 e),fun b hb=>⟨(h.kp b hb).1,(h.kp b hb).2.1,(h.kp b hb).2.2.2.1,(h.kp b hb).2.2.1,(h.kp b hb).2.2.2.2⟩⟩
theorem J3.swap13 (h:J3 w0 gp cells v1 v2 v3 n1 n2 n3 x1 x2 x3 b1 s1 z1 b2 s2 z2 b3 s3 z3 B w):J3 w0 gp cells v3 v2 v1 n3 n2 n1 x3 x2 x1 b3 s3 z3 b2 s2 z2 b1 s1 z1 B w:=by
 have el:∀{s z},ElR gp v1 v2 v3 w s z→ElR gp v3 v2 v1 w s z:=fun{s z} ⟨g,a1,a2,a3,a4,a5,a6,a7⟩=>⟨g,a1,a2,a3,a4,a7,a6,a5⟩;exact⟨h.bel,h.gb,h.hd,h.nu,h.r3,h.r2,h.r1,fun k a b=>h.d23 k b a,fun k a b=>h.d13 k b a,fun k a b=>h.d12 k b a,h.p3,h.p2,h.p1,fun e=>el (h.e3 e),fun e=>el (h.e2 e),fun e=>el (h.e1 e),fun b hb=>⟨(h.kp b hb).1,(h.kp b hb).2.1,(h.kp b hb).2.2.2.2,(h.kp b hb).2.2.2.1,(h.kp b hb).2.2.1⟩⟩
theorem own_lt {base:Nat}{e:TypeId}{v:Value}{n:Nat}{xs:List Value}(h:NRow w base e 1 v n xs){k:Nat}(hk:v.ownBlock=some k):base≤k∧k<w.heap.size:=World.ownsRow.lt h.1 k hk
theorem J3.el1 (h:J3 w0 gp cells v1 v2 v3 n1 n2 n3 x1 x2 x3 b1 s1 z1 b2 s2 z2 b3 s3 z3 B w):J3 w0 gp cells v1 v2 v3 n1 n2 n3 x1 x2 x3 true (.slice (some ⟨w.heap.size,0,none⟩) 1 1) z1 b2 s2 z2 b3 s3 z3 B (w.alloc (.cells #[z1] tyI6)):=by
 have h':=h.below (bA1 w (.cells #[z1] tyI6));refine{h' with e1:=fun _=>⟨w.heap.size,rfl,(Blk.new w tyI6 #[z1]).cell 0,(Blk.new w tyI6 #[z1]).lt,fun e=> ?_,fun e=> ?_,fun e=> ?_,fun e=> ?_⟩}
 ·have:=h.hd.lt;omega
 ·have:=(own_lt h.r1 e).2;omega
 ·have:=(own_lt h.r2 e).2;omega
 ·have:=(own_lt h.r3 e).2;omega
theorem cell_grown {g o:Nat}{z:Value}{row:Option Nat}(hc:w.cell? ⟨g,o,none⟩=some z)(hg:w.grownBy w' row)(hne:row≠some g):w'.cell? ⟨g,o,none⟩=some z:=by
 rw[World.cell?_of_block (hg.block g (World.block_lt_of_cell? w _ hc) fun e=>hne e.symm)];exact hc
theorem J3.app1 {v':Value}(h:J3 w0 gp cells v1 v2 v3 n1 n2 n3 x1 x2 x3 b1 s1 z1 b2 s2 z2 b3 s3 z3 B w)(hr:NRow w' w0.heap.size tyI6 1 v' (n1+1) (x1++[z1]))(hg:w.grownBy w' v1.ownBlock)(hb:Below w0.heap.size w w')(hat:v'.ownBlock=v1.ownBlock∨∀g,v'.ownBlock=some g→w.heap.size≤g):J3 w0 gp cells v' v2 v3 (n1+1) n2 n3 (x1++[z1]) x2 x3 false s1 z1 b2 s2 z2 b3 s3 z3 B w':=by
 have nv:∀k,k<w.heap.size→v1.ownBlock≠some k→v'.ownBlock≠some k:=fun k hk hn e=>by
  rcases hat with h1|h1
  ·exact hn (h1▸e)
  ·have:=h1 k e;omega
 have el:∀{s z},ElR gp v1 v2 v3 w s z→ElR gp v' v2 v3 w' s z:=fun{s z} ⟨g,a1,a2,a3,a4,a5,a6,a7⟩=>
  ⟨g,a1,cell_grown a2 hg a5,Nat.lt_of_lt_of_le a3 hg.size,a4,nv g a3 a5,a6,a7⟩
 refine⟨h.bel.trans hb,h.gb,(hg.block gp h.hd.lt fun e=>h.p1 gp e.symm rfl).trans h.hd,h.nu,hr,h.r2.kept hg fun g e1 e2=>h.d12 g e2.symm e1,h.r3.kept hg fun g e1 e2=>h.d13 g e2.symm e1,fun k e=> ?_,fun k e=> ?_,h.d23,fun k e1 e2=> ?_,h.p2,h.p3,fun e=>absurd e (by decide),fun e=>el (h.e2 e),fun e=>el (h.e3 e),fun b hb=> ?_⟩
 ·intro e2;exact nv k (own_lt h.r2 e2).2 (fun e3=>h.d12 k e3 e2) e
 ·intro e2;exact nv k (own_lt h.r3 e2).2 (fun e3=>h.d13 k e3 e2) e
 ·subst e2;exact nv k h.hd.lt (fun e3=>h.p1 k e3 rfl) e1
 ·obtain⟨k1,k2,k3,k4⟩:=h.kp b hb;exact⟨(hg.block b.1 k1.lt fun e=>k3 e.symm).trans k1,k2,nv _ k1.lt k3,k4⟩
theorem J3.put (h:J3 w0 gp cells v1 v2 v3 n1 n2 n3 x1 x2 x3 b1 s1 z1 b2 s2 z2 b3 s3 z3 B w)(o:Nat){u:Value}(hu:Go.Proofs.YtecfcjdgmpopjaaGreat.nu u=true):J3 w0 gp (cells.setIfInBounds o u) v1 v2 v3 n1 n2 n3 x1 x2 x3 b1 s1 z1 b2 s2 z2 b3 s3 z3 B (w.setCell ⟨gp,o,none⟩ u):=by
 have hg:=gSC w gp o u;have el:∀{s z},ElR gp v1 v2 v3 w s z→ElR gp v1 v2 v3 (w.setCell ⟨gp,o,none⟩ u) s z:=fun{s z} ⟨g,a1,a2,a3,a4,rest⟩=>
  ⟨g,a1,cell_grown a2 hg (fun e=>a4 (by injection e with e;exact e.symm)),Nat.lt_of_lt_of_le a3 hg.size,a4,rest⟩
 refine⟨below_own h.bel hg h.gb,h.gb,h.hd.set_ o u,?_,h.r1.kept hg fun g e1 e2=>h.p1 g e1 (by injection e2),h.r2.kept hg fun g e1 e2=>h.p2 g e1 (by injection e2),h.r3.kept hg fun g e1 e2=>h.p3 g e1 (by injection e2),h.d12,h.d13,h.d23,h.p1,h.p2,h.p3,fun e=>el (h.e1 e),fun e=>el (h.e2 e),fun e=>el (h.e3 e),fun b hb=>⟨(hg.block b.1 (h.kp b hb).1.lt fun e=>(h.kp b hb).2.1 (by injection e)).trans (h.kp b hb).1,(h.kp b hb).2⟩⟩;rw[Array.toList_setIfInBounds];refine List.all_eq_true.2 fun x hx=> ?_;rcases List.mem_or_eq_of_mem_set hx with h1|h1
 ·exact List.all_eq_true.1 h.nu x h1
 ·rw[h1];exact hu
theorem J3.addB (h:J3 w0 gp cells v1 v2 v3 n1 n2 n3 x1 x2 x3 b1 s1 z1 b2 s2 z2 b3 s3 z3 B w){g:Nat}{t:TypeId}{cs:Array Value}(hb:Blk w g t cs)(h1:g≠gp)(h2:v1.ownBlock≠some g)(h3:v2.ownBlock≠some g)(h4:v3.ownBlock≠some g):J3 w0 gp cells v1 v2 v3 n1 n2 n3 x1 x2 x3 b1 s1 z1 b2 s2 z2 b3 s3 z3 ((g,t,cs)::B) w:=
 {h with kp:=(fun b hm=>(List.mem_cons.1 hm).elim (fun e=>by subst e;exact⟨hb,h1,h2,h3,h4⟩) (h.kp b))}
theorem J3.noB (h:J3 w0 gp cells v1 v2 v3 n1 n2 n3 x1 x2 x3 b1 s1 z1 b2 s2 z2 b3 s3 z3 B w):J3 w0 gp cells v1 v2 v3 n1 n2 n3 x1 x2 x3 b1 s1 z1 b2 s2 z2 b3 s3 z3 [] w:={h with kp:=fun b hm=>absurd hm List.not_mem_nil}
theorem NRow.put {base:Nat}{e:TypeId}{g c n:Nat}{xs:List Value}(h:NRow w base e 1 (.slice (some ⟨g,0,none⟩) n c) n xs){k:Nat}(hk:k<n){u:Value}(hu:Go.Proofs.YtecfcjdgmpopjaaGreat.nu u=true):NRow (w.setCell ⟨g,k,none⟩ u) base e 1 (.slice (some ⟨g,0,none⟩) n c) n (xs.set k u):=by
 have hb:=h.2 g rfl;refine⟨⟨by rw[List.length_set];exact h.1.1,?_⟩,fun g' hg'=> ?_⟩
 ·rcases h.1.2 with ⟨h2,_⟩|⟨g',cap,cur,hv,hbg,hgg,hn,hcm,hs,ht⟩
  ·cases h2
  ·have hv':g=g'∧c=cap:=by
    injection hv with e1 _ e3;injection e1 with e1;injection e1 with e1;exact⟨e1,e3⟩
   obtain⟨rfl,rfl⟩:=hv';refine .inr ⟨g,c,cur.setIfInBounds k u,rfl,hbg,Blk.set_ (t:=e) hgg k u,hn,hcm,by rw[Array.size_setIfInBounds];exact hs,?_⟩;rw[Array.toList_setIfInBounds,List.take_set,ht]
 ·have e1:g=g':=by injection hg'
  subst e1;exact hb.setCell hu
theorem J3.rw0 {A1 A2 A3:Option Addr}{c1 c2 c3 n:Nat}{los his cs:List Int}(hl:los.length=n)(hh:his.length=n)(hc:cs.length=n)(h:J3 w0 gp #[.slice A1 n c1,.slice A2 n c2,.slice none 0 0,.slice none 0 0,.slice A3 n c3] (.slice A1 n c1) (.slice A2 n c2) (.slice A3 n c3) n n n (los.map iw) (his.map iw) (cs.map iw) b1 s1 z1 b2 s2 z2 b3 s3 z3 B w):RwAt w w0.heap.size gp ⟨(A1,c1),(A2,c2),(none,0),(none,0),(A3,c3),[]⟩ ⟨los,his,[],[],cs⟩:=by
 have rw1:∀{A:Option Addr}{c:Nat}{l:List Int},l.length=n→NRow w w0.heap.size tyI6 1 (.slice A n c) n (l.map iw)→IRow w A l:=fun{A c l} e hr=>by
  unfold IRow;rw[e];exact hr.crow fun j hj=>map_at l (by omega)
 have no_k:∀{k:Nat},bl (none:Option Addr)≠some k:=fun{k} e=>by cases e
 have ob:∀{A:Option Addr}{c:Nat}{k:Nat},bl A=some k→(Value.slice A n c).ownBlock=some k:=fun{A c k} e=>by rw[own_bl];exact e
 refine⟨?_,h.gb,rw1 hl h.r1,rw1 hh h.r2,rw1 hc h.r3,NRow.nil _ _ _ _,NRow.nil _ _ _ _,fun i hi=>absurd hi (Nat.not_lt_zero _),rfl,fun k e=> ?_,fun k e=> ?_,fun k e=> ?_,fun k e=> ?_⟩
 ·show Blk w gp tyRw #[.slice A1 los.length c1,.slice A2 his.length c2,.slice none 0 0,.slice none 0 0,.slice A3 cs.length c3];rw[hl,hh,hc];exact h.hd
 ·cases e
 ·cases e
 ·rcases e with e|e|e|⟨i,hi,_⟩
  ·exact⟨(own_lt h.r1 (ob e)).2,h.p1 k (ob e),no_k,no_k⟩
  ·exact⟨(own_lt h.r2 (ob e)).2,h.p2 k (ob e),no_k,no_k⟩
  ·exact⟨(own_lt h.r3 (ob e)).2,h.p3 k (ob e),no_k,no_k⟩
  ·exact absurd hi (Nat.not_lt_zero _)
 ·rcases e with e|e|e|⟨i,hi,_⟩
  ·exact(own_lt h.r1 (ob e)).1
  ·exact(own_lt h.r2 (ob e)).1
  ·exact(own_lt h.r3 (ob e)).1
  ·exact absurd hi (Nat.not_lt_zero _)
theorem J3.setc {g c3 k:Nat}{u:Value}(h:J3 w0 gp cells v1 v2 (.slice (some ⟨g,0,none⟩) n3 c3) n1 n2 n3 x1 x2 x3 false s1 z1 false s2 z2 false s3 z3 [] w)(hk:k<n3)(hu:Go.Proofs.YtecfcjdgmpopjaaGreat.nu u=true):J3 w0 gp cells v1 v2 (.slice (some ⟨g,0,none⟩) n3 c3) n1 n2 n3 x1 x2 (x3.set k u) false s1 z1 false s2 z2 false s3 z3 [] (w.setCell ⟨g,k,none⟩ u):=by
 have hg:=gSC w g k u;have o3:(Value.slice (some ⟨g,0,none⟩) n3 c3).ownBlock=some g:=rfl;exact⟨below_own h.bel hg (own_lt h.r3 o3).1,h.gb,(hg.block gp h.hd.lt fun e=>h.p3 g o3 (by injection e with e;exact e.symm)).trans h.hd,h.nu,h.r1.kept hg fun g' e1 e2=>h.d13 g' e1 (by rw[e2];exact o3),h.r2.kept hg fun g' e1 e2=>h.d23 g' e1 (by rw[e2];exact o3),h.r3.put hk hu,h.d12,h.d13,h.d23,h.p1,h.p2,h.p3,fun e=>absurd e (by decide),fun e=>absurd e (by decide),fun e=>absurd e (by decide),fun b hb=>absurd hb List.not_mem_nil⟩
end
abbrev tyRg:TypeId:=65
def JR (w2:World)(gp kr j:Nat)(A1:Option Addr)(c1:Nat)(A2:Option Addr)(c2:Nat)(A3:Option Addr)(c3:Nat)(x1 x2 x3:List Value)(lo hi:Int)(b5 b6 b12 b13 b17 b18 b21 b24 b27:Bool)(s5 s6 s12 s13 s17 s18:Value)(w:World):Prop:=
 J3 w2 gp #[bif b21 then s6 else .slice A1 j c1,bif b24 then s13 else .slice A2 j c2,.slice none 0 0,.slice none 0 0,bif b27 then s18 else .slice A3 j c3] (bif b6 then s6 else .slice A1 j c1) (bif b13 then s13 else .slice A2 j c2) (bif b18 then s18 else .slice A3 j c3) (bif b6 then j+1 else j) (bif b13 then j+1 else j) (bif b18 then j+1 else j)
  (bif b6 then x1++[iw lo] else x1) (bif b13 then x2++[iw hi] else x2) (bif b18 then x3++[iw 0] else x3) (b5&& !b6) s5 (iw lo) (b12&& !b13) s12 (iw hi) (b17&& !b18) s17 (iw 0) [(kr,tyRg,#[iw lo,iw hi])] w
section
variable {w2 w w' : World} {gp kr j : Nat} {A1 A2 A3 : Option Addr} {c1 c2 c3 : Nat} {x1 x2 x3 : List Value} {lo hi : Int} {b5 b6 b12 b13 b17 b18 b21 b24 b27 : Bool} {s5 s6 s12 s13 s17 s18 v' : Value}
theorem J3.free {w0:World}{cells:Array Value}{v1 v2 v3:Value}{n1 n2 n3:Nat}{s1 z1 s2 z2 s3 z3 t1 y1 t2 y2 t3 y3:Value}{B:List (Nat×TypeId×Array Value)}(h:J3 w0 gp cells v1 v2 v3 n1 n2 n3 x1 x2 x3 false s1 z1 false s2 z2 false s3 z3 B w):J3 w0 gp cells v1 v2 v3 n1 n2 n3 x1 x2 x3 false t1 y1 false t2 y2 false t3 y3 B w:=
 {h with e1:=(fun e=>absurd e (by decide)),e2:=(fun e=>absurd e (by decide)),e3:=(fun e=>absurd e (by decide))}
theorem JR.start {s1 z1 s2 z2 s3 z3:Value}(h:J3 w2 gp #[.slice A1 j c1,.slice A2 j c2,.slice none 0 0,.slice none 0 0,.slice A3 j c3] (.slice A1 j c1) (.slice A2 j c2) (.slice A3 j c3) j j j x1 x2 x3 false s1 z1 false s2 z2 false s3 z3 [(kr,tyRg,#[iw lo,iw hi])] w):JR w2 gp kr j A1 c1 A2 c2 A3 c3 x1 x2 x3 lo hi false false false false false false false false false s5 s6 s12 s13 s17 s18 w:=J3.free h
theorem JR.e5 (h:JR w2 gp kr j A1 c1 A2 c2 A3 c3 x1 x2 x3 lo hi b5 b6 b12 b13 b17 b18 b21 b24 b27 s5 s6 s12 s13 s17 s18 w)(h6:b6=false):JR w2 gp kr j A1 c1 A2 c2 A3 c3 x1 x2 x3 lo hi true b6 b12 b13 b17 b18 b21 b24 b27 (.slice (some ⟨w.heap.size,0,none⟩) 1 1) s6 s12 s13 s17 s18 (w.alloc (.cells #[iw lo] tyI6)):=by
 subst h6;exact J3.el1 h
theorem JR.e12 (h:JR w2 gp kr j A1 c1 A2 c2 A3 c3 x1 x2 x3 lo hi b5 b6 b12 b13 b17 b18 b21 b24 b27 s5 s6 s12 s13 s17 s18 w)(h6:b13=false):JR w2 gp kr j A1 c1 A2 c2 A3 c3 x1 x2 x3 lo hi b5 b6 true b13 b17 b18 b21 b24 b27 s5 s6 (.slice (some ⟨w.heap.size,0,none⟩) 1 1) s13 s17 s18 (w.alloc (.cells #[iw hi] tyI6)):=by
 subst h6;exact(J3.el1 (J3.swap12 h)).swap12
theorem JR.e17 (h:JR w2 gp kr j A1 c1 A2 c2 A3 c3 x1 x2 x3 lo hi b5 b6 b12 b13 b17 b18 b21 b24 b27 s5 s6 s12 s13 s17 s18 w)(h6:b18=false):JR w2 gp kr j A1 c1 A2 c2 A3 c3 x1 x2 x3 lo hi b5 b6 b12 b13 true b18 b21 b24 b27 s5 s6 s12 s13 (.slice (some ⟨w.heap.size,0,none⟩) 1 1) s18 (w.alloc (.cells #[iw 0] tyI6)):=by
 subst h6;exact(J3.el1 (J3.swap13 h)).swap13
theorem JR.at6 (h:JR w2 gp kr j A1 c1 A2 c2 A3 c3 x1 x2 x3 lo hi b5 b6 b12 b13 b17 b18 b21 b24 b27 s5 s6 s12 s13 s17 s18 w)(h5:b5=true)(h6:b6=false):∃g,s5= .slice (some ⟨g,0,none⟩) 1 1∧w.cell? ⟨g,0,none⟩=some (iw lo)∧NRow w w2.heap.size tyI6 1 (.slice A1 j c1) j x1∧w2.heap.size≤w.heap.size:=by
 subst h5 h6;obtain⟨g,e1,e2,_⟩:=J3.e1 h rfl;exact⟨g,e1,e2,J3.r1 h,(J3.bel h).size⟩
theorem JR.at13 (h:JR w2 gp kr j A1 c1 A2 c2 A3 c3 x1 x2 x3 lo hi b5 b6 b12 b13 b17 b18 b21 b24 b27 s5 s6 s12 s13 s17 s18 w)(h5:b12=true)(h6:b13=false):∃g,s12= .slice (some ⟨g,0,none⟩) 1 1∧w.cell? ⟨g,0,none⟩=some (iw hi)∧NRow w w2.heap.size tyI6 1 (.slice A2 j c2) j x2∧w2.heap.size≤w.heap.size:=by
 subst h5 h6;obtain⟨g,e1,e2,_⟩:=J3.e2 h rfl;exact⟨g,e1,e2,J3.r2 h,(J3.bel h).size⟩
theorem JR.at18 (h:JR w2 gp kr j A1 c1 A2 c2 A3 c3 x1 x2 x3 lo hi b5 b6 b12 b13 b17 b18 b21 b24 b27 s5 s6 s12 s13 s17 s18 w)(h5:b17=true)(h6:b18=false):∃g,s17= .slice (some ⟨g,0,none⟩) 1 1∧w.cell? ⟨g,0,none⟩=some (iw 0)∧NRow w w2.heap.size tyI6 1 (.slice A3 j c3) j x3∧w2.heap.size≤w.heap.size:=by
 subst h5 h6;obtain⟨g,e1,e2,_⟩:=J3.e3 h rfl;exact⟨g,e1,e2,J3.r3 h,(J3.bel h).size⟩
theorem JR.e6 (h:JR w2 gp kr j A1 c1 A2 c2 A3 c3 x1 x2 x3 lo hi b5 b6 b12 b13 b17 b18 b21 b24 b27 s5 s6 s12 s13 s17 s18 w)(h5:b5=true)(h6:b6=false)(h21:b21=false)(hr:NRow w' w2.heap.size tyI6 1 v' (j+1) (x1++[iw lo]))(hg:w.grownBy w' (Value.slice A1 j c1).ownBlock)(hb:Below w2.heap.size w w')(hat:v'.ownBlock=(Value.slice A1 j c1).ownBlock∨∀g,v'.ownBlock=some g→w.heap.size≤g):JR w2 gp kr j A1 c1 A2 c2 A3 c3 x1 x2 x3 lo hi b5 true b12 b13 b17 b18 b21 b24 b27 s5 v' s12 s13 s17 s18 w':=by
 subst h5 h6 h21;exact J3.app1 h hr hg hb hat
theorem JR.e13 (h:JR w2 gp kr j A1 c1 A2 c2 A3 c3 x1 x2 x3 lo hi b5 b6 b12 b13 b17 b18 b21 b24 b27 s5 s6 s12 s13 s17 s18 w)(h5:b12=true)(h6:b13=false)(h21:b24=false)(hr:NRow w' w2.heap.size tyI6 1 v' (j+1) (x2++[iw hi]))(hg:w.grownBy w' (Value.slice A2 j c2).ownBlock)(hb:Below w2.heap.size w w')(hat:v'.ownBlock=(Value.slice A2 j c2).ownBlock∨∀g,v'.ownBlock=some g→w.heap.size≤g):JR w2 gp kr j A1 c1 A2 c2 A3 c3 x1 x2 x3 lo hi b5 b6 b12 true b17 b18 b21 b24 b27 s5 s6 s12 v' s17 s18 w':=by
 subst h5 h6 h21;exact(J3.app1 (J3.swap12 h) hr hg hb hat).swap12
theorem JR.e18 (h:JR w2 gp kr j A1 c1 A2 c2 A3 c3 x1 x2 x3 lo hi b5 b6 b12 b13 b17 b18 b21 b24 b27 s5 s6 s12 s13 s17 s18 w)(h5:b17=true)(h6:b18=false)(h21:b27=false)(hr:NRow w' w2.heap.size tyI6 1 v' (j+1) (x3++[iw 0]))(hg:w.grownBy w' (Value.slice A3 j c3).ownBlock)(hb:Below w2.heap.size w w')(hat:v'.ownBlock=(Value.slice A3 j c3).ownBlock∨∀g,v'.ownBlock=some g→w.heap.size≤g):JR w2 gp kr j A1 c1 A2 c2 A3 c3 x1 x2 x3 lo hi b5 b6 b12 b13 b17 true b21 b24 b27 s5 s6 s12 s13 s17 v' w':=by
 subst h5 h6 h21;exact(J3.app1 (J3.swap13 h) hr hg hb hat).swap13
theorem row_nu {e:TypeId}{base n:Nat}{v:Value}{xs:List Value}(h:NRow w base e 1 v n xs):nu v=true:=by
 obtain⟨A,c,rfl⟩:=h.slice;rfl
theorem JR.e21 (h:JR w2 gp kr j A1 c1 A2 c2 A3 c3 x1 x2 x3 lo hi b5 b6 b12 b13 b17 b18 b21 b24 b27 s5 s6 s12 s13 s17 s18 w)(h5:b6=true){u:Value}(hu:s6=u):JR w2 gp kr j A1 c1 A2 c2 A3 c3 x1 x2 x3 lo hi b5 b6 b12 b13 b17 b18 true b24 b27 s5 s6 s12 s13 s17 s18 (w.setCell ⟨gp,0,none⟩ u):=by
 subst h5 hu;exact J3.put h 0 (row_nu (J3.r1 h))
theorem JR.e24 (h:JR w2 gp kr j A1 c1 A2 c2 A3 c3 x1 x2 x3 lo hi b5 b6 b12 b13 b17 b18 b21 b24 b27 s5 s6 s12 s13 s17 s18 w)(h5:b13=true){u:Value}(hu:s13=u):JR w2 gp kr j A1 c1 A2 c2 A3 c3 x1 x2 x3 lo hi b5 b6 b12 b13 b17 b18 b21 true b27 s5 s6 s12 s13 s17 s18 (w.setCell ⟨gp,1,none⟩ u):=by
 subst h5 hu;exact J3.put h 1 (row_nu (J3.r2 h))
theorem JR.e27 (h:JR w2 gp kr j A1 c1 A2 c2 A3 c3 x1 x2 x3 lo hi b5 b6 b12 b13 b17 b18 b21 b24 b27 s5 s6 s12 s13 s17 s18 w)(h5:b18=true){u:Value}(hu:s18=u):JR w2 gp kr j A1 c1 A2 c2 A3 c3 x1 x2 x3 lo hi b5 b6 b12 b13 b17 b18 b21 b24 true s5 s6 s12 s13 s17 s18 (w.setCell ⟨gp,4,none⟩ u):=by
 subst h5 hu;exact J3.put h 4 (row_nu (J3.r3 h))
theorem JR.cl0 (h:JR w2 gp kr j A1 c1 A2 c2 A3 c3 x1 x2 x3 lo hi b5 b6 b12 b13 b17 b18 b21 b24 b27 s5 s6 s12 s13 s17 s18 w)(h5:b21=false):w.cell? ⟨gp,0,none⟩=some (.slice A1 j c1):=by
 subst h5;exact(J3.hd h).cell 0
theorem JR.cl1 (h:JR w2 gp kr j A1 c1 A2 c2 A3 c3 x1 x2 x3 lo hi b5 b6 b12 b13 b17 b18 b21 b24 b27 s5 s6 s12 s13 s17 s18 w)(h5:b24=false):w.cell? ⟨gp,1,none⟩=some (.slice A2 j c2):=by
 subst h5;exact(J3.hd h).cell 1
theorem JR.cl4 (h:JR w2 gp kr j A1 c1 A2 c2 A3 c3 x1 x2 x3 lo hi b5 b6 b12 b13 b17 b18 b21 b24 b27 s5 s6 s12 s13 s17 s18 w)(h5:b27=false):w.cell? ⟨gp,4,none⟩=some (.slice A3 j c3):=by
 subst h5;exact(J3.hd h).cell 4
theorem JR.fz (h:JR w2 gp kr j A1 c1 A2 c2 A3 c3 x1 x2 x3 lo hi b5 b6 b12 b13 b17 b18 b21 b24 b27 s5 s6 s12 s13 s17 s18 w)(i:Nat):w.frozen? ⟨gp,i,none⟩=false:=(J3.hd h).frozen i
theorem JR.kr0 (h:JR w2 gp kr j A1 c1 A2 c2 A3 c3 x1 x2 x3 lo hi b5 b6 b12 b13 b17 b18 b21 b24 b27 s5 s6 s12 s13 s17 s18 w):w.cell? ⟨kr,0,none⟩=some (iw lo)∧w.cell? ⟨kr,1,none⟩=some (iw hi):=⟨(J3.kp h _ List.mem_cons_self).1.cell 0,(J3.kp h _ List.mem_cons_self).1.cell 1⟩
theorem JR.f6 (h:JR w2 gp kr j A1 c1 A2 c2 A3 c3 x1 x2 x3 lo hi b5 b6 b12 b13 b17 b18 b21 b24 b27 s5 s6 s12 s13 s17 s18 w)(h5:b6=true):∃B d,s6= .slice B (j+1) d:=by
 subst h5;exact(show NRow w w2.heap.size tyI6 1 s6 (j+1) (x1++[iw lo]) from J3.r1 h).slice
theorem JR.f13 (h:JR w2 gp kr j A1 c1 A2 c2 A3 c3 x1 x2 x3 lo hi b5 b6 b12 b13 b17 b18 b21 b24 b27 s5 s6 s12 s13 s17 s18 w)(h5:b13=true):∃B d,s13= .slice B (j+1) d:=by
 subst h5;exact(show NRow w w2.heap.size tyI6 1 s13 (j+1) (x2++[iw hi]) from J3.r2 h).slice
theorem JR.f18 (h:JR w2 gp kr j A1 c1 A2 c2 A3 c3 x1 x2 x3 lo hi b5 b6 b12 b13 b17 b18 b21 b24 b27 s5 s6 s12 s13 s17 s18 w)(h5:b18=true):∃B d,s18= .slice B (j+1) d:=by
 subst h5;exact(show NRow w w2.heap.size tyI6 1 s18 (j+1) (x3++[iw 0]) from J3.r3 h).slice
theorem JR.done (h:JR w2 gp kr j A1 c1 A2 c2 A3 c3 x1 x2 x3 lo hi b5 b6 b12 b13 b17 b18 b21 b24 b27 s5 s6 s12 s13 s17 s18 w)(t5:b5=true)(t6:b6=true)(t12:b12=true)(t13:b13=true)(t17:b17=true)(t18:b18=true)(t21:b21=true)(t24:b24=true)(t27:b27=true):∃B1 d1 B2 d2 B3 d3,s6= .slice B1 (j+1) d1∧s13= .slice B2 (j+1) d2∧s18= .slice B3 (j+1) d3∧J3 w2 gp #[.slice B1 (j+1) d1,.slice B2 (j+1) d2,.slice none 0 0,.slice none 0 0,.slice B3 (j+1) d3] (.slice B1 (j+1) d1) (.slice B2 (j+1) d2) (.slice B3 (j+1) d3) (j+1) (j+1) (j+1) (x1++[iw lo]) (x2++[iw hi]) (x3++[iw 0]) false (.bool false) (.bool false) false (.bool false) (.bool false) false (.bool false) (.bool false) [] w:=by
 subst t5 t6 t12 t13 t17 t18 t21 t24 t27;obtain⟨B1,d1,e1⟩:=(show NRow w w2.heap.size tyI6 1 s6 (j+1) (x1++[iw lo]) from J3.r1 h).slice;obtain⟨B2,d2,e2⟩:=(show NRow w w2.heap.size tyI6 1 s13 (j+1) (x2++[iw hi]) from J3.r2 h).slice;obtain⟨B3,d3,e3⟩:=(show NRow w w2.heap.size tyI6 1 s18 (j+1) (x3++[iw 0]) from J3.r3 h).slice;subst e1 e2 e3;exact⟨B1,d1,B2,d2,B3,d3,rfl,rfl,rfl,(J3.free h).noB⟩
end
set_option maxHeartbeats 40000000
set_option maxRecDepth 100000
theorem info_pg5:(Tryz.prog.info? 31).map (·.size)=some 5:=by kernel_rfl
abbrev z5P:Array Value:= #[.slice none 0 0,.slice none 0 0,.slice none 0 0,.slice none 0 0,.slice none 0 0]
theorem of_bad {w:World}{a:Mp}{m:Md}{D:Option Addr}{Dc:Nat}{ds:List Adr}{d:List (List (Int×Int))}(h:MdAt w a m)(hd:DsAt w D ds d)(hz:MdSz m)(hzd:MdSz {m with doms:=d})(hf:fitM m d=false):Calls Tryz.prog 10 #[.agg (mdC a m),.slice D d.length Dc] w fun e w'=>e= .returned (.tuple #[.agg z5P,.int .i64 2])∧Below w.heap.size w w':=by
 have HFit:=ZH fun(w':World)(q:Below w.heap.size w w')=>rlxfit_any (Dc:=Dc) (h.below q) (hd.below q) hz hzd;rw[hf]at HFit;have M:=((Mem.start w).new 25 (mdC a m)).newAt (g:=w.heap.size+1) (by simp) 31 z5P;obtain⟨m0,m1,m2,m3⟩:=(M.k (i:=1) rfl).four;clear h hd hz hzd hf;go_enter Tryz.func10,Tryz.ntmps10;go_wp2_with fail;refine(HFit.out _ M.bel).mono ?_;rintro e w2 ⟨rfl,q2⟩;replace M:=M.below q2;clear m0 m1 m2 m3 q2;go_wp2_with ((with_reducible refine st_ ?_);refine wP2 _ _ (M.k (i:=0) rfl) rfl rfl rfl rfl info_pg5 rfl rfl ?_;intro w5 b5 g5';replace M:=M.row (by omega) (by simp) rfl b5 g5');obtain⟨f0,f1,f2,f3,f4⟩:=(M.k (i:=0) rfl).fiveP;exact bodyPost_ret (v:= .tuple #[.agg z5P,.int .i64 2]) (by simp[results,Tryz.results10,go_sem,f0,f1,f2,f3,f4]) rfl ⟨rfl,M.bel⟩
theorem take_map {α:Type}(f:List (Int×Int)→α){d:List (List (Int×Int))}{j:Nat}(hj:j<d.length):(d.take (j+1)).map f=(d.take j).map f++[f (d.getD j [])]:=by
 rw[List.take_add_one,gG hj,List.map_append,gE,gG hj];rfl
theorem take_fold {l:List Cn}{p:Pg}{j:Nat}(hj:j<l.length):(l.take (j+1)).foldl conP p=conP ((l.take j).foldl conP p) (l.getD j cn0):=by
 rw[List.take_add_one,gG hj,List.foldl_append,gE,gG hj];rfl
theorem getD_in {α:Type}{l:List α}{j:Nat}{z:α}(hj:j<l.length):l.getD j z∈l:=by
 rw[gE,gG hj];exact List.getElem_mem hj
theorem of_good {w:World}{a:Mp}{m:Md}{D:Option Addr}{Dc:Nat}{ds:List Adr}{d:List (List (Int×Int))}(h:MdAt w a m)(hd:DsAt w D ds d)(hz:MdSz m)(hzd:MdSz {m with doms:=d})(hf:fitM m d=true):Calls Tryz.prog 10 #[.agg (mdC a m),.slice D d.length Dc] w fun e w'=>Below w.heap.size w w'∧∃mm,e= .returned (.tuple #[.agg (pgC mm (ofP m d)),.int .i64 0])∧PgAt w' mm (ofP m d):=by
 have HFit:=ZH fun(w':World)(q:Below w.heap.size w w')=>rlxfit_any (Dc:=Dc) (h.below q) (hd.below q) hz hzd;rw[hf]at HFit;obtain⟨g1,g2,g3,g4,g5,g6⟩:=fit_parts hf;have HM:=ZH h;have HD:=ZH hd;have HG4:=ZH g4;have HG5:=ZH g5;have HG6:=ZH g6;have HZD:=ZH hzd.ds;obtain⟨P',hP'⟩:∃P',ofP m d=P':=⟨_,rfl⟩;have HP:Hid (m.cons.foldl conP (startP m d)=P'):=hP';have HRW:=ZH fun(i:Nat)=>Rwp.cons (m.cons.take i) (Rwp.start m d) fun c hc=>may_in (g5 c (List.mem_of_mem_take hc));rw[hP'];have M:=((Mem.start w).new 25 (mdC a m)).newAt (g:=w.heap.size+1) (by simp) 31 z5P;obtain⟨m0,m1,m2,m3⟩:=(M.k (i:=1) rfl).four;clear h hd hz hzd hf g1 g4 g5 g6 hP';go_enter Tryz.func10,Tryz.ntmps10;go_wp2_with fail;refine(HFit.out _ M.bel).mono ?_;rintro e w2 ⟨rfl,q2⟩;replace M:=M.below q2;have HMM:=ZH M;have HQ2:=ZH M.bel;have hgp:=(M.k (i:=0) rfl).lt;clear m0 m1 m2 m3 q2 HFit M;have HJ0:Hid (J3 w2 w2.heap.size z5P (.slice none 0 0) (.slice none 0 0) (.slice none 0 0) 0 0 0 [] [] [] false (.bool false) (.bool false) false (.bool false) (.bool false) false (.bool false) (.bool false) [] (w2.alloc (.cells z5P tyRw))):=
  ⟨bA1 _ _,Nat.le_refl _,Blk.new _ _ _,rfl,NRow.nil _ _ _ _,NRow.nil _ _ _ _,NRow.nil _ _ _ _,(fun k e=>by cases e),(fun k e=>by cases e),(fun k e=>by cases e),(fun k e=>by cases e),(fun k e=>by cases e),(fun k e=>by cases e),(fun e=>absurd e (by decide)),(fun e=>absurd e (by decide)),(fun e=>absurd e (by decide)),fun b hb=>absurd hb List.not_mem_nil⟩
 go_wp2_with fail;obtain⟨n,hn⟩:∃n,d.length=n:=⟨_,rfl⟩;have HN:=ZH hn;rw[hn]at g2⊢;go_loopg [20] n (fun kk pp wr=>∃(j:Nat)(A1 A2 A3:Option Addr)(c1 c2 c3:Nat),kk=n-j∧j≤n∧pp= .int .i64 (j:Nat)∧Hid (J3 w2 w2.heap.size #[.slice A1 j c1,.slice A2 j c2,.slice none 0 0,.slice none 0 0,.slice A3 j c3] (.slice A1 j c1) (.slice A2 j c2) (.slice A3 j c3) j j j (((d.take j).map loD).map iw) (((d.take j).map hiD).map iw) ((List.replicate j 0).map iw) false (.bool false) (.bool false) false (.bool false) (.bool false) false (.bool false) (.bool false) [] wr))
 case atStart=>exact⟨0,none,none,none,0,0,0,rfl,Nat.zero_le _,rfl,HJ0.out⟩
 case round=>
  clear HJ0 hn;obtain⟨j,A1,A2,A3,c1,c2,c3,hkk,hj,rfl,HJ⟩:=hrel;have HQ:=ZH (J3.bel HJ.out);by_cases hlt:j<n
  ·have d1:decide ((j:Int)<(n:Int))=true:=dT (by omega);have hjd:j<d.length:=by rw[HN.out];exact hlt
   have HDW:=ZH (HD.out.below (bT HQ2.out HQ.out));obtain⟨gd,od,hda,cd⟩:=HDW.out.ap j hjd;replace cd:wr.cell? ⟨gd,od+j,none⟩=some (.slice (ds.getD j ad0).1 (d.getD j []).length (ds.getD j ad0).2):=cd;have HDA:=ZH hda;rw[hda];have HRR:=ZH (HDW.out.ar j hjd);have hdm:domB (d.getD j [])=true:=HG4.out _ (getD_in hjd);have hrl:(d.getD j []).length≤1000:=HZD.out _ (getD_in hjd);have HX1:Hid (((d.take (j+1)).map loD).map iw=((d.take j).map loD).map iw++[iw (loD (d.getD j []))]):=by
    show _=_;rw[take_map loD hjd,List.map_append];rfl
   have HX2:Hid (((d.take (j+1)).map hiD).map iw=((d.take j).map hiD).map iw++[iw (hiD (d.getD j []))]):=by
    show _=_;rw[take_map hiD hjd,List.map_append];rfl
   have HX3:Hid ((List.replicate (j+1) (0:Int)).map iw=(List.replicate j (0:Int)).map iw++[iw 0]):=by
    show _=_;rw[List.replicate_succ',List.map_append];rfl
   have HDom:=ZH hdm;clear hda hdm hjd;generalize (ds.getD j ad0).1=DA at*;generalize (ds.getD j ad0).2=dc at*;generalize d.getD j []=row at*;go_wp2_with fail;refine(ends_good HRR.out (by omega) HDom.out).mono ?_;rintro e w5 ⟨rfl,q5⟩;generalize loD row=lo at*;generalize hiD row=top at*;generalize ((d.take j).map loD).map iw=x1 at*;generalize ((d.take j).map hiD).map iw=x2 at*;generalize (List.replicate j (0:Int)).map iw=x3 at*;have M5:=(Mem.start w5).new tyRg #[.int .i64 0,.int .i64 0];go_upto_region 8 with ((with_reducible refine st_ ?_);refine wP2 _ _ (M5.k (i:=0) rfl) rfl rfl rfl rfl info_range rfl rfl ?_;intro w6 b6 g6;replace M5:=M5.row ZL (by simp) rfl b6 g6);have hsz5:=q5.size;have hgj:=(J3.hd HJ.out).lt;have HJ6:=ZH (((HJ.out.below (bT q5 M5.bel)).addB (M5.k (i:=0) rfl) (by omega) (fun e=>by have:=(own_lt HJ.out.r1 e).2;omega) (fun e=>by have:=(own_lt HJ.out.r2 e).2;omega) (fun e=>by have:=(own_lt HJ.out.r3 e).2;omega)));have hj6:j≤1000000:=by omega
   generalize w5.heap.size=kr at*;clear b6 g6 M5 q5 cd hsz5 hgj HJ HDW;have M9:=Mem.start w6;generalize hgpp:w2.heap.size=gp at*;have HGP:=ZH hgpp;clear hgpp;refine region_gen0 (n:=28) (frame:= ?frame1) (fun L s w'=>Vs [oP gp 0,oP gp 0,oF (.slice A1 j c1),oP kr 0,oI lo,none,none,oP gp 0,oP gp 1,oF (.slice A2 j c2),oP kr 1,oI top,none,none,oP gp 0,oP gp 4,oF (.slice A3 j c3),none,none,oP gp 0,oP gp 0,none,oP gp 0,oP gp 1,none,oP gp 0,oP gp 4,none] L s∧(JR w2 gp kr j A1 c1 A2 c2 A3 c3 x1 x2 x3 lo top (L 5) (L 6) (L 12) (L 13) (L 17) (L 18) (L 21) (L 24) (L 27) (s 5) (s 6) (s 12) (s 13) (s 17) (s 18) w')) (by kernel_rfl) (by kernel_rfl) (by kernel_rfl) rfl ?_ ?_ ?_ ?_
   case refine_1=>exact⟨fun _ _ _ h=>no_f h,JR.start (J3.below HJ6.out ((Read.refl _).drew.below _))⟩
   case refine_2=>
    intro s;simp only[fr,Act.put,zA,zB,zC,zD,zE,zF,Nat.reduceAdd];rfl
   case refine_3=>
    iterate 28 (refine SN ?_ ?_;rotate_left)
    exact Steps.nil;all_goals (intro L s w9 hN hU hi hC hS K hK;dsimp only at hK⊢;simp only[Act.put,zD,zE,zF]at hK;obtain⟨hV,hJ⟩:=hS;refine ite_of rfl ?_)
    ·go_simp;exact hK.out _ _ ⟨hV.put 0,hJ⟩
    ·rw[hV.at 0 (hN.out 0 rfl)]at hK⊢;go_simp;exact hK.out _ _ ⟨hV.put 1,hJ⟩
    ·rw[hV.at 1 (hN.out 1 rfl)]at hK⊢;have f_6:L 6=false:=(hU.out 6 _ rfl rfl);have f_13:L 13=false:=(Shut.no hC 13 6 rfl rfl (hU.out 6 _ rfl rfl));have f_18:L 18=false:=(Shut.no hC 18 13 rfl rfl (Shut.no hC 13 6 rfl rfl (hU.out 6 _ rfl rfl)));have f_21:L 21=false:=(hU.out 21 _ rfl rfl);have f_24:L 24=false:=(Shut.no hC 24 21 rfl rfl (hU.out 21 _ rfl rfl));have f_27:L 27=false:=(Shut.no hC 27 24 rfl rfl (Shut.no hC 24 21 rfl rfl (hU.out 21 _ rfl rfl)));have u0:=JR.cl0 hJ f_21;go_simp;exact hK.out _ _ ⟨hV.put 2,hJ⟩
    ·go_simp;exact hK.out _ _ ⟨hV.put 3,hJ⟩
    ·rw[hV.at 3 (hN.out 3 rfl)]at hK⊢;have f_5:L 5=false:=(hU.out 5 _ rfl rfl);have f_6:L 6=false:=(Shut.no hC 6 5 rfl rfl (hU.out 5 _ rfl rfl));have f_13:L 13=false:=(Shut.no hC 13 6 rfl rfl (Shut.no hC 6 5 rfl rfl (hU.out 5 _ rfl rfl)));have f_18:L 18=false:=(Shut.no hC 18 13 rfl rfl (Shut.no hC 13 6 rfl rfl (Shut.no hC 6 5 rfl rfl (hU.out 5 _ rfl rfl))));have f_21:L 21=false:=(Shut.no hC 21 6 rfl rfl (Shut.no hC 6 5 rfl rfl (hU.out 5 _ rfl rfl)));have f_24:L 24=false:=(Shut.no hC 24 13 rfl rfl (Shut.no hC 13 6 rfl rfl (Shut.no hC 6 5 rfl rfl (hU.out 5 _ rfl rfl))));have f_27:L 27=false:=(Shut.no hC 27 18 rfl rfl (Shut.no hC 18 13 rfl rfl (Shut.no hC 13 6 rfl rfl (Shut.no hC 6 5 rfl rfl (hU.out 5 _ rfl rfl)))));have u0:=(JR.kr0 hJ).1;go_simp;exact hK.out _ _ ⟨hV.put 4,hJ⟩
    ·rw[hV.at 4 (hN.out 4 rfl)]at hK⊢;have f_6:L 6=false:=(hU.out 6 _ rfl rfl);have f_13:L 13=false:=(Shut.no hC 13 6 rfl rfl (hU.out 6 _ rfl rfl));have f_18:L 18=false:=(Shut.no hC 18 13 rfl rfl (Shut.no hC 13 6 rfl rfl (hU.out 6 _ rfl rfl)));have f_21:L 21=false:=(Shut.no hC 21 6 rfl rfl (hU.out 6 _ rfl rfl));have f_24:L 24=false:=(Shut.no hC 24 13 rfl rfl (Shut.no hC 13 6 rfl rfl (hU.out 6 _ rfl rfl)));have f_27:L 27=false:=(Shut.no hC 27 18 rfl rfl (Shut.no hC 18 13 rfl rfl (Shut.no hC 13 6 rfl rfl (hU.out 6 _ rfl rfl))));go_simp;exact hK.out _ _ ⟨hV.eff 5,JR.e5 hJ f_6⟩
    ·rw[hV.at 2 (hN.out 2 rfl)]at hK⊢;have t_5:L 5=true:=(hN.out 5 rfl);have f_13:L 13=false:=(hU.out 13 _ rfl rfl);have f_18:L 18=false:=(Shut.no hC 18 13 rfl rfl (hU.out 13 _ rfl rfl));have f_21:L 21=false:=(hU.out 21 _ rfl rfl);have f_24:L 24=false:=(Shut.no hC 24 13 rfl rfl (hU.out 13 _ rfl rfl));have f_27:L 27=false:=(Shut.no hC 27 18 rfl rfl (Shut.no hC 18 13 rfl rfl (hU.out 13 _ rfl rfl)));obtain⟨g,e5,hc,hr,hs⟩:=JR.at6 hJ t_5 hi.out;simp only[e5]at hK⊢;refine wp_appAt_op _ _ w9 w2.heap.size tyI6 (.slice A1 j c1) j x1 g (iw lo) Tryz.underlying28 info_i6 rfl rfl (by decide) hr hs hj6 rfl rfl hc rfl rfl rfl ?_;intro v4 w5 r1 r2 r3 r4;exact hK.out _ _ ⟨hV.eff 6,JR.e6 hJ t_5 hi.out f_21 r1 r2 r3 r4⟩
    ·go_simp;exact hK.out _ _ ⟨hV.put 7,hJ⟩
    ·rw[hV.at 7 (hN.out 7 rfl)]at hK⊢;go_simp;exact hK.out _ _ ⟨hV.put 8,hJ⟩
    ·rw[hV.at 8 (hN.out 8 rfl)]at hK⊢;have f_13:L 13=false:=(hU.out 13 _ rfl rfl);have f_18:L 18=false:=(Shut.no hC 18 13 rfl rfl (hU.out 13 _ rfl rfl));have f_21:L 21=false:=(hU.out 21 _ rfl rfl);have f_24:L 24=false:=(Shut.no hC 24 13 rfl rfl (hU.out 13 _ rfl rfl));have f_27:L 27=false:=(Shut.no hC 27 18 rfl rfl (Shut.no hC 18 13 rfl rfl (hU.out 13 _ rfl rfl)));have u0:=JR.cl1 hJ f_24;go_simp;exact hK.out _ _ ⟨hV.put 9,hJ⟩
    ·go_simp;exact hK.out _ _ ⟨hV.put 10,hJ⟩
    ·rw[hV.at 10 (hN.out 10 rfl)]at hK⊢;have f_12:L 12=false:=(hU.out 12 _ rfl rfl);have f_13:L 13=false:=(Shut.no hC 13 12 rfl rfl (hU.out 12 _ rfl rfl));have f_18:L 18=false:=(Shut.no hC 18 13 rfl rfl (Shut.no hC 13 12 rfl rfl (hU.out 12 _ rfl rfl)));have f_21:L 21=false:=(Shut.no hC 21 18 rfl rfl (Shut.no hC 18 13 rfl rfl (Shut.no hC 13 12 rfl rfl (hU.out 12 _ rfl rfl))));have f_24:L 24=false:=(Shut.no hC 24 13 rfl rfl (Shut.no hC 13 12 rfl rfl (hU.out 12 _ rfl rfl)));have f_27:L 27=false:=(Shut.no hC 27 18 rfl rfl (Shut.no hC 18 13 rfl rfl (Shut.no hC 13 12 rfl rfl (hU.out 12 _ rfl rfl))));have u0:=(JR.kr0 hJ).2;go_simp;exact hK.out _ _ ⟨hV.put 11,hJ⟩
    ·rw[hV.at 11 (hN.out 11 rfl)]at hK⊢;have f_13:L 13=false:=(hU.out 13 _ rfl rfl);have f_18:L 18=false:=(Shut.no hC 18 13 rfl rfl (hU.out 13 _ rfl rfl));have f_21:L 21=false:=(Shut.no hC 21 18 rfl rfl (Shut.no hC 18 13 rfl rfl (hU.out 13 _ rfl rfl)));have f_24:L 24=false:=(Shut.no hC 24 13 rfl rfl (hU.out 13 _ rfl rfl));have f_27:L 27=false:=(Shut.no hC 27 18 rfl rfl (Shut.no hC 18 13 rfl rfl (hU.out 13 _ rfl rfl)));go_simp;exact hK.out _ _ ⟨hV.eff 12,JR.e12 hJ f_13⟩
    ·rw[hV.at 9 (hN.out 9 rfl)]at hK⊢;have t_5:L 5=true:=(hC.out 6 _ rfl (hN.out 6 rfl) 5 rfl);have t_6:L 6=true:=(hN.out 6 rfl);have t_12:L 12=true:=(hN.out 12 rfl);have f_18:L 18=false:=(hU.out 18 _ rfl rfl);have f_21:L 21=false:=(Shut.no hC 21 18 rfl rfl (hU.out 18 _ rfl rfl));have f_24:L 24=false:=(hU.out 24 _ rfl rfl);have f_27:L 27=false:=(Shut.no hC 27 18 rfl rfl (hU.out 18 _ rfl rfl));obtain⟨g,e5,hc,hr,hs⟩:=JR.at13 hJ t_12 hi.out;simp only[e5]at hK⊢;refine wp_appAt_op _ _ w9 w2.heap.size tyI6 (.slice A2 j c2) j x2 g (iw top) Tryz.underlying28 info_i6 rfl rfl (by decide) hr hs hj6 rfl rfl hc rfl rfl rfl ?_;intro v4 w5 r1 r2 r3 r4;exact hK.out _ _ ⟨hV.eff 13,JR.e13 hJ t_12 hi.out f_24 r1 r2 r3 r4⟩
    ·go_simp;exact hK.out _ _ ⟨hV.put 14,hJ⟩
    ·rw[hV.at 14 (hN.out 14 rfl)]at hK⊢;go_simp;exact hK.out _ _ ⟨hV.put 15,hJ⟩
    ·rw[hV.at 15 (hN.out 15 rfl)]at hK⊢;have f_18:L 18=false:=(hU.out 18 _ rfl rfl);have f_21:L 21=false:=(hU.out 21 _ rfl rfl);have f_24:L 24=false:=(Shut.no hC 24 21 rfl rfl (hU.out 21 _ rfl rfl));have f_27:L 27=false:=(Shut.no hC 27 18 rfl rfl (hU.out 18 _ rfl rfl));have u0:=JR.cl4 hJ f_27;go_simp;exact hK.out _ _ ⟨hV.put 16,hJ⟩
    ·have f_18:L 18=false:=(hU.out 18 _ rfl rfl);have f_21:L 21=false:=(Shut.no hC 21 18 rfl rfl (hU.out 18 _ rfl rfl));have f_24:L 24=false:=(Shut.no hC 24 21 rfl rfl (Shut.no hC 21 18 rfl rfl (hU.out 18 _ rfl rfl)));have f_27:L 27=false:=(Shut.no hC 27 18 rfl rfl (hU.out 18 _ rfl rfl));go_simp;exact hK.out _ _ ⟨hV.eff 17,JR.e17 hJ f_18⟩
    ·rw[hV.at 16 (hN.out 16 rfl)]at hK⊢;have t_5:L 5=true:=(hC.out 6 _ rfl (hC.out 13 _ rfl (hN.out 13 rfl) 6 rfl) 5 rfl);have t_6:L 6=true:=(hC.out 13 _ rfl (hN.out 13 rfl) 6 rfl);have t_12:L 12=true:=(hC.out 13 _ rfl (hN.out 13 rfl) 12 rfl);have t_13:L 13=true:=(hN.out 13 rfl);have t_17:L 17=true:=(hN.out 17 rfl);have f_21:L 21=false:=(hU.out 21 _ rfl rfl);have f_24:L 24=false:=(Shut.no hC 24 21 rfl rfl (hU.out 21 _ rfl rfl));have f_27:L 27=false:=(hU.out 27 _ rfl rfl);obtain⟨g,e5,hc,hr,hs⟩:=JR.at18 hJ t_17 hi.out;simp only[e5]at hK⊢;refine wp_appAt_op _ _ w9 w2.heap.size tyI6 (.slice A3 j c3) j x3 g (iw 0) Tryz.underlying28 info_i6 rfl rfl (by decide) hr hs hj6 rfl rfl hc rfl rfl rfl ?_;intro v4 w5 r1 r2 r3 r4;exact hK.out _ _ ⟨hV.eff 18,JR.e18 hJ t_17 hi.out f_27 r1 r2 r3 r4⟩
    ·go_simp;exact hK.out _ _ ⟨hV.put 19,hJ⟩
    ·rw[hV.at 19 (hN.out 19 rfl)]at hK⊢;go_simp;exact hK.out _ _ ⟨hV.put 20,hJ⟩
    ·rw[hV.at 20 (hN.out 20 rfl)]at hK⊢;have t_5:L 5=true:=(hC.out 6 _ rfl (hN.out 6 rfl) 5 rfl);have t_6:L 6=true:=(hN.out 6 rfl);have t_12:L 12=true:=(hC.out 13 _ rfl (hC.out 18 _ rfl (hN.out 18 rfl) 13 rfl) 12 rfl);have t_13:L 13=true:=(hC.out 18 _ rfl (hN.out 18 rfl) 13 rfl);have t_17:L 17=true:=(hC.out 18 _ rfl (hN.out 18 rfl) 17 rfl);have t_18:L 18=true:=(hN.out 18 rfl);have f_24:L 24=false:=(hU.out 24 _ rfl rfl);have f_27:L 27=false:=(Shut.no hC 27 24 rfl rfl (hU.out 24 _ rfl rfl));obtain⟨B,dd,ef⟩:=JR.f6 hJ t_6;simp only[ef]at hK⊢;have k0:=JR.cl0 hJ hi.out;have k1:=JR.fz hJ 0;go_simp;exact hK.out undef _ ⟨hV.eff 21,JR.e21 hJ t_6 ef⟩
    ·go_simp;exact hK.out _ _ ⟨hV.put 22,hJ⟩
    ·rw[hV.at 22 (hN.out 22 rfl)]at hK⊢;go_simp;exact hK.out _ _ ⟨hV.put 23,hJ⟩
    ·rw[hV.at 23 (hN.out 23 rfl)]at hK⊢;have t_5:L 5=true:=(hC.out 6 _ rfl (hC.out 13 _ rfl (hN.out 13 rfl) 6 rfl) 5 rfl);have t_6:L 6=true:=(hC.out 13 _ rfl (hN.out 13 rfl) 6 rfl);have t_12:L 12=true:=(hC.out 13 _ rfl (hN.out 13 rfl) 12 rfl);have t_13:L 13=true:=(hN.out 13 rfl);have t_17:L 17=true:=(hC.out 18 _ rfl (hC.out 21 _ rfl (hN.out 21 rfl) 18 rfl) 17 rfl);have t_18:L 18=true:=(hC.out 21 _ rfl (hN.out 21 rfl) 18 rfl);have t_21:L 21=true:=(hN.out 21 rfl);have f_27:L 27=false:=(hU.out 27 _ rfl rfl);obtain⟨B,dd,ef⟩:=JR.f13 hJ t_13;simp only[ef]at hK⊢;have k0:=JR.cl1 hJ hi.out;have k1:=JR.fz hJ 1;go_simp;exact hK.out undef _ ⟨hV.eff 24,JR.e24 hJ t_13 ef⟩
    ·go_simp;exact hK.out _ _ ⟨hV.put 25,hJ⟩
    ·rw[hV.at 25 (hN.out 25 rfl)]at hK⊢;go_simp;exact hK.out _ _ ⟨hV.put 26,hJ⟩
    ·rw[hV.at 26 (hN.out 26 rfl)]at hK⊢;have t_5:L 5=true:=(hC.out 6 _ rfl (hC.out 13 _ rfl (hC.out 18 _ rfl (hN.out 18 rfl) 13 rfl) 6 rfl) 5 rfl);have t_6:L 6=true:=(hC.out 13 _ rfl (hC.out 18 _ rfl (hN.out 18 rfl) 13 rfl) 6 rfl);have t_12:L 12=true:=(hC.out 13 _ rfl (hC.out 18 _ rfl (hN.out 18 rfl) 13 rfl) 12 rfl);have t_13:L 13=true:=(hC.out 18 _ rfl (hN.out 18 rfl) 13 rfl);have t_17:L 17=true:=(hC.out 18 _ rfl (hN.out 18 rfl) 17 rfl);have t_18:L 18=true:=(hN.out 18 rfl);have t_21:L 21=true:=(hC.out 24 _ rfl (hN.out 24 rfl) 21 rfl);have t_24:L 24=true:=(hN.out 24 rfl);obtain⟨B,dd,ef⟩:=JR.f18 hJ t_18;simp only[ef]at hK⊢;have k0:=JR.cl4 hJ hi.out;have k1:=JR.fz hJ 4;go_simp;exact hK.out undef _ ⟨hV.eff 27,JR.e27 hJ t_18 ef⟩
   intro L s w9 hall hS;obtain⟨hV,hJ⟩:=hS;have t_5:=hall 5 (by decide);have t_6:=hall 6 (by decide);have t_12:=hall 12 (by decide);have t_13:=hall 13 (by decide);have t_17:=hall 17 (by decide);have t_18:=hall 18 (by decide);have t_21:=hall 21 (by decide);have t_24:=hall 24 (by decide);have t_27:=hall 27 (by decide);clear hall hV;obtain⟨B1,e1,B2,e2,B3,e3,_,_,_,hJd⟩:=JR.done hJ t_5 t_6 t_12 t_13 t_17 t_18 t_21 t_24 t_27;rw[←HX1.out,←HX2.out,←HX3.out]at hJd;have HJD:=ZH hJd;clear hJ hJd t_5 t_6 t_12 t_13 t_17 t_18 t_21 t_24 t_27;go_wp2_with fail;rw[←HDA.out];go_roundg (n-(j+1))
   case measure=>omega
   case rel=>exact⟨j+1,B1,B2,B3,e1,e2,e3,rfl,by omega,by simp,HJD.out⟩
  ·have d1:decide ((j:Int)<(n:Int))=false:=dF (by omega);obtain rfl:j=n:=by omega
   have hJ:=HJ.out;rw[List.take_of_length_le (Nat.le_of_eq HN.out)]at hJ;replace HJ:=ZH hJ;obtain⟨m0,m1,m2,m3⟩:=((HMM.out.below HQ.out).k (i:=1) rfl).four;obtain⟨b0,b1,b2,b3,b4⟩:=(J3.hd HJ.out).fiveP;clear hJ;go_upto_block 2 with fail;go_cut [] (fun wx=>∃mm,RwAt wx w2.heap.size w2.heap.size mm (startP m d)∧Below w2.heap.size w2 wx)
   case first=>
    have hgo:m.ask=1∨m.ask=2→∃k:Nat,m.goal=k∧k<j:=fun e=>by
     have h6:=HG6.out;unfold askB at h6;dsimp only at h6;rw[if_neg (by omega),if_pos e,Bool.and_eq_true,decide_eq_true_eq,decide_eq_true_eq,HN.out]at h6;exact⟨m.goal.toNat,by omega,by omega⟩
    have hst:startP m d=⟨d.map loD,d.map hiD,[],[],costP j m.ask m.goal⟩:=by
     unfold startP;rw[HN.out]
    by_cases k1:m.ask=1
    ·have d2:(m.ask==1)=true:=beq_iff_eq.2 k1;obtain⟨k,hk,hkj⟩:=hgo (.inl k1);have HST:Hid (startP m d=⟨d.map loD,d.map hiD,[],[],(List.replicate j 0).set k (1)⟩):=hst.trans (by congr 1;exact(by unfold costP;rw[if_pos k1,hk];rfl));have hx3:((List.replicate j (0:Int)).map iw)[k]? =some (iw 0):=by
      rw[List.getElem?_map,List.getElem?_replicate,if_pos hkj];rfl
     obtain⟨g3,hA3,ck⟩:=(J3.r3 HJ.out).cell hx3;subst hA3;obtain⟨ycs,yt,yb,_⟩:=(J3.r3 HJ.out).2 g3 rfl;have yf:=Blk.frozen (t:=yt) (cs:=ycs) yb k;rw[hk]at m3;have HJ2:Hid (J3 w2 w2.heap.size #[.slice A1 j c1,.slice A2 j c2,.slice none 0 0,.slice none 0 0,.slice (some ⟨g3,0,none⟩) j c3] (.slice A1 j c1) (.slice A2 j c2) (.slice (some ⟨g3,0,none⟩) j c3) j j j ((d.map loD).map iw) ((d.map hiD).map iw) (((List.replicate j (0:Int)).set k (1)).map iw) false (.bool false) (.bool false) false (.bool false) (.bool false) false (.bool false) (.bool false) [] (wr.setCell ⟨g3,k,none⟩ (iw (1)))):=by
      show J3 _ _ _ _ _ _ _ _ _ _ _ _ _ _ _ _ _ _ _ _ _ _ _;rw[List.map_set];exact J3.setc HJ.out hkj rfl
     clear hst hgo hk hx3 yb;go_wp2_with fail;go_meet;rw[HST.out];exact⟨_,J3.rw0 (by rw[List.length_map];exact HN.out) (by rw[List.length_map];exact HN.out) (by rw[List.length_set,List.length_replicate]) HJ2.out,J3.bel HJ2.out⟩
    ·have d2:(m.ask==1)=false:=beq_false_of_ne k1;by_cases k2:m.ask=2
     ·have d3:(m.ask==2)=true:=beq_iff_eq.2 k2;obtain⟨k,hk,hkj⟩:=hgo (.inr k2);have HST:Hid (startP m d=⟨d.map loD,d.map hiD,[],[],(List.replicate j 0).set k (-1)⟩):=hst.trans (by congr 1;exact(by unfold costP;rw[if_neg k1,if_pos k2,hk];rfl));have hx3:((List.replicate j (0:Int)).map iw)[k]? =some (iw 0):=by
       rw[List.getElem?_map,List.getElem?_replicate,if_pos hkj];rfl
      obtain⟨g3,hA3,ck⟩:=(J3.r3 HJ.out).cell hx3;subst hA3;obtain⟨ycs,yt,yb,_⟩:=(J3.r3 HJ.out).2 g3 rfl;have yf:=Blk.frozen (t:=yt) (cs:=ycs) yb k;rw[hk]at m3;have HJ2:Hid (J3 w2 w2.heap.size #[.slice A1 j c1,.slice A2 j c2,.slice none 0 0,.slice none 0 0,.slice (some ⟨g3,0,none⟩) j c3] (.slice A1 j c1) (.slice A2 j c2) (.slice (some ⟨g3,0,none⟩) j c3) j j j ((d.map loD).map iw) ((d.map hiD).map iw) (((List.replicate j (0:Int)).set k (-1)).map iw) false (.bool false) (.bool false) false (.bool false) (.bool false) false (.bool false) (.bool false) [] (wr.setCell ⟨g3,k,none⟩ (iw (-1)))):=by
       show J3 _ _ _ _ _ _ _ _ _ _ _ _ _ _ _ _ _ _ _ _ _ _ _;rw[List.map_set];exact J3.setc HJ.out hkj rfl
      clear hst hgo hk hx3 yb;go_wp2_with fail;go_meet;rw[HST.out];exact⟨_,J3.rw0 (by rw[List.length_map];exact HN.out) (by rw[List.length_map];exact HN.out) (by rw[List.length_set,List.length_replicate]) HJ2.out,J3.bel HJ2.out⟩
     ·have d3:(m.ask==2)=false:=beq_false_of_ne k2;have HST:Hid (startP m d=⟨d.map loD,d.map hiD,[],[],List.replicate j 0⟩):=hst.trans (by unfold costP;rw[if_neg k1,if_neg k2]);clear hst hgo k1 k2;go_wp2_with fail;go_meet;rw[HST.out];exact⟨_,J3.rw0 (by rw[List.length_map];exact HN.out) (by rw[List.length_map];exact HN.out) List.length_replicate HJ.out,HQ.out⟩
   case rest=>
    clear HJ b0 b1 b2 b3 b4 m0 m1 m2 m3 HQ d1 hlt;obtain⟨mm0,hr0,hb0⟩:=hcut;have HR0:=ZH hr0;have HB0:=ZH hb0;clear hr0 hb0;obtain⟨m0,m1,m2,m3⟩:=((HMM.out.below HB0.out).k (i:=1) rfl).four;obtain⟨WC,hWC⟩:∃WC,WC=wc:=⟨_,rfl⟩;subst hWC;go_wp2_with fail;go_loopg [76] m.cons.length (fun kk pp wr=>∃(i:Nat)(mm:Pa),kk=m.cons.length-i∧i≤m.cons.length∧pp= .int .i64 (i:Nat)∧Hid (RwAt wr w2.heap.size w2.heap.size mm ((m.cons.take i).foldl conP (startP m d)))∧Hid (Below w2.heap.size w2 wr))
    case atStart=>exact⟨0,mm0,rfl,Nat.zero_le _,rfl,HR0.out,HB0.out⟩
    case round=>
     clear HR0 HB0 m0 m1 m2 m3;obtain⟨i,mm,hk2,hi,rfl,HR,HB⟩:=hrel;by_cases hlt:i<m.cons.length
     ·have d5:decide ((i:Int)<(m.cons.length:Int))=true:=dT (by omega);have HS:=ZH ((HM.out.cs.below (HQ2.out)).cr i hlt);obtain⟨gc,oc,hca,e0,e1,e2,e3⟩:=(HM.out.cs.below (bT HQ2.out HB.out)).at hlt;rw[hca];have HXA:=ZH hca;have HMY:=ZH (HG5.out (m.cons.getD i cn0) (getD_in hlt));have HF:Hid ((m.cons.take (i+1)).foldl conP (startP m d)=conP ((m.cons.take i).foldl conP (startP m d)) (m.cons.getD i cn0)):=take_fold hlt;have hrw:=HRW.out i;have hq1:((m.cons.take i).foldl conP (startP m d)).lo.length=j:=by
       rw[hrw.lo];show(d.map loD).length=j;rw[List.length_map];exact HN.out
      have hq2:((m.cons.take i).foldl conP (startP m d)).a.length≤900:=by
       have:=hrw.ak;rw[List.length_take]at this;omega
      have hq3:((m.cons.take i).foldl conP (startP m d)).b.length≤900:=by
       have:=hrw.ab;omega
      clear hca hrw;generalize m.cons.getD i cn0=cc at*;generalize a.xs.getD i ad0=xa at*;generalize a.as_.getD i ad0=aa at*;generalize (m.cons.take i).foldl conP (startP m d)=q at*;have M:=(Mem.start wr).new 69 (cnC xa aa cc);obtain⟨n0,n1,n2,n3⟩:=(M.k (i:=0) rfl).four;have HBW:=ZH (HB.out.trans (M.bel.mono HB.out.size));have HRR:=ZH (HR.out.below M.bel);go_wp2_with fail;refine(rwcon_any (w0:=w2) (doms:=d) HBW.out HS.out HRR.out HMY.out (hq1.trans HN.out.symm) (by omega) hq2 hq3).mono ?_;rintro e w7 ⟨rfl,q7,m7,h7,_⟩;have HR7:=ZH h7;have HB7:=ZH q7;rw[←HF.out]at HR7;clear h7 q7 n0 n1 n2 n3 e0 e1 e2 e3;go_wp2_with fail;rw[←HXA.out];go_roundg (m.cons.length-(i+1))
      case measure=>omega
      case rel=>exact⟨i+1,m7,rfl,by omega,by simp,HR7.out,HB7.out⟩
     ·have d5:decide ((i:Int)<(m.cons.length:Int))=false:=dF (by omega);have hR:=HR.out;rw[List.take_of_length_le (by omega),HP.out]at hR;have HR9:=ZH hR;have M:=HMM.out.below HB.out;obtain⟨b0,b1,b2,b3,b4⟩:=hR.hd.fiveP;clear hR;go_wp2_with ((with_reducible refine st_ ?_);refine wP2 _ _ (M.k (i:=0) rfl) rfl rfl rfl rfl info_pg5 rfl rfl ?_;intro w8 b8 g8);have HPG:=ZH (HR9.out.pgS (Stp.wrote (S:=fun x=>x=w.heap.size+1) ((M.k (i:=0) rfl).box rfl) g8 rfl) hgp);have HBE:=ZH (below_own M.bel g8 (Nat.le_succ _));obtain⟨f0,f1,f2,f3,f4⟩:=b8.fiveP;exact bodyPost_ret (v:= .tuple #[.agg (pgC mm P'),.int .i64 0]) (by simp[results,Tryz.results10,go_sem,f0,f1,f2,f3,f4]) rfl ⟨HBE.out,mm,rfl,HPG.out⟩
end Go.Proofs.YtecfcjdgmpopjaaGreat
