/-
  Joined texts: Rgn, Tl, Pn, Ps, Pt, Pu, Ve, Vf, Vg, Vh, Vi.
-/
import Derived.Test.YtjlhjabgclflcaaGreatDoorReg
import Derived.Test.YtjlhjabgclflcaaGreatDoorDat
import Derived.Test.YtjlhjabgclflcaaGreatDoorDab
import Derived.Test.YtjlhjabgclflcaaGreatDoorVa
import Derived.Test.YtjlhjabgclflcaaGreatDoorVd
set_option linter.unusedSimpArgs false
set_option linter.unusedVariables false
namespace Go.Proofs.YtjlhjabgclflcaaGreatDoor
open Go.RowKit
def StepG (I:(Nat→Bool)→(Nat→Value)→World→Prop) (ops:Array Oper) (Q:Exit→Act→World→Prop) (frame:(Nat→Value)→Act) (i:Nat) (o:Oper):Prop:=
 ∀(L:Nat→Bool) (s:Nat→Value) (w:World),Shut (∀j,needs o j=true→L j=true)→Shut (∀k o',ops[k]? =some o'→needs o' i=true→L k=false)→Shut (L i=false)→Shut (∀j o',ops[j]? =some o'→L j=true→∀k,needs o' k=true→L k=true)→I L s w→
  ∀K:Act→World→Prop,Shut (∀v w',I (upd L i true) (upd s i v) w'→K ((frame s).put o.dst v) w')→
   if Region.wanted o (yielded ops (frame s).tmps)=true then Oper.wp Tryz.prog o (frame s) w K Q else K ((frame s).put o.dst undef) w
theorem Shut.no {ops:Array Oper} {L:Nat→Bool} (hC:Shut (∀j o',ops[j]? =some o'→L j=true→∀k,needs o' k=true→L k=true)) (k j:Nat) {o:Oper} (ho:ops[k]? =some o) (hn:needs o j=true) (hj:L j=false):L k=false:=by
 rcases Bool.eq_false_or_eq_true (L k) with h|h
 ·have:=hC.out k o ho h j hn;rw[hj]at this;cases this
 ·exact h
theorem region_gen0 {id n:Nat} {ops:Array Oper} {a:Act} {w:World} {Q:Exit→Act→World→Prop} {frame:(Nat→Value)→Act} (I:(Nat→Bool)→(Nat→Value)→World→Prop) (hm:Tryz.prog.follows .mixedOrders=true) (hd:dstsOk ops.toList=true) (hb:backs 0 ops.toList=true) (hn:ops.size=n) (h0:I (fun _=>false) (fun k=>match (ops[k]?).bind (·.dst) with|some d=>a.tmps.getD d undef|none=>undef) w.drew) (hf:∀s,fr s a 0 ops.toList=frame s) (hstep:Steps (StepG I ops Q frame) 0 ops.toList) (hend:∀(L:Nat→Bool) (s:Nat→Value) (w':World),(∀j,j<n→L j=true)→I L s w'→Q .normal (frame s) w'):(Code.region id ops true).wp Tryz.prog Q a w:=by
 subst hn;refine region_inv hm (fun listed a' w'=>listed.size=ops.size∧(∀j o,ops[j]? =some o→listed.getD j false=true→∀i,needs o i=true→listed.getD i false=true)∧∃s,a'=frame s∧I (fun j=>listed.getD j false) s w') ?_ ?_ ?_
 ·have hL:∀j,(Array.replicate ops.size false).getD j false=false:=by
   intro j;rw[Array.getD_eq_getD_getElem?,Array.getElem?_replicate];split<;>rfl
  have hno:∀j,(Array.replicate ops.size false).getD j false=true→False:=fun j h=>by
   rw[hL j]at h;cases h
  have hL':(fun j=>(Array.replicate ops.size false).getD j false)=fun _=>false:=funext hL;refine And.intro (by simp) (And.intro (fun j o ho hj=>(hno j hj).elim) ⟨fun k=>match (ops[k]?).bind (·.dst) with|some d=>a.tmps.getD d undef|none=>undef,?_,by rw[hL'];exact h0⟩);rw[←hf];refine (fr_start ops.toList a 0 ?_).symm;intro j o hj x hx;have hj':ops[j]? =some o:=by simpa using hj
  simp only[Nat.zero_add,hj',Option.bind_some,hx]
 ·rintro listed a' w' i hi ⟨hsz,hcl,s,rfl,hS⟩;have hlf:=ready_false hi;unfold Region.ready at hi;rw[List.mem_filter]at hi;obtain ⟨hi1,hi2⟩:=hi;have hlt:i<ops.size:=List.mem_range.1 hi1;have ho:ops[i]? =some ops[i]:=Array.getElem?_eq_getElem hlt;generalize ops[i]=o at ho;rw[Bool.and_eq_true,ho]at hi2;have hi3:(o.after.all fun e=> !Region.binds .any e||listed.getD e.on false)=true:=hi2.2;rw[Array.all_eq_true_iff_forall_mem]at hi3;have hneed:∀j,needs o j=true→listed.getD j false=true:=by
   intro j hj;unfold needs at hj;rw[List.any_eq_true]at hj;obtain ⟨e,he,h2⟩:=hj;rw[Bool.and_eq_true]at h2;have h3:=hi3 e (Array.mem_toList_iff.1 he);rw[h2.2]at h3;have h4:e.on=j:=by simpa using h2.1
   rw[h4]at h3;simpa using h3
  have hli:listed.getD i false=false:=by rw[Array.getD_eq_getD_getElem?,hlf];rfl
  have hset:∀j,(listed.setIfInBounds i true).getD j false=upd (fun j=>listed.getD j false) i true j:=by
   intro j;rw[Array.getD_eq_getD_getElem?,Array.getElem?_setIfInBounds];by_cases e:i=j
   ·subst e;rw[upd_same];simp[hsz,hlt]
   ·rw[upd_ne _ _ (fun e2=>e e2.symm)];simp[e,Array.getD_eq_getD_getElem?]
  refine wpOp_step ho (fun K hK=> ?_);have hst:=Steps.at_ ops.toList 0 hstep i o (by simpa using ho);rw[Nat.zero_add]at hst;refine hst (fun j=>listed.getD j false) s w' hneed ?_ hli hcl hS K ?_
  ·intro k o' hk hn';rcases Bool.eq_false_or_eq_true (listed.getD k false) with hk2|hk2
   ·have:=hcl k o' hk hk2 i hn';rw[hli]at this;cases this
   ·exact hk2
  ·intro v w'' hS';refine hK _ _ ⟨by simpa using hsz,?_,upd s i v,?_,?_⟩
   ·intro j o' ho' hj i' hi';rw[hset]at hj⊢;by_cases e:j=i
    ·subst e;obtain rfl:o=o':=by rw[ho]at ho';exact Option.some.inj ho'
     by_cases e2:i'=j
     ·subst e2;exact upd_same _ _ _
     ·rw[upd_ne _ _ e2];exact hneed i' hi'
    ·rw[upd_ne _ _ e]at hj;by_cases e2:i'=i
     ·subst e2;exact upd_same _ _ _
     ·rw[upd_ne _ _ e2];exact hcl j o' ho' hj i' hi'
   ·rw[←hf,←hf];exact (fr_upd ops.toList a 0 i o hd (Nat.zero_le _) (by simpa using ho)).symm
   ·have:(fun j=>(listed.setIfInBounds i true).getD j false)=upd (fun j=>listed.getD j false) i true:=funext hset;rw[this];exact hS'
 ·rintro listed a' w' hr ⟨hsz,hcl,s,rfl,hS⟩;refine hend _ s w' ?_ hS;intro j;induction j using Nat.strongRecOn with
  |_ j ih=>
   intro hj;rcases Bool.eq_false_or_eq_true (listed.getD j false) with h|h
   ·exact h
   ·exfalso;have ho:ops[j]? =some ops[j]:=Array.getElem?_eq_getElem hj;generalize ops[j]=o at ho;have:j∈Region.ready .any ops listed:=by
     unfold Region.ready;rw[List.mem_filter];refine ⟨List.mem_range.2 hj,?_⟩;rw[Bool.and_eq_true,ho];refine ⟨?_,?_⟩
     ·have hj2:j<listed.size:=by rw[hsz];exact hj
      rw[Array.getD_eq_getD_getElem?,Array.getElem?_eq_getElem hj2]at h⊢;simp at h⊢;exact h
     ·show (o.after.all fun e=> !Region.binds .any e||listed.getD e.on false)=true;rw[Array.all_eq_true_iff_forall_mem];intro e he;rcases Bool.eq_false_or_eq_true (Region.binds .any e) with hb2|hb2
      ·have hlt:=backs_spec ops.toList 0 hb j o (by simpa using ho) e he hb2;rw[Nat.zero_add]at hlt;rw[ih e.on hlt (Nat.lt_trans hlt hj)];simp
      ·rw[hb2];rfl
    rw[hr]at this;cases this
theorem region_gen {id n:Nat} {ops:Array Oper} {a:Act} {w:World} {Q:Exit→Act→World→Prop} {frame:(Nat→Value)→Act} (I:(Nat→Bool)→(Nat→Value)→World→Prop)
 (hm:Tryz.prog.follows .mixedOrders=true) (hd:dstsOk ops.toList=true) (hb:backs 0 ops.toList=true) (hn:ops.size=n) (h0:∀s,I (fun _=>false) s w.drew)
 (hf:∀s,fr s a 0 ops.toList=frame s)
 (hstep:Steps (StepG I ops Q frame) 0 ops.toList)
 (hend:∀(L:Nat→Bool) (s:Nat→Value) (w':World),(∀j,j<n→L j=true)→I L s w'→Q .normal (frame s) w'):
 (Code.region id ops true).wp Tryz.prog Q a w:=region_gen0 I hm hd hb hn (h0 _) hf hstep hend
theorem Lay.wp_app1 {α:Type} (L:Lay α) {P:Program} {o:Oper} {a:Act} {Q:Exit→Act→World→Prop} (s x:Operand) (w:World) (base:Nat) (v:Value) (l:List α) (y:α) (news:Array Value) {N sl bytes:Nat} {z:Value} (hN:N=w.heap.size) (hu:P.underlying sl=some (.slice L.ty)) (hinfo:(P.info? L.ty).map (fun i=>(i.zero,i.size,i.bytes))=some (some z,L.sz,bytes)) (hz:z.cells.size=L.sz) (hpos:0<L.sz) (hbt:bytes≤1000) (hown:L.own base w v l) (hb:base≤w.heap.size) (hlen:l.length≤1000000) (hnl:news.size=L.sz) (hn1:news.toList.all (·.oneCell')=true) (hnew:∀k,k<L.sz→∃x,news.toList[k]? =some x∧(L.C k).P (inF base w v) w x y) (ho:o.op= .call {callee:= .builtin .append,args:= #[s,x],argTypes:= #[sl,sl]}) (hs:a.eval s=v) (hx:a.eval x= .slice (some ⟨N,0,none⟩) 1 1) {KK:Act→World→Prop} (K:∀v' w',L.own base w' v' (l++[y])→w.grownBy w' v.ownBlock→Below base w w'→(v'.ownBlock=v.ownBlock∨∀g,v'.ownBlock=some g→w.heap.size≤g)→KK (a.put o.dst v') w'):o.wp P a (w.alloc (.cells news L.ty)) KK Q:=by
 subst hN;obtain ⟨xs,h1,h1',h2⟩:=hown;obtain ⟨i0,hi,hz0,hz1,hz2⟩:=info_parts hinfo;have hsz:(w.alloc (.cells news L.ty)).heap.size=w.heap.size+1:=by simp
 have hk:=Blk.new w L.ty news;obtain ⟨v',w',hr,r1,r2,_,r3⟩:=run_append_own_at (P:=P) (w.alloc (.cells news L.ty)) base sl o.type L.ty i0 z L.sz bytes hu hi hz0 hz1 hz2 hz hpos v l.length xs (World.ownsRow.alloc h1 _) ⟨w.heap.size,0,none⟩ 1 1 news.toList (by simpa using hnl)
  (by
   intro j u hj;rw[show (⟨w.heap.size,0,none⟩:Addr).add j=⟨w.heap.size,j,none⟩ by simp[Addr.add];exact fun e=>e.symm,hk.cell j,←hj];simp)
  (fun u hu=>List.all_eq_true.1 hn1 u hu) (by unfold maxLen;omega) (Nat.le_trans (Nat.mul_le_mul_left _ hbt) (by omega)) (by rw[hsz];omega)
 unfold Oper.wp execOp;simp only[ho,resolve,invoke,builtin,Sem.run_bind,Sem.run_pure,Result.andThen_ok,List.map_toArray,List.map_cons,List.map_nil,hs,hx,hr];have hg:w.grownBy w' v.ownBlock:=⟨r2.os,r2.tape,r2.output,by have:=r2.size;rw[hsz]at this;omega,fun k hk hne=>by
  rw[r2.block k (by rw[hsz];omega) hne];exact Below.heap_alloc w _ k hk⟩
 have hat:v'.ownBlock=v.ownBlock∨∀g,v'.ownBlock=some g→w.heap.size≤g:=by
  rcases r3 with r3|r3
  ·exact Or.inl r3
  ·refine Or.inr fun g e=> ?_;rw[r3,hsz]at e;injection e with e;omega
 have hF:∀b,inF base w v b→inF base w' v' b:=fun b hb=>⟨hb.1,Nat.lt_of_lt_of_le hb.2.1 hg.size,fun e=>by
  rcases hat with e2|e2
  ·exact hb.2.2 (e2.symm.trans e)
  ·have:=e2 b e;have:=hb.2.1;omega⟩
 have hup:∀(k:Nat) (u:Value) (t:α),(L.C k).P (inF base w v) w u t→(L.C k).P (inF base w' v') w' u t:=fun k u t h=>
  (L.C k).mono hF ((L.C k).grown h hg fun b hb e=>hb.2.2 e.symm)
 refine K v' w' ⟨xs++news.toList,by rw[List.length_append];exact r1,fun u hu=> ?_,fun j hj k hk=> ?_⟩ hg ((Below.refl base w).grown hg hb (fun k hk=>(World.ownsRow.lt h1 k hk).1)) hat
 ·rcases List.mem_append.1 hu with hu|hu
  ·exact h1' u hu
  ·exact List.all_eq_true.1 hn1 u hu
 ·have hxl:xs.length=l.length*L.sz:=h1.1;by_cases hjl:j<l.length
  ·obtain ⟨u,hu,hp⟩:=h2 j hjl k hk;refine ⟨u,?_,?_⟩
   ·rw[List.getElem?_append_left (by
     have:(j+1)*L.sz≤l.length*L.sz:=Nat.mul_le_mul_right _ hjl;rw[Nat.add_mul,Nat.one_mul]at this;omega)]
    exact hu
   ·rw[List.getElem_append_left hjl];exact hup k u _ hp
  ·have hj2:j=l.length:=by rw[List.length_append,List.length_singleton]at hj;omega
   subst hj2;obtain ⟨u,hu,hp⟩:=hnew k hk;refine ⟨u,?_,?_⟩
   ·rw[List.getElem?_append_right (by omega),hxl,Nat.add_sub_cancel_left];exact hu
   ·simp only[List.getElem_append_right (Nat.le_refl _),Nat.sub_self,List.getElem_singleton];exact hup k u _ hp
theorem no_f {p:Prop} (h:false=true):p:=by cases h
theorem no_t {p:Prop} (h:true=false):p:=by cases h
end Go.Proofs.YtjlhjabgclflcaaGreatDoor
set_option linter.unusedSimpArgs false
set_option linter.unusedVariables false
namespace Go.Proofs.YtjlhjabgclflcaaGreatDoor
open Go.RowKit Num
theorem info_str:(Tryz.prog.info? 9).map (fun i=>(i.zero,i.size,i.bytes))=some (some (.string ⟨#[]⟩),1,16):=by kernel_rfl
def OwnS (w:World) (base:Nat) (v:Value) (ts:List ByteArray):Prop:=w.ownsRow base 9 1 v ts.length (ts.map .string)
theorem wp_appS {ops:Array Oper} {rest:List Oper} {o:Oper} {a:Act} {Q:Exit→Act→World→Prop} (s x:Operand) (w:World) (base:Nat) (v:Value) (l:List ByteArray) (t:ByteArray) {N:Nat} (hN:N=w.heap.size) (hown:OwnS w base v l) (hb:base≤w.heap.size) (hlen:l.length≤1000000) (hgd:o.guard=none) (ho:o.op= .call {callee:= .builtin .append,args:= #[s,x],argTypes:= #[71,71]}) (hs:a.eval s=v) (hx:a.eval x= .slice (some ⟨N,0,none⟩) 1 1) (K:∀v' w',OwnS w' base v' (l++[t])→w.grownBy w' v.ownBlock→Below base w w'→wpList Tryz.prog ops Q rest (a.put o.dst v') w'):wpList Tryz.prog ops Q (o::rest) a (w.alloc (.cells #[.string t] 9)):=by
 subst hN;obtain ⟨i0,hi,hz0,hz1,hz2⟩:=info_parts info_str;have hsz:(w.alloc (.cells #[.string t] 9)).heap.size=w.heap.size+1:=by simp
 have hk:=Blk.new w 9 #[.string t];refine wpList_append_own _ hgd s x 71 ho base 9 i0 _ 1 16 Tryz.underlying71 hi hz0 hz1 hz2 rfl (by decide) v l.length (l.map .string) hs (World.ownsRow.alloc hown _) ⟨w.heap.size,0,none⟩ 1 1 [.string t] hx rfl
  ?_ ?_ ?_ ?_ ?_ ?_
 ·intro j y hj;rw[show (⟨w.heap.size,0,none⟩:Addr).add j=⟨w.heap.size,j,none⟩ by simp[Addr.add];exact fun e=>e.symm];rw[hk.cell j];rw[←hj];simp
 ·intro y hy;simp only[List.mem_cons,List.not_mem_nil,or_false]at hy;subst hy;rfl
 ·unfold maxLen;omega
 ·omega
 ·rw[hsz];omega
 ·intro v' w' h1 h2 _;have hg:w.grownBy w' v.ownBlock:=⟨h2.os,h2.tape,h2.output,by have:=h2.size;rw[hsz]at this;omega,fun k hk hne=>by
   rw[h2.block k (by rw[hsz];omega) hne];exact Below.heap_alloc w _ k hk⟩
  refine K v' w' ?_ hg ?_
  ·unfold OwnS;rw[List.map_append,List.length_append];exact h1
  ·refine (Below.refl base w).grown hg hb (fun k hk=>(World.ownsRow.lt hown k hk).1)
end Go.Proofs.YtjlhjabgclflcaaGreatDoor
set_option linter.unusedSimpArgs false
set_option linter.unusedVariables false
namespace Go.Proofs.YtjlhjabgclflcaaGreatDoor
open Go.RowKit Num
def Ex0.flat (y:Ex0):Ex0:=⟨y.k,y.n,y.s,if y.m=0 then 0 else 1⟩
def Ex.flat (x:Ex):Ex:=⟨x.k,x.n,x.s,x.l.map Ex0.flat⟩
def It.flat (x:It):It:=⟨x.k,x.name,x.bool,x.dom,x.size,x.out,x.vals.map Ex.flat,x.ask⟩
theorem row_e0 {ty:TypeId} {F:Nat→Prop} {w:World} {A:Option Addr} {n c:Nat} {l:List Ex0} (h:(layE0 ty).row.P F w (.slice A n c) l) (hn:l≠[]):∃b o,A=some ⟨b,o,none⟩∧b<w.heap.size∧∀j (hj:j<l.length),w.cell? ⟨b,o+j*4,none⟩=some (.int .i64 l[j].k)∧w.cell? ⟨b,o+j*4+1,none⟩=some (.int .i64 l[j].n)∧w.cell? ⟨b,o+j*4+2,none⟩=some (.string ⟨l[j].s.toArray⟩)∧∃A3 c3,w.cell? ⟨b,o+j*4+3,none⟩=some (.slice A3 l[j].m c3):=by
 obtain ⟨A',c',h1,h2,h3,h4⟩:=h;obtain ⟨b,o,h5,h6,h7,h8⟩:=h4 hn;injection h1 with e1 _ _;subst e1;refine ⟨b,o,h5,h7,fun j hj=> ?_⟩;obtain ⟨u0,k0,p0⟩:=h8 j hj 0 (by show 0<4;omega);obtain ⟨u1,k1,p1⟩:=h8 j hj 1 (by show 1<4;omega);obtain ⟨u2,k2,p2⟩:=h8 j hj 2 (by show 2<4;omega);obtain ⟨u3,k3,p3⟩:=h8 j hj 3 (by show 3<4;omega);have p0':u0= .int .i64 l[j].k:=p0;have p1':u1= .int .i64 l[j].n:=p1;have p2':u2= .string ⟨l[j].s.toArray⟩:=p2;obtain ⟨A3,c3,p3'⟩:=p3;subst p0' p1' p2' p3';exact ⟨k0,k1,k2,A3,c3,k3⟩
theorem row_ex {ty:TypeId} {F:Nat→Prop} {w:World} {A:Option Addr} {n c:Nat} {l:List Ex} (h:(layE ty).row.P F w (.slice A n c) l) (hn:l≠[]):∃b o,A=some ⟨b,o,none⟩∧b<w.heap.size∧∀j (hj:j<l.length),w.cell? ⟨b,o+j*4,none⟩=some (.int .i64 l[j].k)∧w.cell? ⟨b,o+j*4+1,none⟩=some (.int .i64 l[j].n)∧w.cell? ⟨b,o+j*4+2,none⟩=some (.string ⟨l[j].s.toArray⟩)∧∃A3 c3,w.cell? ⟨b,o+j*4+3,none⟩=some (.slice A3 l[j].l.length c3)∧(layE0 ty).row.P F w (.slice A3 l[j].l.length c3) l[j].l:=by
 obtain ⟨A',c',h1,h2,h3,h4⟩:=h;obtain ⟨b,o,h5,h6,h7,h8⟩:=h4 hn;injection h1 with e1 _ _;subst e1;refine ⟨b,o,h5,h7,fun j hj=> ?_⟩;obtain ⟨u0,k0,p0⟩:=h8 j hj 0 (by show 0<4;omega);obtain ⟨u1,k1,p1⟩:=h8 j hj 1 (by show 1<4;omega);obtain ⟨u2,k2,p2⟩:=h8 j hj 2 (by show 2<4;omega);obtain ⟨u3,k3,p3⟩:=h8 j hj 3 (by show 3<4;omega);have p0':u0= .int .i64 l[j].k:=p0;have p1':u1= .int .i64 l[j].n:=p1;have p2':u2= .string ⟨l[j].s.toArray⟩:=p2;have p3':(layE0 ty).row.P F w u3 l[j].l:=p3;obtain ⟨A3,c3,e3⟩:=Lay.row_len p3';subst p0' p1' p2' e3;exact ⟨k0,k1,k2,A3,c3,k3,p3'⟩
theorem ne_bool {a b:Int} (h:a≠b):(a !=b)=true:=by simpa using h
theorem lt_ne {α:Type} {l:List α} {j:Nat} (h:j<l.length):l≠[]:=by
 rintro rfl;exact absurd h (Nat.not_lt_zero _)
def Dt.at_ {α:Type} (D:Dt α) (w0:World) (S:Nat→Prop):Dt α:=⟨fun _ _ v a=>D.P S w0 v a,fun _ h=>h,fun _ _ h=>h⟩
end Go.Proofs.YtjlhjabgclflcaaGreatDoor
set_option linter.unusedSimpArgs false
set_option linter.unusedVariables false
namespace Go.Proofs.YtjlhjabgclflcaaGreatDoor
open Go.RowKit Num
end Go.Proofs.YtjlhjabgclflcaaGreatDoor
set_option linter.unusedSimpArgs false
set_option linter.unusedVariables false
namespace Go.Proofs.YtjlhjabgclflcaaGreatDoor
open Go.RowKit Num
theorem row_rg {F:Nat→Prop} {w:World} {A:Option Addr} {n c:Nat} {l:List (Int×Int)} (h:layR.row.P F w (.slice A n c) l) (hn:l≠[]):∃b o,A=some ⟨b,o,none⟩∧b<w.heap.size∧∀j (hj:j<l.length),w.cell? ⟨b,o+j*2,none⟩=some (.int .i64 l[j].1)∧w.cell? ⟨b,o+j*2+1,none⟩=some (.int .i64 l[j].2):=by
 obtain ⟨A',c',h1,h2,h3,h4⟩:=h;obtain ⟨b,o,h5,h6,h7,h8⟩:=h4 hn;injection h1 with e1 _ _;subst e1;refine ⟨b,o,h5,h7,fun j hj=> ?_⟩;obtain ⟨u0,k0,p0⟩:=h8 j hj 0 (by show 0<2;omega);obtain ⟨u1,k1,p1⟩:=h8 j hj 1 (by show 1<2;omega);have p0':u0= .int .i64 l[j].1:=p0;have p1':u1= .int .i64 l[j].2:=p1;subst p0' p1';exact ⟨k0,k1⟩
end Go.Proofs.YtjlhjabgclflcaaGreatDoor
set_option linter.unusedSimpArgs false
set_option linter.unusedVariables false
namespace Go.Proofs.YtjlhjabgclflcaaGreatDoor
def LowE (x:Ex):Prop:=x.l.length≤64∧∀y∈x.l,y.m=0
def LowI (x:It):Prop:=x.dom.length≤256∧x.vals.length≤64∧∀y∈x.vals,LowE y
theorem LowE.flat {x:Ex} (h:LowE x):x.flat=x:=by
 obtain ⟨k,n,s,l⟩:=x;show Ex.mk k n s (l.map Ex0.flat)=_;congr 1;have h2:∀y∈l,Ex0.flat y=y:=fun y hy=>by
  obtain ⟨a,b,c,m⟩:=y;have:m=0:=h.2 _ hy;subst this;rfl
 rw[List.map_congr_left h2,List.map_id']
theorem LowI.flat {x:It} (h:LowI x):x.flat=x:=by
 obtain ⟨k,nm,b,d,z,o,v,a⟩:=x;show It.mk k nm b d z o (v.map Ex.flat) a=_;congr 1;rw[List.map_congr_left fun y hy=>(h.2.2 y hy).flat,List.map_id']
theorem LowI.few {l:List It} (h:∀x∈l,LowI x):∀x∈l,x.vals.length≤10000∧∀y∈x.vals,y.l.length≤10000:=fun x hx=>⟨by have:=(h x hx).2.1;omega,fun y hy=>by have:=((h x hx).2.2 y hy).1;omega⟩
end Go.Proofs.YtjlhjabgclflcaaGreatDoor
set_option linter.unusedSimpArgs false
set_option linter.unusedVariables false
namespace Go.Proofs.YtjlhjabgclflcaaGreatDoor
theorem tx_eq {p:TX} (h:p.2=true):p=(p.1,true):=by rw[←h]
def RngE (x:Ex):Prop:=I64 x.n∧∀y∈x.l,I64 y.n
def RngI (x:It):Prop:=I64 x.size∧(∀r∈x.dom,I64 r.1∧I64 r.2)∧∀y∈x.vals,RngE y
def plainT (x:Ex):List T3:=[plain0T x.low]
def up (y:Ex0):Ex:=⟨y.k,y.n,y.s,[]⟩
end Go.Proofs.YtjlhjabgclflcaaGreatDoor
set_option linter.unusedSimpArgs false
set_option linter.unusedVariables false
namespace Go.Proofs.YtjlhjabgclflcaaGreatDoor
def V (x:It):List T3:=inter aComma (x.vals.map plainT)
end Go.Proofs.YtjlhjabgclflcaaGreatDoor
set_option linter.unusedSimpArgs false
set_option linter.unusedVariables false
namespace Go.Proofs.YtjlhjabgclflcaaGreatDoor
end Go.Proofs.YtjlhjabgclflcaaGreatDoor
set_option linter.unusedSimpArgs false
set_option linter.unusedVariables false
namespace Go.Proofs.YtjlhjabgclflcaaGreatDoor
end Go.Proofs.YtjlhjabgclflcaaGreatDoor
set_option linter.unusedSimpArgs false
set_option linter.unusedVariables false
namespace Go.Proofs.YtjlhjabgclflcaaGreatDoor
end Go.Proofs.YtjlhjabgclflcaaGreatDoor
