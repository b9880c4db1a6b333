/-
  Joined texts: Rgn, Tl, Pn.
-/
import Derived.Test.YtpfhgkielakmoaaGreatDoorReg
import Derived.Test.YtpfhgkielakmoaaGreatDoorDat
import Derived.Test.YtpfhgkielakmoaaGreatDoorDab
set_option linter.unusedSimpArgs false
set_option linter.unusedVariables false
namespace Go.Proofs.YtpfhgkielakmoaaGreatDoor
open Go.RowKit
def StepG (I:(Nat→Bool)→(Nat→Value)→World→Prop) (ops:Array Oper) (Q:Exit→Act→World→Prop) (frame:(Nat→Value)→Act) (i:Nat) (o:Oper):Prop:=
 ∀(L:Nat→Bool) (s:Nat→Value) (w:World),Shut (∀j,needs o j=true→L j=true)→Shut (∀k o',ops[k]? =some o'→needs o' i=true→L k=false)→Shut (L i=false)→Shut (∀j o',ops[j]? =some o'→L j=true→∀k,needs o' k=true→L k=true)→I L s w→
  ∀K:Act→World→Prop,Shut (∀v w',I (upd L i true) (upd s i v) w'→K ((frame s).put o.dst v) w')→
   if Region.wanted o (yielded ops (frame s).tmps)=true then Oper.wp Tryz.prog o (frame s) w K Q else K ((frame s).put o.dst undef) w
theorem Shut.no {ops:Array Oper} {L:Nat→Bool} (hC:Shut (∀j o',ops[j]? =some o'→L j=true→∀k,needs o' k=true→L k=true)) (k j:Nat) {o:Oper} (ho:ops[k]? =some o) (hn:needs o j=true) (hj:L j=false):L k=false:=by
 rcases Bool.eq_false_or_eq_true (L k) with h|h
 ·have:=hC.out k o ho h j hn;rw[hj]at this;cases this
 ·exact h
theorem region_gen0 {id n:Nat} {ops:Array Oper} {a:Act} {w:World} {Q:Exit→Act→World→Prop} {frame:(Nat→Value)→Act} (I:(Nat→Bool)→(Nat→Value)→World→Prop) (hm:Tryz.prog.follows .mixedOrders=true) (hd:dstsOk ops.toList=true) (hb:backs 0 ops.toList=true) (hn:ops.size=n) (h0:I (fun _=>false) (fun k=>match (ops[k]?).bind (·.dst) with|some d=>a.tmps.getD d undef|none=>undef) w.drew) (hf:∀s,fr s a 0 ops.toList=frame s) (hstep:Steps (StepG I ops Q frame) 0 ops.toList) (hend:∀(L:Nat→Bool) (s:Nat→Value) (w':World),(∀j,j<n→L j=true)→I L s w'→Q .normal (frame s) w'):(Code.region id ops true).wp Tryz.prog Q a w:=by
 subst hn;refine region_inv hm (fun listed a' w'=>listed.size=ops.size∧(∀j o,ops[j]? =some o→listed.getD j false=true→∀i,needs o i=true→listed.getD i false=true)∧∃s,a'=frame s∧I (fun j=>listed.getD j false) s w') ?_ ?_ ?_
 ·have hL:∀j,(Array.replicate ops.size false).getD j false=false:=by
   intro j;rw[Array.getD_eq_getD_getElem?,Array.getElem?_replicate];split<;>rfl
  have hno:∀j,(Array.replicate ops.size false).getD j false=true→False:=fun j h=>by
   rw[hL j]at h;cases h
  have hL':(fun j=>(Array.replicate ops.size false).getD j false)=fun _=>false:=funext hL;refine And.intro (by simp) (And.intro (fun j o ho hj=>(hno j hj).elim) ⟨fun k=>match (ops[k]?).bind (·.dst) with|some d=>a.tmps.getD d undef|none=>undef,?_,by rw[hL'];exact h0⟩);rw[←hf];refine (fr_start ops.toList a 0 ?_).symm;intro j o hj x hx;have hj':ops[j]? =some o:=by simpa using hj
  simp only[Nat.zero_add,hj',Option.bind_some,hx]
 ·rintro listed a' w' i hi ⟨hsz,hcl,s,rfl,hS⟩;have hlf:=ready_false hi;unfold Region.ready at hi;rw[List.mem_filter]at hi;obtain ⟨hi1,hi2⟩:=hi;have hlt:i<ops.size:=List.mem_range.1 hi1;have ho:ops[i]? =some ops[i]:=Array.getElem?_eq_getElem hlt;generalize ops[i]=o at ho;rw[Bool.and_eq_true,ho]at hi2;have hi3:(o.after.all fun e=> !Region.binds .any e||listed.getD e.on false)=true:=hi2.2;rw[Array.all_eq_true_iff_forall_mem]at hi3;have hneed:∀j,needs o j=true→listed.getD j false=true:=by
   intro j hj;unfold needs at hj;rw[List.any_eq_true]at hj;obtain ⟨e,he,h2⟩:=hj;rw[Bool.and_eq_true]at h2;have h3:=hi3 e (Array.mem_toList_iff.1 he);rw[h2.2]at h3;have h4:e.on=j:=by simpa using h2.1
   rw[h4]at h3;simpa using h3
  have hli:listed.getD i false=false:=by rw[Array.getD_eq_getD_getElem?,hlf];rfl
  have hset:∀j,(listed.setIfInBounds i true).getD j false=upd (fun j=>listed.getD j false) i true j:=by
   intro j;rw[Array.getD_eq_getD_getElem?,Array.getElem?_setIfInBounds];by_cases e:i=j
   ·subst e;rw[upd_same];simp[hsz,hlt]
   ·rw[upd_ne _ _ (fun e2=>e e2.symm)];simp[e,Array.getD_eq_getD_getElem?]
  refine wpOp_step ho (fun K hK=> ?_);have hst:=Steps.at_ ops.toList 0 hstep i o (by simpa using ho);rw[Nat.zero_add]at hst;refine hst (fun j=>listed.getD j false) s w' hneed ?_ hli hcl hS K ?_
  ·intro k o' hk hn';rcases Bool.eq_false_or_eq_true (listed.getD k false) with hk2|hk2
   ·have:=hcl k o' hk hk2 i hn';rw[hli]at this;cases this
   ·exact hk2
  ·intro v w'' hS';refine hK _ _ ⟨by simpa using hsz,?_,upd s i v,?_,?_⟩
   ·intro j o' ho' hj i' hi';rw[hset]at hj⊢;by_cases e:j=i
    ·subst e;obtain rfl:o=o':=by rw[ho]at ho';exact Option.some.inj ho'
     by_cases e2:i'=j
     ·subst e2;exact upd_same _ _ _
     ·rw[upd_ne _ _ e2];exact hneed i' hi'
    ·rw[upd_ne _ _ e]at hj;by_cases e2:i'=i
     ·subst e2;exact upd_same _ _ _
     ·rw[upd_ne _ _ e2];exact hcl j o' ho' hj i' hi'
   ·rw[←hf,←hf];exact (fr_upd ops.toList a 0 i o hd (Nat.zero_le _) (by simpa using ho)).symm
   ·have:(fun j=>(listed.setIfInBounds i true).getD j false)=upd (fun j=>listed.getD j false) i true:=funext hset;rw[this];exact hS'
 ·rintro listed a' w' hr ⟨hsz,hcl,s,rfl,hS⟩;refine hend _ s w' ?_ hS;intro j;induction j using Nat.strongRecOn with
  |_ j ih=>
   intro hj;rcases Bool.eq_false_or_eq_true (listed.getD j false) with h|h
   ·exact h
   ·exfalso;have ho:ops[j]? =some ops[j]:=Array.getElem?_eq_getElem hj;generalize ops[j]=o at ho;have:j∈Region.ready .any ops listed:=by
     unfold Region.ready;rw[List.mem_filter];refine ⟨List.mem_range.2 hj,?_⟩;rw[Bool.and_eq_true,ho];refine ⟨?_,?_⟩
     ·have hj2:j<listed.size:=by rw[hsz];exact hj
      rw[Array.getD_eq_getD_getElem?,Array.getElem?_eq_getElem hj2]at h⊢;simp at h⊢;exact h
     ·show (o.after.all fun e=> !Region.binds .any e||listed.getD e.on false)=true;rw[Array.all_eq_true_iff_forall_mem];intro e he;rcases Bool.eq_false_or_eq_true (Region.binds .any e) with hb2|hb2
      ·have hlt:=backs_spec ops.toList 0 hb j o (by simpa using ho) e he hb2;rw[Nat.zero_add]at hlt;rw[ih e.on hlt (Nat.lt_trans hlt hj)];simp
      ·rw[hb2];rfl
    rw[hr]at this;cases this
theorem region_gen {id n:Nat} {ops:Array Oper} {a:Act} {w:World} {Q:Exit→Act→World→Prop} {frame:(Nat→Value)→Act} (I:(Nat→Bool)→(Nat→Value)→World→Prop)
 (hm:Tryz.prog.follows .mixedOrders=true) (hd:dstsOk ops.toList=true) (hb:backs 0 ops.toList=true) (hn:ops.size=n) (h0:∀s,I (fun _=>false) s w.drew)
 (hf:∀s,fr s a 0 ops.toList=frame s)
 (hstep:Steps (StepG I ops Q frame) 0 ops.toList)
 (hend:∀(L:Nat→Bool) (s:Nat→Value) (w':World),(∀j,j<n→L j=true)→I L s w'→Q .normal (frame s) w'):
 (Code.region id ops true).wp Tryz.prog Q a w:=region_gen0 I hm hd hb hn (h0 _) hf hstep hend
theorem Lay.wp_app1 {α:Type} (L:Lay α) {P:Program} {o:Oper} {a:Act} {Q:Exit→Act→World→Prop} (s x:Operand) (w:World) (base:Nat) (v:Value) (l:List α) (y:α) (news:Array Value) {N sl bytes:Nat} {z:Value} (hN:N=w.heap.size) (hu:P.underlying sl=some (.slice L.ty)) (hinfo:(P.info? L.ty).map (fun i=>(i.zero,i.size,i.bytes))=some (some z,L.sz,bytes)) (hz:z.cells.size=L.sz) (hpos:0<L.sz) (hbt:bytes≤1000) (hown:L.own base w v l) (hb:base≤w.heap.size) (hlen:l.length≤1000000) (hnl:news.size=L.sz) (hn1:news.toList.all (·.oneCell')=true) (hnew:∀k,k<L.sz→∃x,news.toList[k]? =some x∧(L.C k).P (inF base w v) w x y) (ho:o.op= .call {callee:= .builtin .append,args:= #[s,x],argTypes:= #[sl,sl]}) (hs:a.eval s=v) (hx:a.eval x= .slice (some ⟨N,0,none⟩) 1 1) {KK:Act→World→Prop} (K:∀v' w',L.own base w' v' (l++[y])→w.grownBy w' v.ownBlock→Below base w w'→(v'.ownBlock=v.ownBlock∨∀g,v'.ownBlock=some g→w.heap.size≤g)→KK (a.put o.dst v') w'):o.wp P a (w.alloc (.cells news L.ty)) KK Q:=by
 subst hN;obtain ⟨xs,h1,h1',h2⟩:=hown;obtain ⟨i0,hi,hz0,hz1,hz2⟩:=info_parts hinfo;have hsz:(w.alloc (.cells news L.ty)).heap.size=w.heap.size+1:=by simp
 have hk:=Blk.new w L.ty news;obtain ⟨v',w',hr,r1,r2,_,r3⟩:=run_append_own_at (P:=P) (w.alloc (.cells news L.ty)) base sl o.type L.ty i0 z L.sz bytes hu hi hz0 hz1 hz2 hz hpos v l.length xs (World.ownsRow.alloc h1 _) ⟨w.heap.size,0,none⟩ 1 1 news.toList (by simpa using hnl)
  (by
   intro j u hj;rw[show (⟨w.heap.size,0,none⟩:Addr).add j=⟨w.heap.size,j,none⟩ by simp[Addr.add];exact fun e=>e.symm,hk.cell j,←hj];simp)
  (fun u hu=>List.all_eq_true.1 hn1 u hu) (by unfold maxLen;omega) (Nat.le_trans (Nat.mul_le_mul_left _ hbt) (by omega)) (by rw[hsz];omega)
 unfold Oper.wp execOp;simp only[ho,resolve,invoke,builtin,Sem.run_bind,Sem.run_pure,Result.andThen_ok,List.map_toArray,List.map_cons,List.map_nil,hs,hx,hr];have hg:w.grownBy w' v.ownBlock:=⟨r2.os,r2.tape,r2.output,by have:=r2.size;rw[hsz]at this;omega,fun k hk hne=>by
  rw[r2.block k (by rw[hsz];omega) hne];exact Below.heap_alloc w _ k hk⟩
 have hat:v'.ownBlock=v.ownBlock∨∀g,v'.ownBlock=some g→w.heap.size≤g:=by
  rcases r3 with r3|r3
  ·exact Or.inl r3
  ·refine Or.inr fun g e=> ?_;rw[r3,hsz]at e;injection e with e;omega
 have hF:∀b,inF base w v b→inF base w' v' b:=fun b hb=>⟨hb.1,Nat.lt_of_lt_of_le hb.2.1 hg.size,fun e=>by
  rcases hat with e2|e2
  ·exact hb.2.2 (e2.symm.trans e)
  ·have:=e2 b e;have:=hb.2.1;omega⟩
 have hup:∀(k:Nat) (u:Value) (t:α),(L.C k).P (inF base w v) w u t→(L.C k).P (inF base w' v') w' u t:=fun k u t h=>
  (L.C k).mono hF ((L.C k).grown h hg fun b hb e=>hb.2.2 e.symm)
 refine K v' w' ⟨xs++news.toList,by rw[List.length_append];exact r1,fun u hu=> ?_,fun j hj k hk=> ?_⟩ hg ((Below.refl base w).grown hg hb (fun k hk=>(World.ownsRow.lt h1 k hk).1)) hat
 ·rcases List.mem_append.1 hu with hu|hu
  ·exact h1' u hu
  ·exact List.all_eq_true.1 hn1 u hu
 ·have hxl:xs.length=l.length*L.sz:=h1.1;by_cases hjl:j<l.length
  ·obtain ⟨u,hu,hp⟩:=h2 j hjl k hk;refine ⟨u,?_,?_⟩
   ·rw[List.getElem?_append_left (by
     have:(j+1)*L.sz≤l.length*L.sz:=Nat.mul_le_mul_right _ hjl;rw[Nat.add_mul,Nat.one_mul]at this;omega)]
    exact hu
   ·rw[List.getElem_append_left hjl];exact hup k u _ hp
  ·have hj2:j=l.length:=by rw[List.length_append,List.length_singleton]at hj;omega
   subst hj2;obtain ⟨u,hu,hp⟩:=hnew k hk;refine ⟨u,?_,?_⟩
   ·rw[List.getElem?_append_right (by omega),hxl,Nat.add_sub_cancel_left];exact hu
   ·simp only[List.getElem_append_right (Nat.le_refl _),Nat.sub_self,List.getElem_singleton];exact hup k u _ hp
theorem no_f {p:Prop} (h:false=true):p:=by cases h
theorem no_t {p:Prop} (h:true=false):p:=by cases h
end Go.Proofs.YtpfhgkielakmoaaGreatDoor
set_option linter.unusedSimpArgs false
set_option linter.unusedVariables false
namespace Go.Proofs.YtpfhgkielakmoaaGreatDoor
open Go.RowKit Num
theorem take_snoc {α:Type} {l:List α} {j:Nat} (h:j<l.length):l.take (j+1)=l.take j++[l[j]]:=List.take_succ_eq_append_getElem h
theorem info_str:(Tryz.prog.info? 9).map (fun i=>(i.zero,i.size,i.bytes))=some (some (.string ⟨#[]⟩),1,16):=by kernel_rfl
def OwnS (w:World) (base:Nat) (v:Value) (ts:List ByteArray):Prop:=w.ownsRow base 9 1 v ts.length (ts.map .string)
theorem wp_appS {ops:Array Oper} {rest:List Oper} {o:Oper} {a:Act} {Q:Exit→Act→World→Prop} (s x:Operand) (w:World) (base:Nat) (v:Value) (l:List ByteArray) (t:ByteArray) {N:Nat} (hN:N=w.heap.size) (hown:OwnS w base v l) (hb:base≤w.heap.size) (hlen:l.length≤1000000) (hgd:o.guard=none) (ho:o.op= .call {callee:= .builtin .append,args:= #[s,x],argTypes:= #[128,128]}) (hs:a.eval s=v) (hx:a.eval x= .slice (some ⟨N,0,none⟩) 1 1) (K:∀v' w',OwnS w' base v' (l++[t])→w.grownBy w' v.ownBlock→Below base w w'→wpList Tryz.prog ops Q rest (a.put o.dst v') w'):wpList Tryz.prog ops Q (o::rest) a (w.alloc (.cells #[.string t] 9)):=by
 subst hN;obtain ⟨i0,hi,hz0,hz1,hz2⟩:=info_parts info_str;have hsz:(w.alloc (.cells #[.string t] 9)).heap.size=w.heap.size+1:=by simp
 have hk:=Blk.new w 9 #[.string t];refine wpList_append_own _ hgd s x 128 ho base 9 i0 _ 1 16 Tryz.underlying128 hi hz0 hz1 hz2 rfl (by decide) v l.length (l.map .string) hs (World.ownsRow.alloc hown _) ⟨w.heap.size,0,none⟩ 1 1 [.string t] hx rfl
  ?_ ?_ ?_ ?_ ?_ ?_
 ·intro j y hj;rw[show (⟨w.heap.size,0,none⟩:Addr).add j=⟨w.heap.size,j,none⟩ by simp[Addr.add];exact fun e=>e.symm];rw[hk.cell j];rw[←hj];simp
 ·intro y hy;simp only[List.mem_cons,List.not_mem_nil,or_false]at hy;subst hy;rfl
 ·unfold maxLen;omega
 ·omega
 ·rw[hsz];omega
 ·intro v' w' h1 h2 _;have hg:w.grownBy w' v.ownBlock:=⟨h2.os,h2.tape,h2.output,by have:=h2.size;rw[hsz]at this;omega,fun k hk hne=>by
   rw[h2.block k (by rw[hsz];omega) hne];exact Below.heap_alloc w _ k hk⟩
  refine K v' w' ?_ hg ?_
  ·unfold OwnS;rw[List.map_append,List.length_append];exact h1
  ·refine (Below.refl base w).grown hg hb (fun k hk=>(World.ownsRow.lt hown k hk).1)
end Go.Proofs.YtpfhgkielakmoaaGreatDoor
set_option linter.unusedSimpArgs false
set_option linter.unusedVariables false
namespace Go.Proofs.YtpfhgkielakmoaaGreatDoor
open Go.RowKit Num
def Ex0.flat (y:Ex0):Ex0:=⟨y.k,y.n,y.s,if y.m=0 then 0 else 1⟩
def Ex.flat (x:Ex):Ex:=⟨x.k,x.n,x.s,x.l.map Ex0.flat⟩
def It.flat (x:It):It:=⟨x.k,x.name,x.bool,x.dom,x.size,x.out,x.vals.map Ex.flat,x.ask⟩
theorem row_e0 {ty:TypeId} {F:Nat→Prop} {w:World} {A:Option Addr} {n c:Nat} {l:List Ex0} (h:(layE0 ty).row.P F w (.slice A n c) l) (hn:l≠[]):∃b o,A=some ⟨b,o,none⟩∧b<w.heap.size∧∀j (hj:j<l.length),w.cell? ⟨b,o+j*4,none⟩=some (.int .i64 l[j].k)∧w.cell? ⟨b,o+j*4+1,none⟩=some (.int .i64 l[j].n)∧w.cell? ⟨b,o+j*4+2,none⟩=some (.string ⟨l[j].s.toArray⟩)∧∃A3 c3,w.cell? ⟨b,o+j*4+3,none⟩=some (.slice A3 l[j].m c3):=by
 obtain ⟨A',c',h1,h2,h3,h4⟩:=h;obtain ⟨b,o,h5,h6,h7,h8⟩:=h4 hn;injection h1 with e1 _ _;subst e1;refine ⟨b,o,h5,h7,fun j hj=> ?_⟩;obtain ⟨u0,k0,p0⟩:=h8 j hj 0 (by show 0<4;omega);obtain ⟨u1,k1,p1⟩:=h8 j hj 1 (by show 1<4;omega);obtain ⟨u2,k2,p2⟩:=h8 j hj 2 (by show 2<4;omega);obtain ⟨u3,k3,p3⟩:=h8 j hj 3 (by show 3<4;omega);have p0':u0= .int .i64 l[j].k:=p0;have p1':u1= .int .i64 l[j].n:=p1;have p2':u2= .string ⟨l[j].s.toArray⟩:=p2;obtain ⟨A3,c3,p3'⟩:=p3;subst p0' p1' p2' p3';exact ⟨k0,k1,k2,A3,c3,k3⟩
theorem row_ex {ty:TypeId} {F:Nat→Prop} {w:World} {A:Option Addr} {n c:Nat} {l:List Ex} (h:(layE ty).row.P F w (.slice A n c) l) (hn:l≠[]):∃b o,A=some ⟨b,o,none⟩∧b<w.heap.size∧∀j (hj:j<l.length),w.cell? ⟨b,o+j*4,none⟩=some (.int .i64 l[j].k)∧w.cell? ⟨b,o+j*4+1,none⟩=some (.int .i64 l[j].n)∧w.cell? ⟨b,o+j*4+2,none⟩=some (.string ⟨l[j].s.toArray⟩)∧∃A3 c3,w.cell? ⟨b,o+j*4+3,none⟩=some (.slice A3 l[j].l.length c3)∧(layE0 ty).row.P F w (.slice A3 l[j].l.length c3) l[j].l:=by
 obtain ⟨A',c',h1,h2,h3,h4⟩:=h;obtain ⟨b,o,h5,h6,h7,h8⟩:=h4 hn;injection h1 with e1 _ _;subst e1;refine ⟨b,o,h5,h7,fun j hj=> ?_⟩;obtain ⟨u0,k0,p0⟩:=h8 j hj 0 (by show 0<4;omega);obtain ⟨u1,k1,p1⟩:=h8 j hj 1 (by show 1<4;omega);obtain ⟨u2,k2,p2⟩:=h8 j hj 2 (by show 2<4;omega);obtain ⟨u3,k3,p3⟩:=h8 j hj 3 (by show 3<4;omega);have p0':u0= .int .i64 l[j].k:=p0;have p1':u1= .int .i64 l[j].n:=p1;have p2':u2= .string ⟨l[j].s.toArray⟩:=p2;have p3':(layE0 ty).row.P F w u3 l[j].l:=p3;obtain ⟨A3,c3,e3⟩:=Lay.row_len p3';subst p0' p1' p2' e3;exact ⟨k0,k1,k2,A3,c3,k3,p3'⟩
theorem row_it {ty te : TypeId} {F : Nat → Prop} {w : World} {A : Option Addr} {n c : Nat} {l : List It} (h : (layI ty te).row.P F w (.slice A n c) l) (hn : l ≠ []) :
    ∃ b o, A = some ⟨b, o, none⟩ ∧ b < w.heap.size ∧ ∀ j (hj : j < l.length), w.cell? ⟨b, o + j * 8, none⟩ = some (.int .i64 l[j].k) ∧ w.cell? ⟨b, o + j * 8 + 1, none⟩ = some (.string ⟨l[j].name.toArray⟩) ∧ w.cell? ⟨b, o + j * 8 + 2, none⟩ = some (.bool l[j].bool) ∧ w.cell? ⟨b, o + j * 8 + 4, none⟩ = some (.int .i64 l[j].size) ∧ w.cell? ⟨b, o + j * 8 + 5, none⟩ = some (.bool l[j].out) ∧ w.cell? ⟨b, o + j * 8 + 7, none⟩ = some (.int .i64 l[j].ask) ∧
      (∃ A3 c3, w.cell? ⟨b, o + j * 8 + 3, none⟩ = some (.slice A3 l[j].dom.length c3) ∧ layR.row.P F w (.slice A3 l[j].dom.length c3) l[j].dom) ∧ (∃ A6 c6, w.cell? ⟨b, o + j * 8 + 6, none⟩ = some (.slice A6 l[j].vals.length c6) ∧ (layE te).row.P F w (.slice A6 l[j].vals.length c6) l[j].vals) := by
  obtain ⟨A', c', h1, h2, h3, h4⟩ := h
  obtain ⟨b, o, h5, h6, h7, h8⟩ := h4 hn
  injection h1 with e1 _ _
  subst e1
  refine ⟨b, o, h5, h7, fun j hj => ?_⟩
  obtain ⟨u0, k0, p0⟩ := h8 j hj 0 (by show 0 < 8; omega)
  obtain ⟨u1, k1, p1⟩ := h8 j hj 1 (by show 1 < 8; omega)
  obtain ⟨u2, k2, p2⟩ := h8 j hj 2 (by show 2 < 8; omega)
  obtain ⟨u3, k3, p3⟩ := h8 j hj 3 (by show 3 < 8; omega)
  obtain ⟨u4, k4, p4⟩ := h8 j hj 4 (by show 4 < 8; omega)
  obtain ⟨u5, k5, p5⟩ := h8 j hj 5 (by show 5 < 8; omega)
  obtain ⟨u6, k6, p6⟩ := h8 j hj 6 (by show 6 < 8; omega)
  obtain ⟨u7, k7, p7⟩ := h8 j hj 7 (by show 7 < 8; omega)
  have p0' : u0 = .int .i64 l[j].k := p0
  have p1' : u1 = .string ⟨l[j].name.toArray⟩ := p1
  have p2' : u2 = .bool l[j].bool := p2
  have p3' : layR.row.P F w u3 l[j].dom := p3
  have p4' : u4 = .int .i64 l[j].size := p4
  have p5' : u5 = .bool l[j].out := p5
  have p6' : (layE te).row.P F w u6 l[j].vals := p6
  have p7' : u7 = .int .i64 l[j].ask := p7
  obtain ⟨A3, c3, e3⟩ := Lay.row_len p3'
  obtain ⟨A6, c6, e6⟩ := Lay.row_len p6'
  subst p0' p1' p2' e3 p4' p5' e6 p7'
  exact ⟨k0, k1, k2, k4, k5, k7, ⟨A3, c3, k3, p3'⟩, A6, c6, k6, p6'⟩
theorem ne_bool {a b:Int} (h:a≠b):(a !=b)=true:=by simpa using h
theorem lt_ne {α:Type} {l:List α} {j:Nat} (h:j<l.length):l≠[]:=by
 rintro rfl;exact absurd h (Nat.not_lt_zero _)
theorem e0_new {ty:TypeId} {y:Ex0} {A:Option Addr} {c:Nat} {F:Nat→Prop} {w:World}:∀k,k<(layE0 ty).sz→∃u,(#[.int .i64 y.k,.int .i64 y.n,.string ⟨y.s.toArray⟩,.slice A y.m c]:Array Value).toList[k]? =some u∧((layE0 ty).C k).P F w u y:=fun k hk=>by
 have hk4:k<4:=hk;match k,hk4 with
 |0,_=>exact ⟨_,rfl,rfl⟩
 |1,_=>exact ⟨_,rfl,rfl⟩
 |2,_=>exact ⟨_,rfl,rfl⟩
 |3,_=>exact ⟨_,rfl,A,c,rfl⟩
theorem ex_new {ty:TypeId} {x:Ex} {S:Value} {F:Nat→Prop} {w:World} (h:(layE0 ty).row.P F w S x.l):∀k,k<(layE ty).sz→∃u,(#[.int .i64 x.k,.int .i64 x.n,.string ⟨x.s.toArray⟩,S]:Array Value).toList[k]? =some u∧((layE ty).C k).P F w u x:=fun k hk=>by
 have hk4:k<4:=hk;match k,hk4 with
 |0,_=>exact ⟨_,rfl,rfl⟩
 |1,_=>exact ⟨_,rfl,rfl⟩
 |2,_=>exact ⟨_,rfl,rfl⟩
 |3,_=>exact ⟨_,rfl,h⟩
def Dt.at_ {α:Type} (D:Dt α) (w0:World) (S:Nat→Prop):Dt α:=⟨fun _ _ v a=>D.P S w0 v a,fun _ h=>h,fun _ _ h=>h⟩
def layIat (w0:World) (S:Nat→Prop) (ty te:TypeId):Lay It:=⟨ty,8,fun
 |0=> .eq fun x=> .int .i64 x.k
 |1=> .eq fun x=> .string ⟨x.name.toArray⟩
 |2=> .eq fun x=> .bool x.bool
 |3=>(layR.row.at_ w0 S).via (·.dom)
 |4=> .eq fun x=> .int .i64 x.size
 |5=> .eq fun x=> .bool x.out
 |6=>(layE te).row.via (·.vals)
 |_=> .eq fun x=> .int .i64 x.ask⟩
theorem row_now {w0 w:World} {S F:Nat→Prop} {ty te:TypeId} {v:Value} {l:List It} (h:(layIat w0 S ty te).row.P F w v l) (hb:Below w0.heap.size w0 w):(layI ty te).row.P (fun _=>True) w v l:=by
 obtain ⟨A,c,h1,h2,h3,h4⟩:=h;refine ⟨A,c,h1,h2,h3,fun hn=> ?_⟩;obtain ⟨b,o,h5,h6,h7,h8⟩:=h4 hn;refine ⟨b,o,h5,trivial,h7,fun j hj k hk=> ?_⟩;obtain ⟨x,hx,hp⟩:=h8 j hj k hk;refine ⟨x,hx,?_⟩;have hk8:k<8:=hk;match k,hk8 with
 |0,_=>exact hp
 |1,_=>exact hp
 |2,_=>exact hp
 |3,_=>
  have hp':layR.row.P S w0 x l[j].dom:=hp;exact (layR.row).mono (fun _ _=>trivial) (Dt.below _ hp' hb (Nat.le_refl _))
 |4,_=>exact hp
 |5,_=>exact hp
 |6,_=>exact ((layE te).row).mono (fun _ _=>trivial) hp
 |7,_=>exact hp
theorem it_new {ty te:TypeId} {w0:World} {S:Nat→Prop} {x:It} {D V:Value} {F:Nat→Prop} {w:World} (hd:layR.row.P S w0 D x.dom) (h:(layE te).row.P F w V x.vals):∀k,k<(layIat w0 S ty te).sz→∃u,(#[.int .i64 x.k,.string ⟨x.name.toArray⟩,.bool x.bool,D,.int .i64 x.size,.bool x.out,V,.int .i64 x.ask]:Array Value).toList[k]? =some u∧((layIat w0 S ty te).C k).P F w u x:=fun k hk=>by
 have hk8:k<8:=hk;match k,hk8 with
 |0,_=>exact ⟨_,rfl,rfl⟩
 |1,_=>exact ⟨_,rfl,rfl⟩
 |2,_=>exact ⟨_,rfl,rfl⟩
 |3,_=>exact ⟨_,rfl,hd⟩
 |4,_=>exact ⟨_,rfl,rfl⟩
 |5,_=>exact ⟨_,rfl,rfl⟩
 |6,_=>exact ⟨_,rfl,h⟩
 |7,_=>exact ⟨_,rfl,rfl⟩
theorem info_ritem:(Tryz.prog.info? 28).map (fun i=>(i.zero,i.size,i.bytes))=some (some (.agg #[.int .i64 0,.string ⟨#[]⟩,.bool false,.slice none 0 0,.int .i64 0,.bool false,.slice none 0 0,.int .i64 0]),8,104):=by kernel_rfl
end Go.Proofs.YtpfhgkielakmoaaGreatDoor
