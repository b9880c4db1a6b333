import Derived.Test.YtecfcjdgmpopjaaGreatKw
import Derived.Test.YtecfcjdgmpopjaaGreatKd
set_option linter.unusedSimpArgs false
set_option linter.unusedVariables false
namespace Go.Proofs.YtecfcjdgmpopjaaGreat
open Go.RowKit Num
def NRow (w:World)(base:Nat)(e:TypeId)(size:Nat)(v:Value)(n:Nat)(xs:List Value):Prop:=w.ownsRow base e size v n xs∧∀g,v.ownBlock=some g→Box w g
theorem NRow.nil (w:World)(base:Nat)(e:TypeId)(size:Nat):NRow w base e size (.slice none 0 0) 0 []:=⟨World.ownsRow_nil w base e size,fun g h=>by cases h⟩
theorem nu_zero {z:Array Value}(h:z.toList.all nu=true)(n:Nat):(Builtin.zeroCells z n).toList.all nu=true:=by
 refine List.all_eq_true.2 fun x hx=> ?_;unfold Builtin.zeroCells at hx;rw[Array.toList_map,List.mem_map]at hx;obtain⟨i,hi,rfl⟩:=hx;have hi2:i<n*z.size:=by simpa using hi
 have hs:0<z.size:=by
  rcases Nat.eq_zero_or_pos z.size with h0|h0
  ·rw[h0,Nat.mul_zero]at hi2;omega
  ·exact h0
 have hlt:=Nat.mod_lt i hs;rw[getElem!_pos z (i%z.size) hlt];exact List.all_eq_true.1 h _ (Array.getElem_mem_toList hlt)
theorem all_three {a b c:List Value}(ha:a.all nu=true)(hb:b.all nu=true)(hc:c.all nu=true):(a++(b++c)).all nu=true:=by
 rw[List.all_append,List.all_append,ha,hb,hc];rfl
theorem run_append_nu {P : Program} (w : World) (base : Nat) (t ty e : TypeId) (i : TypeInfo) (z : Value) (size bytes : Nat) (ht : P.underlying t = some (.slice e)) (hi : P.info? e = some i) (hz : i.zero = some z)
    (hsize : i.size = size) (hby : i.bytes = bytes) (hzs : z.cells.size = size) (hsz : 0 < size) (hzn : z.cells.toList.all nu = true)
    (v : Value) (n : Nat) (xs : List Value) (hown : NRow w base e size v n xs)
    (a : Addr) (m c : Nat) (hm : 0 < m) (news : List Value) (hl : news.length = m * size) (hnews : ∀ j u, news[j]? = some u → w.cell? (a.add j) = some u) (h1 : ∀ u ∈ news, u.oneCell' = true) (hnn : news.all nu = true)
    (h63 : n + m ≤ maxLen) (hbytes : (n + m) * bytes ≤ 140737488355328) (hbase : base ≤ w.heap.size) :
    ∃ v' w', (Builtin.append_ #[t, t] ty #[v, .slice (some a) m c]).run P w = .ok v' w' ∧ NRow w' base e size v' (n + m) (xs ++ news) ∧ w.grownBy w' v.ownBlock ∧ (v'.ownBlock = v.ownBlock ∨ v'.ownBlock = some w.heap.size) := by
  subst hsize
  subst hby
  obtain ⟨hown, hbox⟩ := hown
  have hsmall : n + m ≤ 9223372036854775807 := by simp only [maxLen] at h63; omega
  have hlen : (xs ++ news).length = (n + m) * i.size := by rw [List.length_append, hown.1, hl, Nat.add_mul]
  have grown : ∀ (old : Nat), old < n + m → xs.all nu = true → ∀ (row : Option Nat),
      NRow (w.drew.alloc (.cells (xs.toArray ++ news.toArray ++ Builtin.zeroCells z.cells (grownCap w (n + m) old e - (n + m))) e)) base e i.size
        (.slice (some ⟨w.heap.size, 0, none⟩) (n + m) (grownCap w (n + m) old e)) (n + m) (xs ++ news) ∧
      w.grownBy (w.drew.alloc (.cells (xs.toArray ++ news.toArray ++ Builtin.zeroCells z.cells (grownCap w (n + m) old e - (n + m))) e)) row := by
    intro old ho hxn row
    have hge := grownCap_ge w (n + m) old e
    have hcm : grownCap w (n + m) old e ≤ maxLen := grownCap_le_maxLen w (n + m) old e h63
    refine ⟨⟨⟨hlen, .inr ⟨w.heap.size, _, _, rfl, hbase, heap_alloc_new w.drew _, hge, hcm, ?_, ?_⟩⟩, fun g hg => ?_⟩, ⟨rfl, rfl, rfl, by simp, fun k hk _ => Below.heap_alloc w.drew _ k hk⟩⟩
    · simp only [Array.size_append, List.size_toArray, size_zeroCells, hzs, hown.1, hl, ← Nat.add_mul]
      congr 1
      omega
    · simp only [Array.toList_append, List.append_assoc]
      rw [← List.append_assoc, ← hlen]
      exact List.take_left
    · have hg' : w.heap.size = g := by injection hg
      subst hg'
      refine ⟨_, _, heap_alloc_new w.drew _, ?_⟩
      simp only [Array.toList_append, List.append_assoc]
      exact all_three hxn hnn (nu_zero hzn _)
  rcases hown.2 with ⟨rfl, rfl⟩ | ⟨g, cap, cur, rfl, hbg, hg, hnc, hcm, hcs, htake⟩
  · have hx : xs = [] := List.eq_nil_of_length_eq_zero (by simpa using hown.1)
    subst hx
    have hr := run_append_nil (P := P) w t ty e i z ht hi hz a m c news hl hnews (by omega) (by omega) (by have hb := hbytes; simp only [Nat.zero_add] at hb; omega)
    have hgr := grown 0 (by omega) rfl (Value.ownBlock (.slice none 0 0))
    simp only [Nat.zero_add, List.nil_append, Array.empty_append] at hgr ⊢
    exact ⟨_, _, hr, hgr.1, hgr.2, Or.inr rfl⟩
  · have hcn : cur.toList.all nu = true := by
      obtain ⟨cs, t', h2, h3⟩ := hbox g rfl
      rw [hg] at h2
      injection h2 with h2
      injection h2 with h2
      rw [h2]
      exact h3
    have hxn : xs.all nu = true := by
      rw [← htake]
      exact List.all_eq_true.2 fun x hx => List.all_eq_true.1 hcn x (List.mem_of_mem_take hx)
    by_cases hroom : n + m ≤ cap
    · have hfit : n * i.size + news.length ≤ cur.size := by rw [hl, hcs, ← Nat.add_mul]; exact Nat.mul_le_mul_right _ hroom
      have hr := run_append_room (P := P) w t ty e i ht hi g n cap cur hg a m c news hl hnews h1 hroom hfit
      refine ⟨_, _, hr, ⟨⟨hlen, .inr ⟨g, cap, _, rfl, hbg, setRow_heap w g cur _ e _ hg, hroom, hcm, ?_, ?_⟩⟩, fun g' hg' => ?_⟩, ⟨rfl, rfl, rfl, by simp, fun k _ hk => setRow_other w g k _ (fun e => hk (by simp [Value.ownBlock, e]))⟩, Or.inl rfl⟩
      · simp only [List.size_toArray, List.length_append, List.length_take, List.length_drop, Array.length_toList]
        omega
      · rw [htake, ← hlen]
        exact List.take_left
      · have hg2 : g = g' := by injection hg'
        subst hg2
        refine ⟨_, _, setRow_heap w g cur _ e _ hg, ?_⟩
        rw [List.append_assoc]
        exact all_three (List.all_eq_true.2 fun x hx => List.all_eq_true.1 hcn x (List.mem_of_mem_take hx)) hnn (List.all_eq_true.2 fun x hx => List.all_eq_true.1 hcn x (List.mem_of_mem_drop hx))
    · have holds : ∀ j u, xs[j]? = some u → w.cell? ((⟨g, 0, none⟩ : Addr).add j) = some u := hown.cells (g := g) rfl
      have hr := run_append_grow (P := P) w t ty e i z ht hi hz ⟨g, 0, none⟩ n cap xs hown.1 holds a m c news hl hnews (by omega) (by omega) (growslice_fits (by omega) hbytes)
      have hgr := grown cap (by omega) hxn (Value.ownBlock (.slice (some ⟨g, 0, none⟩) n cap))
      exact ⟨_, _, hr, hgr.1, hgr.2, Or.inr rfl⟩
theorem NRow.kept {w w':World}{base:Nat}{e:TypeId}{size:Nat}{v:Value}{n:Nat}{xs:List Value}{row:Option Nat}(h:NRow w base e size v n xs)(hg:w.grownBy w' row)(hne:∀g,v.ownBlock=some g→some g≠row):NRow w' base e size v n xs:=by
 refine⟨h.1.kept hg ?_,fun g hv=> ?_⟩
 ·cases hb:v.ownBlock with
  |none=>exact .inl rfl
  |some g=>exact .inr (hne g hb)
 ·obtain⟨cs,t,h1,h2⟩:=h.2 g hv;have hlt:=(World.ownsRow.lt h.1 g hv).2;exact⟨cs,t,(hg.block g hlt (hne g hv)).trans h1,h2⟩
theorem NRow.below {w w':World}{base:Nat}{e:TypeId}{size:Nat}{v:Value}{n:Nat}{xs:List Value}(h:NRow w base e size v n xs)(q:Below w.heap.size w w'):NRow w' base e size v n xs:=h.kept (grown_of_below q) fun g _ e=>by cases e
theorem wp_appNu_op {P:Program}{o:Oper}{a:Act}{KK:Act→World→Prop}{Q:Exit→Act→World→Prop}(s x:Operand)(w:World)(base:Nat)(e:TypeId)(sz:Nat)(v:Value)(n:Nat)(xs:List Value)(news:Array Value){N sl bytes:Nat}{z:Value}(hN:N=w.heap.size)(hu:P.underlying sl=some (.slice e))(hinfo:(P.info? e).map (fun i=>(i.zero,i.size,i.bytes))=some (some z,sz,bytes))(hz:z.cells.size=sz)(hzn:z.cells.toList.all nu=true)(hpos:0<sz)(hbt:bytes≤1000)(hown:NRow w base e sz v n xs)(hb:base≤w.heap.size)(hlen:n≤1000000)(hnl:news.size=sz)(hn1:news.toList.all (·.oneCell')=true)(hnn:news.toList.all nu=true)(ho:o.op= .call {callee:= .builtin .append,args:= #[s,x],argTypes:= #[sl,sl]})(hs:a.eval s=v)(hx:a.eval x= .slice (some ⟨N,0,none⟩) 1 1)(K:∀v' w',NRow w' base e sz v' (n+1) (xs++news.toList)→w.grownBy w' v.ownBlock→Below base w w'→(v'.ownBlock=v.ownBlock∨∀g,v'.ownBlock=some g→w.heap.size≤g)→KK (a.put o.dst v') w'):o.wp P a (w.alloc (.cells news e)) KK Q:=by
 subst hN;obtain⟨i0,hi,hz0,hz1,hz2⟩:=info_parts hinfo;have hsz:(w.alloc (.cells news e)).heap.size=w.heap.size+1:=by simp
 have hk:=Blk.new w e news;obtain⟨v',w',hr,r1,r2,r3⟩:=run_append_nu (P:=P) (w.alloc (.cells news e)) base sl o.type e i0 z sz bytes hu hi hz0 hz1 hz2 hz hpos hzn v n xs (hown.below ((Below.refl w.heap.size w).alloc ZL _)) ⟨w.heap.size,0,none⟩ 1 1 Nat.one_pos news.toList (by simpa using hnl)
  (by
   intro j u hj;rw[show(⟨w.heap.size,0,none⟩:Addr).add j=⟨w.heap.size,j,none⟩ by simp[Addr.add];exact fun e=>e.symm,hk.cell j,←hj];simp)
  (fun u hu=>List.all_eq_true.1 hn1 u hu) hnn (by unfold maxLen;omega) (Nat.le_trans (Nat.mul_le_mul_left _ hbt) (by omega)) (by rw[hsz];omega)
 unfold Oper.wp execOp;simp only[ho,resolve,invoke,builtin,Sem.run_bind,Sem.run_pure,Result.andThen_ok,List.map_toArray,List.map_cons,List.map_nil,hs,hx,hr];have hg:w.grownBy w' v.ownBlock:=⟨r2.os,r2.tape,r2.output,by have:=r2.size;rw[hsz]at this;omega,fun k hk hne=>by
  rw[r2.block k (by rw[hsz];omega) hne];exact Below.heap_alloc w _ k hk⟩
 have hat:v'.ownBlock=v.ownBlock∨∀g,v'.ownBlock=some g→w.heap.size≤g:=by
  rcases r3 with r3|r3
  ·exact Or.inl r3
  ·refine Or.inr fun g e=> ?_;rw[r3,hsz]at e;injection e with e;omega
 exact K v' w' r1 hg ((Below.refl base w).grown hg hb (fun k hk=>(World.ownsRow.lt hown.1 k hk).1)) hat
theorem wp_appNu {P:Program}{ops:Array Oper}{rest:List Oper}{o:Oper}{a:Act}{Q:Exit→Act→World→Prop}(s x:Operand)(w:World)(base:Nat)(e:TypeId)(sz:Nat)(v:Value)(n:Nat)(xs:List Value)(news:Array Value){N sl bytes:Nat}{z:Value}(hN:N=w.heap.size)(hu:P.underlying sl=some (.slice e))(hinfo:(P.info? e).map (fun i=>(i.zero,i.size,i.bytes))=some (some z,sz,bytes))(hz:z.cells.size=sz)(hzn:z.cells.toList.all nu=true)(hpos:0<sz)(hbt:bytes≤1000)(hown:NRow w base e sz v n xs)(hb:base≤w.heap.size)(hlen:n≤1000000)(hnl:news.size=sz)(hn1:news.toList.all (·.oneCell')=true)(hnn:news.toList.all nu=true)(hw:Region.wanted o (yielded ops a.tmps)=true)(ho:o.op= .call {callee:= .builtin .append,args:= #[s,x],argTypes:= #[sl,sl]})(hs:a.eval s=v)(hx:a.eval x= .slice (some ⟨N,0,none⟩) 1 1)(K:∀v' w',NRow w' base e sz v' (n+1) (xs++news.toList)→w.grownBy w' v.ownBlock→Below base w w'→(v'.ownBlock=v.ownBlock∨∀g,v'.ownBlock=some g→w.heap.size≤g)→wpList P ops Q rest (a.put o.dst v') w'):wpList P ops Q (o::rest) a (w.alloc (.cells news e)):=
 wpList_wanted hw fun KK hKK=>wp_appNu_op s x w base e sz v n xs news hN hu hinfo hz hzn hpos hbt hown hb hlen hnl hn1 hnn ho hs hx fun v' w' r1 r2 r3 r4=>hKK _ _ (K v' w' r1 r2 r3 r4)
theorem NRow.slice {w:World}{base:Nat}{e:TypeId}{size:Nat}{v:Value}{n:Nat}{xs:List Value}(h:NRow w base e size v n xs):∃A c,v= .slice A n c:=by
 rcases h.1.2 with ⟨h2,h3⟩|⟨g,cap,cur,hv,_⟩
 ·exact⟨none,0,by rw[h2,h3]⟩
 ·exact⟨_,_,hv⟩
theorem NRow.cell {w:World}{base:Nat}{e:TypeId}{size:Nat}{A:Option Addr}{c n:Nat}{xs:List Value}(h:NRow w base e size (.slice A n c) n xs){j:Nat}{u:Value}(hj:xs[j]? =some u):∃g,A=some ⟨g,0,none⟩∧w.cell? ⟨g,j,none⟩=some u:=by
 have hc:=h.1;rcases hc.2 with ⟨h2,h3⟩|⟨g,cap,cur,hv,_⟩
 ·subst h3;have:xs=[]:=List.eq_nil_of_length_eq_zero (by rw[hc.1];simp);subst this;simp at hj
 ·injection hv with hv;subst hv;have:=hc.cells (g:=g) rfl j u hj;rw[show(⟨g,0,none⟩:Addr).add j=⟨g,j,none⟩ by simp[Addr.add];exact fun e=>e.symm]at this;exact⟨g,rfl,this⟩
theorem NRow.crow {w:World}{base:Nat}{e:TypeId}{A:Option Addr}{c n:Nat}{xs:List Value}{f:Nat→Value}(h:NRow w base e 1 (.slice A n c) n xs)(hf:∀j,j<n→xs[j]? =some (f j)):CRow w A n f:=fun j hj=>by
 obtain⟨g,rfl,h2⟩:=h.cell (hf j hj);exact⟨g,0,rfl,by rw[Nat.zero_add];exact h2⟩
def QOwn (w:World)(base:Nat)(v:Value)(l:List Rat):Prop:=∃xs,NRow w base 72 4 v l.length xs∧∀j,j<l.length→∃A c B d,xs[j*4]? =some (.bool (sN (l.getD j 0).num))∧xs[j*4+1]? =some (.slice A (sD (l.getD j 0).num).length c)∧xs[j*4+2]? =some (.bool false)∧
 xs[j*4+3]? =some (.slice B (dig (l.getD j 0).den).length d)∧QR w A c B d (l.getD j 0)
theorem QOwn.nil (w:World)(base:Nat):QOwn w base (.slice none 0 0) []:=⟨[],NRow.nil _ _ _ _,fun j hj=>absurd hj (Nat.not_lt_zero _)⟩
theorem QOwn.kept {w w':World}{base:Nat}{v:Value}{l:List Rat}{S:Nat→Prop}(h:QOwn w base v l)(k:Stp S w w')(hn:∀g,v.ownBlock=some g→¬S g):QOwn w' base v l:=by
 obtain⟨xs,h1,h2⟩:=h;refine⟨xs,?_,fun j hj=> ?_⟩
 ·refine⟨?_,fun g hv=> ?_⟩
  ·refine⟨h1.1.1,?_⟩;rcases h1.1.2 with hn'|⟨g,cap,cur,rfl,hb,hgg,rest⟩
   ·exact .inl hn'
   ·exact .inr ⟨g,cap,cur,rfl,hb,(k.block g (Array.getElem?_eq_some_iff.1 hgg).1 (hn g rfl)).trans hgg,rest⟩
  ·exact(h1.2 g hv).stp k (hn g hv)
 ·obtain⟨A,c,B,d,e1,e2,e3,e4,e5⟩:=h2 j hj;exact⟨A,c,B,d,e1,e2,e3,e4,e5.stp k⟩
theorem QOwn.below {w w':World}{base:Nat}{v:Value}{l:List Rat}(h:QOwn w base v l)(q:Below w.heap.size w w'):QOwn w' base v l:=h.kept (S:=fun _=>False) (Stp.of q) fun _ _ e=>e
theorem QOwn.slice {w:World}{base:Nat}{v:Value}{l:List Rat}(h:QOwn w base v l):∃A c,v= .slice A l.length c:=by
 obtain⟨xs,h1,_⟩:=h;exact h1.slice
theorem QOwn.row {w:World}{base:Nat}{A:Option Addr}{c:Nat}{l:List Rat}(h:QOwn w base (.slice A l.length c) l):QRow w A l:=fun j hj=>by
 obtain⟨xs,h1,h2⟩:=h;obtain⟨A',c',B',d',e1,e2,e3,e4,e5⟩:=h2 j hj;obtain⟨g,rfl,k1⟩:=h1.cell e1;obtain⟨g2,hg2,k2⟩:=h1.cell e2;obtain⟨g3,hg3,k3⟩:=h1.cell e3;obtain⟨g4,hg4,k4⟩:=h1.cell e4;cases hg2;cases hg3;cases hg4;refine⟨g,0,rfl,A',c',B',d',?_,?_,?_,?_,e5⟩
 ·rw[Nat.zero_add];exact k1
 ·rw[Nat.zero_add];exact k2
 ·rw[Nat.zero_add];exact k3
 ·rw[Nat.zero_add];exact k4
theorem QOwn.box {w:World}{base:Nat}{v:Value}{l:List Rat}(h:QOwn w base v l):∀g,v.ownBlock=some g→base≤g∧Box w g:=fun g hg=>by
 obtain⟨xs,h1,_⟩:=h;exact⟨(World.ownsRow.lt h1.1 g hg).1,h1.2 g hg⟩
theorem QOwn.push {w w':World}{base:Nat}{v v':Value}{l:List Rat}{q:Rat}{A:Option Addr}{c:Nat}{B:Option Addr}{d:Nat}{xs:List Value}(h2:∀j,j<l.length→∃A c B d,xs[j*4]? =some (.bool (sN (l.getD j 0).num))∧xs[j*4+1]? =some (.slice A (sD (l.getD j 0).num).length c)∧xs[j*4+2]? =some (.bool false)∧xs[j*4+3]? =some (.slice B (dig (l.getD j 0).den).length d)∧QR w A c B d (l.getD j 0))(hq:QR w A c B d q)(hn:NRow w base 72 4 v l.length xs)(h3:NRow w' base 72 4 v' (l.length+1) (xs++(qcs q A c B d).toList))(hg:w.grownBy w' v.ownBlock):QOwn w' base v' (l++[q]):=by
 have hxl:xs.length=l.length*4:=hn.1.1;have up:∀{A c B d q},QR w A c B d q→QR w' A c B d q:=fun{A c B d q} h=>by
  cases hb:v.ownBlock with
  |none=>
   rw[hb]at hg;exact h.stp (S:=fun _=>False) ⟨hg.os,hg.tape,hg.output,hg.size,fun k hk _=>hg.block k hk (by simp),fun r=>Rd.below r ⟨hg.os,hg.tape,hg.output,hg.size,fun k hk=>hg.block k hk (by simp)⟩ ZL⟩
  |some g=>
   rw[hb]at hg;exact h.boxed (hn.2 g hb) hg
 refine⟨_,by rw[List.length_append];exact h3,fun j hj=> ?_⟩;rw[List.length_append,List.length_singleton]at hj;by_cases hjl:j<l.length
 ·obtain⟨A',c',B',d',e1,e2,e3,e4,e5⟩:=h2 j hjl;have hl:(l++[q]).getD j 0=l.getD j 0:=by rw[gE,List.getElem?_append_left hjl,←gE]
  rw[hl];refine⟨A',c',B',d',?_,?_,?_,?_,up e5⟩
  ·rw[List.getElem?_append_left (by omega)];exact e1
  ·rw[List.getElem?_append_left (by omega)];exact e2
  ·rw[List.getElem?_append_left (by omega)];exact e3
  ·rw[List.getElem?_append_left (by omega)];exact e4
 ·have hjj:j=l.length:=by omega
  subst hjj;have hl:(l++[q]).getD l.length 0=q:=by rw[gE,List.getElem?_append_right ZL,Nat.sub_self];rfl
  rw[hl];refine⟨A,c,B,d,?_,?_,?_,?_,up hq⟩
  ·rw[List.getElem?_append_right (by omega),hxl,Nat.sub_self];rfl
  ·rw[List.getElem?_append_right (by omega),hxl,Nat.add_sub_cancel_left];rfl
  ·rw[List.getElem?_append_right (by omega),hxl,Nat.add_sub_cancel_left];rfl
  ·rw[List.getElem?_append_right (by omega),hxl,Nat.add_sub_cancel_left];rfl
theorem info_ratz:(Tryz.prog.info? 72).map (fun i=>(i.zero,i.size,i.bytes))=some (some (.agg z4),4,64):=by kernel_rfl
theorem wp_appQ_op {o:Oper}{a:Act}{KK:Act→World→Prop}{Q:Exit→Act→World→Prop}(s x:Operand)(w:World)(base:Nat)(v:Value)(l:List Rat)(q:Rat)(A:Option Addr)(c:Nat)(B:Option Addr)(d:Nat){N sl:Nat}(hN:N=w.heap.size)(hu:Tryz.prog.underlying sl=some (.slice 72))(hown:QOwn w base v l)(hq:QR w A c B d q)(hb:base≤w.heap.size)(hlen:l.length≤1000000)(ho:o.op= .call {callee:= .builtin .append,args:= #[s,x],argTypes:= #[sl,sl]})(hs:a.eval s=v)(hx:a.eval x= .slice (some ⟨N,0,none⟩) 1 1)(K:∀v' w',QOwn w' base v' (l++[q])→w.grownBy w' v.ownBlock→Below base w w'→(v'.ownBlock=v.ownBlock∨∀g,v'.ownBlock=some g→w.heap.size≤g)→KK (a.put o.dst v') w'):o.wp Tryz.prog a (w.alloc (.cells (qcs q A c B d) 72)) KK Q:=by
 obtain⟨xs,h1,h2⟩:=hown;exact wp_appNu_op s x w base 72 4 v l.length xs (qcs q A c B d) hN hu info_ratz rfl rfl (by decide) (by decide) h1 hb hlen rfl rfl rfl ho hs hx fun v' w' r1 r2 r3 r4=>K v' w' (QOwn.push h2 hq h1 r1 r2) r2 r3 r4
theorem wp_appQ {ops:Array Oper}{rest:List Oper}{o:Oper}{a:Act}{Q:Exit→Act→World→Prop}(s x:Operand)(w:World)(base:Nat)(v:Value)(l:List Rat)(q:Rat)(A:Option Addr)(c:Nat)(B:Option Addr)(d:Nat){N sl:Nat}(hN:N=w.heap.size)(hu:Tryz.prog.underlying sl=some (.slice 72))(hown:QOwn w base v l)(hq:QR w A c B d q)(hb:base≤w.heap.size)(hlen:l.length≤1000000)(hw:Region.wanted o (yielded ops a.tmps)=true)(ho:o.op= .call {callee:= .builtin .append,args:= #[s,x],argTypes:= #[sl,sl]})(hs:a.eval s=v)(hx:a.eval x= .slice (some ⟨N,0,none⟩) 1 1)(K:∀v' w',QOwn w' base v' (l++[q])→w.grownBy w' v.ownBlock→Below base w w'→(v'.ownBlock=v.ownBlock∨∀g,v'.ownBlock=some g→w.heap.size≤g)→wpList Tryz.prog ops Q rest (a.put o.dst v') w'):wpList Tryz.prog ops Q (o::rest) a (w.alloc (.cells (qcs q A c B d) 72)):=
 wpList_wanted hw fun KK hKK=>wp_appQ_op s x w base v l q A c B d hN hu hown hq hb hlen ho hs hx fun v' w' r1 r2 r3 r4=>hKK _ _ (K v' w' r1 r2 r3 r4)
end Go.Proofs.YtecfcjdgmpopjaaGreat
