/-
  Joined texts: Te, Tf.
-/
import Derived.Test.YtjlhjabgclflcaaGreatDoorTd
set_option linter.unusedSimpArgs false
set_option linter.unusedVariables false
namespace Go.Proofs.YtjlhjabgclflcaaGreatDoor
open Go.RowKit
def tcells (t:Tok):List Value:=[.int .i64 t.k,.string ⟨t.t.toArray⟩,.int .i64 t.v,.int .i64 t.at_]
def tvals (l:List Tok):List Value:=l.flatMap tcells
theorem tvals_append (l:List Tok) (t:Tok):tvals (l++[t])=tvals l++tcells t:=by
 unfold tvals;rw[List.flatMap_append];simp
def OwnT (w:World) (base:Nat) (ty:TypeId) (v:Value) (l:List Tok):Prop:=w.ownsRow base ty 4 v l.length (tvals l)
theorem OwnT.nil (w:World) (base:Nat) (ty:TypeId):OwnT w base ty (.slice none 0 0) []:=World.ownsRow_nil w base ty 4
theorem OwnT.alloc {w:World} {base:Nat} {ty:TypeId} {v:Value} {l:List Tok} (h:OwnT w base ty v l) (o:Obj):OwnT (w.alloc o) base ty v l:=World.ownsRow.alloc h o
theorem OwnT.kept {w w':World} {base:Nat} {ty:TypeId} {v:Value} {l:List Tok} (h:OwnT w base ty v l) {row:Option Nat} (hg:w.grownBy w' row) (hne:v.ownBlock=none∨v.ownBlock≠row):OwnT w' base ty v l:=World.ownsRow.kept h hg hne
theorem OwnT.other {w w':World} {base g:Nat} {ty:TypeId} {v:Value} {l:List Tok} (h:OwnT w base ty v l) (hg:w.grownBy w' (some g)) (hlt:g<base):OwnT w' base ty v l:=by
 refine h.kept hg (.inr fun e=> ?_);have:=(World.ownsRow.lt h g e).1;omega
theorem OwnT.below {w w':World} {base:Nat} {ty:TypeId} {v:Value} {l:List Tok} (h:OwnT w base ty v l) (hb:Below w.heap.size w w'):OwnT w' base ty v l:=by
 obtain ⟨h1,h2⟩:=h;refine ⟨h1,?_⟩;rcases h2 with h2|⟨g,cap,cur,hv,hg,hh,r⟩
 ·exact Or.inl h2
 ·exact Or.inr ⟨g,cap,cur,hv,hg,by rw[hb.block g (Array.getElem?_eq_some_iff.1 hh).1];exact hh,r⟩
theorem OwnT.weaken {w:World} {base base':Nat} {ty:TypeId} {v:Value} {l:List Tok} (h:OwnT w (base+base') ty v l):OwnT w base ty v l:=by
 obtain ⟨h1,h2⟩:=h;refine ⟨h1,?_⟩;rcases h2 with h2|⟨g,cap,cur,hv,hg,r⟩
 ·exact Or.inl h2
 ·exact Or.inr ⟨g,cap,cur,hv,by omega,r⟩
theorem OwnT.len {w:World} {base:Nat} {ty:TypeId} {v:Value} {l:List Tok} (h:OwnT w base ty v l):∃A c,v= .slice A l.length c:=by
 obtain ⟨_,h2⟩:=h;rcases h2 with ⟨h2,h3⟩|⟨g,cap,cur,hv,_⟩
 ·exact ⟨none,0,by rw[h2,h3]⟩
 ·exact ⟨_,_,hv⟩
theorem info_tok:(Tryz.prog.info? 163).map (fun i=>(i.zero,i.size,i.bytes))=some (some (.agg #[.int .i64 0,.string ⟨#[]⟩,.int .i64 0,.int .i64 0]),4,40):=by kernel_rfl
theorem info_rtok:(Tryz.prog.info? 105).map (fun i=>(i.zero,i.size,i.bytes))=some (some (.agg #[.int .i64 0,.string ⟨#[]⟩,.int .i64 0,.int .i64 0]),4,40):=by kernel_rfl
theorem wp_appT {ops:Array Oper} {rest:List Oper} {o:Oper} {a:Act} {Q:Exit→Act→World→Prop} (s x:Operand) (w:World) (base:Nat) (v:Value) (l:List Tok) (t:Tok) {u:ByteArray} {A:Int} {N:Nat} (hN:N=w.heap.size) (hu:u=⟨t.t.toArray⟩) (hA:A=(t.at_:Int)) (hown:OwnT w base 163 v l) (hb:base≤w.heap.size) (hlen:l.length≤1000000) (hgd:o.guard=none) (ho:o.op= .call {callee:= .builtin .append,args:= #[s,x],argTypes:= #[125,125]}) (hs:a.eval s=v) (hx:a.eval x= .slice (some ⟨N,0,none⟩) 1 1) (K:∀v' w',OwnT w' base 163 v' (l++[t])→w.grownBy w' v.ownBlock→Below base w w'→wpList Tryz.prog ops Q rest (a.put o.dst v') w'):wpList Tryz.prog ops Q (o::rest) a (w.alloc (.cells #[.int .i64 t.k,.string u,.int .i64 t.v,.int .i64 A] 163)):=by
 subst hu hA hN;obtain ⟨i0,hi,hz0,hz1,hz2⟩:=info_parts info_tok;have hsz:(w.alloc (.cells #[.int .i64 t.k,.string ⟨t.t.toArray⟩,.int .i64 t.v,.int .i64 (t.at_:Int)] 163)).heap.size=w.heap.size+1:=by simp
 have hk:=Blk.new w 163 #[.int .i64 t.k,.string ⟨t.t.toArray⟩,.int .i64 t.v,.int .i64 (t.at_:Int)];refine wpList_append_own _ hgd s x 125 ho base 163 i0 _ 4 40 Tryz.underlying125 hi hz0 hz1 hz2 rfl (by decide) v l.length (tvals l) hs (hown.alloc _) ⟨w.heap.size,0,none⟩ 1 1 (tcells t) hx rfl
  ?_ ?_ ?_ ?_ ?_ ?_
 ·intro j y hj;rw[show (⟨w.heap.size,0,none⟩:Addr).add j=⟨w.heap.size,j,none⟩ by simp[Addr.add];exact fun e=>e.symm];rw[hk.cell j];rw[←hj];simp[tcells]
 ·intro y hy;simp only[tcells,List.mem_cons,List.not_mem_nil,or_false]at hy;rcases hy with rfl|rfl|rfl|rfl<;>rfl
 ·unfold maxLen;omega
 ·omega
 ·rw[hsz];omega
 ·intro v' w' h1 h2 _;have hg:w.grownBy w' v.ownBlock:=⟨h2.os,h2.tape,h2.output,by have:=h2.size;rw[hsz]at this;omega,fun k hk hne=>by
   rw[h2.block k (by rw[hsz];omega) hne];exact Below.heap_alloc w _ k hk⟩
  refine K v' w' ?_ hg ?_
  ·unfold OwnT;rw[tvals_append,List.length_append];exact h1
  ·refine (Below.refl base w).grown hg hb (fun k hk=>(World.ownsRow.lt hown k hk).1)
theorem wp_appR {ops:Array Oper} {rest:List Oper} {o:Oper} {a:Act} {Q:Exit→Act→World→Prop} (s x:Operand) (w:World) (base:Nat) (v:Value) (l:List Tok) (t:Tok) {u:ByteArray} {A:Int} {N:Nat} (hN:N=w.heap.size) (hu:u=⟨t.t.toArray⟩) (hA:A=(t.at_:Int)) (hown:OwnT w base 105 v l) (hb:base≤w.heap.size) (hlen:l.length≤1000000) (hgd:o.guard=none) (ho:o.op= .call {callee:= .builtin .append,args:= #[s,x],argTypes:= #[101,101]}) (hs:a.eval s=v) (hx:a.eval x= .slice (some ⟨N,0,none⟩) 1 1) (K:∀v' w',OwnT w' base 105 v' (l++[t])→w.grownBy w' v.ownBlock→Below base w w'→wpList Tryz.prog ops Q rest (a.put o.dst v') w'):wpList Tryz.prog ops Q (o::rest) a (w.alloc (.cells #[.int .i64 t.k,.string u,.int .i64 t.v,.int .i64 A] 105)):=by
 subst hu hA hN;obtain ⟨i0,hi,hz0,hz1,hz2⟩:=info_parts info_rtok;have hsz:(w.alloc (.cells #[.int .i64 t.k,.string ⟨t.t.toArray⟩,.int .i64 t.v,.int .i64 (t.at_:Int)] 105)).heap.size=w.heap.size+1:=by simp
 have hk:=Blk.new w 105 #[.int .i64 t.k,.string ⟨t.t.toArray⟩,.int .i64 t.v,.int .i64 (t.at_:Int)];refine wpList_append_own _ hgd s x 101 ho base 105 i0 _ 4 40 Tryz.underlying101 hi hz0 hz1 hz2 rfl (by decide) v l.length (tvals l) hs (hown.alloc _) ⟨w.heap.size,0,none⟩ 1 1 (tcells t) hx rfl
  ?_ ?_ ?_ ?_ ?_ ?_
 ·intro j y hj;rw[show (⟨w.heap.size,0,none⟩:Addr).add j=⟨w.heap.size,j,none⟩ by simp[Addr.add];exact fun e=>e.symm];rw[hk.cell j];rw[←hj];simp[tcells]
 ·intro y hy;simp only[tcells,List.mem_cons,List.not_mem_nil,or_false]at hy;rcases hy with rfl|rfl|rfl|rfl<;>rfl
 ·unfold maxLen;omega
 ·omega
 ·rw[hsz];omega
 ·intro v' w' h1 h2 _;have hg:w.grownBy w' v.ownBlock:=⟨h2.os,h2.tape,h2.output,by have:=h2.size;rw[hsz]at this;omega,fun k hk hne=>by
   rw[h2.block k (by rw[hsz];omega) hne];exact Below.heap_alloc w _ k hk⟩
  refine K v' w' ?_ hg ?_
  ·unfold OwnT;rw[tvals_append,List.length_append];exact h1
  ·refine (Below.refl base w).grown hg hb (fun k hk=>(World.ownsRow.lt hown k hk).1)
end Go.Proofs.YtjlhjabgclflcaaGreatDoor
set_option maxHeartbeats 8000000
set_option maxRecDepth 100000
set_option linter.unusedSimpArgs false
set_option linter.unusedVariables false
namespace Go.Proofs.YtjlhjabgclflcaaGreatDoor
open Go.RowKit
def ErrVars (w:World):Prop:=(∃e,w.cell? ⟨2,0,none⟩=some e∧(e= .nilIface∨∃t p,e= .iface t p))∧(∃e,w.cell? ⟨3,0,none⟩=some e∧(e= .nilIface∨∃t p,e= .iface t p))∧2<w.heap.size∧3<w.heap.size
theorem ErrVars.below {w w':World} (h:ErrVars w) (q:Below w.heap.size w w'):ErrVars w':=by
 obtain ⟨⟨e,h1,h2⟩,⟨f,h3,h4⟩,h5,h6⟩:=h;exact ⟨⟨e,(q.cell (p:=⟨2,0,none⟩) h5).trans h1,h2⟩,⟨f,(q.cell (p:=⟨3,0,none⟩) h6).trans h3,h4⟩,Nat.lt_of_lt_of_le h5 q.size,Nat.lt_of_lt_of_le h6 q.size⟩
def RetTok (ty:TypeId) (w w':World) (e:Ending) (r:List Tok×Nat×Int):Prop:=(∃v,e= .returned (.tuple #[v,.int .i64 r.2.1,.int .i64 r.2.2])∧OwnT w' w.heap.size ty v r.1)∧Below w.heap.size w w'
theorem grown_below {w0 w w':World} {g:Nat} (h:Below w0.heap.size w0 w) (hg:w.grownBy w' (some g)) (hlt:w0.heap.size≤g):Below w0.heap.size w0 w':=h.grown hg h.size (fun k e=>by injection e with e;rw[←e];exact hlt)
theorem parse_ok {t:ByteArray} {v:Int} {w:World} (h:Lib.parseIntB 64 t.data.toList= .ok v) (hs:t.size≤8192):Calls Tryz.prog 50 #[.string t,.int .i64 10,.int .i64 64] w fun e w'=>e= .returned (.tuple #[.int .i64 v,.nilIface])∧Below w.heap.size w w':=
 (Tryz.strconv_ParseInt_10_at64_ok t (by omega) v h w).mono fun _ _ ⟨h1,h2⟩=>⟨h1,by
  rcases h2 with rfl|⟨t,rfl⟩
  ·exact Below.refl _ _
  ·exact Lib.bytesWorld_below _ _ _⟩
theorem parse_bad {t:ByteArray} {w:World} (hE:ErrVars w) (h:∀v,Lib.parseIntB 64 t.data.toList≠.ok v) (hs:t.size≤8192):Calls Tryz.prog 50 #[.string t,.int .i64 10,.int .i64 64] w fun e w'=>(∃u p,e= .returned (.tuple #[.int .i64 u,.iface 147 (.pointer (some p))]))∧Below w.heap.size w w':=by
 obtain ⟨⟨e0,h1,h2⟩,⟨e1,h3,h4⟩,_⟩:=hE;cases hp:Lib.parseIntB 64 t.data.toList with
 |ok v=>exact absurd hp (h v)
 |range=>exact (Tryz.strconv_ParseInt_10_at64_range t (by omega) hp e1 w h3 h4).mono fun _ _ ⟨N,h5,_,_,h8⟩=>⟨⟨_,_,h5⟩,h8⟩
 |_=>exact (Tryz.strconv_ParseInt_10_at64_syntax t (by omega) (hp.trans (by rfl)) e0 w h1 h2).mono fun _ _ ⟨N,h5,_,_,h8⟩=>⟨⟨_,_,h5⟩,h8⟩
theorem drop_ne {s:ByteArray} {j:Nat} (h:j<s.size):s.data.toList.drop j≠[]:=by rw[drop_at h];simp
theorem drop_len (s:ByteArray) (j:Nat):(s.data.toList.drop j).length=s.size-j:=by rw[List.length_drop];simp
theorem splitB_end {s:ByteArray} {j:Nat} {acc:List Tok} (h:¬j<s.size):splitB s.size (s.data.toList.drop j) acc=(acc,0,0):=by
 rw[splitB,if_pos (List.drop_eq_nil_of_le (by simp;omega))]
theorem splitB_full {s:ByteArray} {j:Nat} {acc:List Tok} (h:j<s.size) (ha:acc.length=4096):splitB s.size (s.data.toList.drop j) acc=([],j,3):=by
 rw[splitB,if_neg (drop_ne h),if_pos ha,drop_len];congr 2;omega
theorem splitB_none {s:ByteArray} {j:Nat} {acc:List Tok} (h:j<s.size) (ha:acc.length≠4096) (hw:(wordL (s.data.toList.drop j)).1=0):splitB s.size (s.data.toList.drop j) acc=([],j,5):=by
 rw[splitB,if_neg (drop_ne h),if_neg ha,dif_pos hw,drop_len];congr 2;omega
theorem take_ext (s:ByteArray) (j m:Nat):(s.extract j (j+m)).data.toList=(s.data.toList.drop j).take m:=by
 rw[ByteArray.data_extract,Array.toList_extract,List.extract_eq_take_drop,Nat.add_sub_cancel_left]
theorem splitB_bad {s:ByteArray} {j m:Nat} {acc:List Tok} (h:j<s.size) (ha:acc.length≠4096) (hw:wordL (s.data.toList.drop j)=(2,m)) (hp:∀v,Lib.parseIntB 64 (s.extract j (j+m)).data.toList≠.ok v):splitB s.size (s.data.toList.drop j) acc=([],j,4):=by
 rw[splitB,if_neg (drop_ne h),if_neg ha,dif_neg (by rw[hw];exact (by decide:(2:Int)≠0)),if_pos (by rw[hw]),hw,drop_len];rw[take_ext]at hp;split
 ·rename_i v e;exact absurd e (hp v)
 ·congr 2;omega
theorem splitB_num {s:ByteArray} {j m:Nat} {v:Int} {acc:List Tok} (h:j<s.size) (ha:acc.length≠4096) (hw:wordL (s.data.toList.drop j)=(2,m)) (hp:Lib.parseIntB 64 (s.extract j (j+m)).data.toList= .ok v):splitB s.size (s.data.toList.drop j) acc=splitB s.size (blankL (s.data.toList.drop (j+m))) (acc++[⟨2,(s.extract j (j+m)).data.toList,v,j⟩]):=by
 rw[splitB,if_neg (drop_ne h),if_neg ha,dif_neg (by rw[hw];exact (by decide:(2:Int)≠0)),if_pos (by rw[hw]),hw,drop_len];rw[take_ext]at hp;rw[hp,take_ext,List.drop_drop,show s.size-(s.size-j)=j by omega]
theorem splitB_word {s:ByteArray} {j m:Nat} {k:Int} {acc:List Tok} (h:j<s.size) (ha:acc.length≠4096) (hw:wordL (s.data.toList.drop j)=(k,m)) (hk:k≠0) (hk2:k≠2):splitB s.size (s.data.toList.drop j) acc=splitB s.size (blankL (s.data.toList.drop (j+m))) (acc++[⟨k,(s.extract j (j+m)).data.toList,0,j⟩]):=by
 rw[splitB,if_neg (drop_ne h),if_neg ha,dif_neg (by rw[hw];exact hk),if_neg (by rw[hw];exact hk2),hw,drop_len,take_ext,List.drop_drop,show s.size-(s.size-j)=j by omega]
theorem wordL_le (l:List UInt8):(wordL l).2≤l.length:=by
 by_cases h:(wordL l).1=0
 ·cases l with
  |nil=>exact Nat.zero_le _
  |cons c r=>
   unfold wordL at h⊢;simp only at h⊢;split
   ·rename_i e;rw[if_pos e]at h;cases h
   ·rename_i e1;rw[if_neg e1]at h;split
    ·rename_i e;rw[if_pos e]at h;cases h
    ·rename_i e2;rw[if_neg e2]at h;split
     ·rename_i e;rw[if_pos e]at h;cases h
     ·rename_i e3;rw[if_neg e3]at h;split
      ·rename_i e;rw[if_pos e]at h;cases h
      ·rename_i e4;rw[if_neg e4]at h;split
       ·rename_i e;rw[if_pos e]at h;cases h
       ·exact Nat.zero_le _
 ·exact (wordL_pos h).2
theorem ext_eta (u:ByteArray):u=⟨u.data.toList.toArray⟩:=by cases u;simp
theorem Rdr.own {w w':World} {g i:Nat} {s:ByteArray} {row:Option Nat} (h:Rdr w g s i) (hg:w.grownBy w' row) (hne:some g≠row):Rdr w' g s i:=(hg.block g (Blk.lt h) hne).trans h
theorem ext_size {s:ByteArray} {j m:Nat} (h:j+m≤s.size) (hs:s.size≤8192):(s.extract j (j+m)).size≤8192:=by
 have:(s.extract j (j+m)).size=min (j+m) s.size-j:=by simp
 omega
theorem split_any (s:ByteArray) (w:World) (hE:ErrVars w):Calls Tryz.prog 78 #[.string s] w fun e w'=>RetTok 163 w w' e (splitR s.data.toList):=by
 by_cases hbig:8192<s.size
 ·have hR:Hid (splitR s.data.toList=([],0,3)):=by
   show _=_;unfold splitR;rw[if_pos (by simpa using hbig)]
  go_enter Tryz.func78,Tryz.ntmps78;go_wp2;rw[hR.out];exact bodyPost_ret (v:= .tuple #[.slice none 0 0,.int .i64 0,.int .i64 3]) (by simp[results,Tryz.results78,go_sem]) rfl ⟨⟨_,rfl,OwnT.nil _ _ _⟩,Below.refl _ _⟩
 have hs:s.size≤8192:=by omega
 have hR:Hid (splitR s.data.toList=splitB s.size (blankL s.data.toList) []):=by
  show _=_;unfold splitR;rw[if_neg (by simpa using hbig)];congr 1
 rw[hR.out];generalize hRR:splitB s.size (blankL s.data.toList) []=R;have HR0:=Lib.hid hRR;clear hRR;have d1:decide ((8192:Int)<(s.size:Int))=false:=decide_eq_false (by omega);clear hbig hR;have hr0:Rdr (w.alloc (.cells #[.string s,.int .i64 0] 162)) w.heap.size s 0:=Blk.new w 162 #[.string s,.int .i64 0];have hb0:=below_alloc1 w (.cells #[.string s,.int .i64 0] 162);go_enter Tryz.func78,Tryz.ntmps78;go_wp2_with fail;refine (blank_any hr0 hs (Nat.zero_le _)).mono ?_;rintro e w2 ⟨rfl,hr,hg,_,hi,hd⟩;have hb:=grown_below hb0 hg (Nat.le_refl _);rw[List.drop_zero]at hd;have hRR:splitB s.size (s.data.toList.drop (bl s 0)) []=R:=by rw[hd];exact HR0.out
 have HR:=Lib.hid hRR;clear hd hRR HR0 hr0 hb0 hg;generalize bl s 0=i at*;have hsz:w.heap.size<w2.heap.size:=Blk.lt hr;go_wp2_with fail;go_loopg [5] (s.size-i) (fun k v wr=>∃acc j,k=s.size-j∧j≤s.size∧acc.length≤j∧Hid (splitB s.size (s.data.toList.drop j) acc=R)∧OwnT wr (w.heap.size+1) 163 v acc∧Rdr wr w.heap.size s j∧Below w.heap.size w wr)
 case atStart=>exact ⟨[],i,rfl,hi,Nat.zero_le _,HR,OwnT.nil _ _ _,hr,hb⟩
 case round=>
  obtain ⟨acc,j,hk,hj,hal,hT,ho,hr',hb'⟩:=hrel;clear hr hb HR hi hsz;obtain ⟨v1,v2,v3,v4⟩:=Blk.both hr';obtain ⟨A,c,rfl⟩:=ho.len;by_cases hlt:j<s.size
  case neg=>
   have hR:=hT.out;rw[splitB_end hlt]at hR;have HR:=Lib.hid hR;clear hR hT;have d2:decide ((j:Int)<(s.size:Int))=false:=decide_eq_false (by omega);go_wp2;rw[←HR.out];exact bodyPost_ret (v:= .tuple #[.slice A acc.length c,.int .i64 0,.int .i64 0]) (by simp[results,Tryz.results78,go_sem]) rfl ⟨⟨_,rfl,ho.weaken⟩,hb'⟩
  have d2:decide ((j:Int)<(s.size:Int))=true:=decide_eq_true (by omega);by_cases hfull:acc.length=4096
  ·have hR:=hT.out;rw[splitB_full hlt hfull]at hR;have HR:=Lib.hid hR;have d3:((acc.length:Int)==4096)=true:=by rw[hfull];rfl
   clear hR hT;go_wp2;go_quiet (fail);go_wp2;rw[←HR.out];exact bodyPost_ret (v:= .tuple #[.slice none 0 0,.int .i64 j,.int .i64 3]) (by simp[results,Tryz.results78,go_sem]) rfl ⟨⟨_,rfl,OwnT.nil _ _ _⟩,(below_trans hb' (below_alloc1 _ _)).trans ((Read.drewN (Read.refl _) _).below _)⟩
  have d3:((acc.length:Int)==4096)=false:=by simp;omega
  go_wp2_with fail;refine (word_any (Blk.alloc hr' _) hs hlt).mono ?_;generalize hwl:wordL (s.data.toList.drop j)=km;obtain ⟨k,m⟩:=km;rintro e w3 ⟨rfl,hr3,hg3⟩;replace hr3:Rdr w3 w.heap.size s (j+m):=hr3;have hbg:w.heap.size<wr.heap.size:=Blk.lt hr';have kb3:=(Blk.new wr 163 #[.int .i64 0,.string ⟨#[]⟩,.int .i64 0,.int .i64 j]).turn hg3 (by omega);have hnb:(Value.slice A acc.length c).ownBlock≠some wr.heap.size:=fun e=>by have:=(World.ownsRow.lt ho _ e).2;omega
  have ho3:=(ho.alloc (.cells #[.int .i64 0,.string ⟨#[]⟩,.int .i64 0,.int .i64 j] 163)).other hg3 (by omega);have hb3:=grown_below (below_trans hb' (below_alloc1 _ _)) hg3 (Nat.le_refl _);have hm:k≠0→1≤m:=fun h=>by
   have h1:=wordL_pos (l:=s.data.toList.drop j) (by rw[hwl];exact h);rw[hwl]at h1;exact h1.1
  have hm2:j+m≤s.size:=by
   have h1:=wordL_le (s.data.toList.drop j);rw[hwl,drop_len]at h1;omega
  have HW:=Lib.hid hwl;clear hr' hg3 ho hb' hwl v1 v2 v3 v4;generalize wr.heap.size=b at*;obtain ⟨f1,f2,f3,f4⟩:=kb3.four;have z0:=kb3.frozen 0;go_upto_region 12 with fail;have kb4:=kb3.set_ 0 (.int .i64 k);have hr4:Rdr (w3.setCell ⟨b,0,none⟩ (.int .i64 k)) w.heap.size s (j+m):=Blk.far hr3 (Nat.ne_of_lt hbg) _;have ho4:=ho3.kept (grown_set w3 ⟨b,0,none⟩ (.int .i64 k)) (.inr hnb);have hb4:=grown_below hb3 (grown_set w3 ⟨b,0,none⟩ (.int .i64 k)) (by show w.heap.size≤b;omega);clear kb3 hr3 ho3 hb3 f1 f2 f3 f4 z0;generalize w3.setCell ⟨b,0,none⟩ (.int .i64 k)=W4 at*;replace kb4:Blk W4 b 163 #[.int .i64 k,.string ⟨#[]⟩,.int .i64 0,.int .i64 j]:=kb4;go_cut [] (fun wx=>Blk wx b 163 #[.int .i64 k,.string (s.extract j (j+m)),.int .i64 0,.int .i64 j]∧Rdr wx w.heap.size s (j+m)∧OwnT wx (w.heap.size+1) 163 (.slice A acc.length c) acc∧Below w.heap.size w wx)
  case first=>
   obtain ⟨f1,f2,f3,f4⟩:=kb4.four;have z1:=kb4.frozen 1;obtain ⟨v1,v2,v3,v4⟩:=Blk.both hr4;go_region;go_wp2_with fail;go_meet;exact ⟨(kb4.set_ 1 _).drew,Blk.drew (Blk.far hr4 (Nat.ne_of_lt hbg) _),ho4.kept ((grown_set W4 ⟨b,1,none⟩ (.string (s.extract j (j+m)))).trans ((Read.refl _).drew.grown _)) (.inr hnb),(grown_below hb4 (grown_set W4 ⟨b,1,none⟩ (.string (s.extract j (j+m)))) (by show w.heap.size≤b;omega)).trans ((Read.refl _).drew.below _)⟩
  case rest=>
   clear kb4 hr4 ho4 hb4;obtain ⟨kb,hr,ho,hb⟩:=hcut;obtain ⟨f1,f2,f3,f4⟩:=kb.four;have hal4:acc.length≠4096:=hfull;by_cases hk0:k=0
   ·subst hk0;have hR:=hT.out;rw[splitB_none hlt hal4 (by rw[HW.out])]at hR;have HR:=Lib.hid hR;clear hR hT;go_wp2;go_quiet (fail);go_wp2;rw[←HR.out];exact bodyPost_ret (v:= .tuple #[.slice none 0 0,.int .i64 j,.int .i64 5]) (by simp[results,Tryz.results78,go_sem]) rfl ⟨⟨_,rfl,OwnT.nil _ _ _⟩,hb.trans ((Read.drewN (Read.refl _) _).below _)⟩
   have hm1:=hm hk0;clear hm;by_cases hk2:k=2
   ·subst hk2;have hsz:=ext_size hm2 hs;by_cases hp:∃v,Lib.parseIntB 64 (s.extract j (j+m)).data.toList= .ok v
    ·obtain ⟨v,hp⟩:=hp;have hT2:splitB s.size (blankL (s.data.toList.drop (j+m))) (acc++[⟨2,(s.extract j (j+m)).data.toList,v,j⟩])=R:=by rw[←splitB_num hlt hal4 HW.out hp];exact hT.out
     have HT:=Lib.hid hT2;have HP:=Lib.hid hp;clear hT2 hT hp;go_wp2_with fail;refine (parse_ok HP.out hsz).mono ?_;rintro e w5 ⟨rfl,q⟩;have kb5:=Blk.below kb q (Nat.le_refl _);have hr5:Rdr w5 w.heap.size s (j+m):=Blk.below hr q (Nat.le_refl _);have ho5:=ho.below q;have hb5:=hb.trans (q.mono hb.size);clear kb hr ho hb q f1 f2 f3 f4;obtain ⟨f1,f2,f3,f4⟩:=kb5.four;have z2:=kb5.frozen 2;have hr6:Rdr (w5.setCell ⟨b,2,none⟩ (.int .i64 v)) w.heap.size s (j+m):=Blk.far hr5 (Nat.ne_of_lt hbg) _;have ho6:=ho5.kept (grown_set w5 ⟨b,2,none⟩ (.int .i64 v)) (.inr hnb);have hb6:=grown_below hb5 (grown_set w5 ⟨b,2,none⟩ (.int .i64 v)) (by show w.heap.size≤b;omega);have hbw:b<w5.heap.size:=Blk.lt kb5;go_wp2_with (at_builtin;refine wp_appT _ _ (w5.setCell ⟨b,2,none⟩ (.int .i64 v)) (w.heap.size+1) _ acc ⟨2,(s.extract j (j+m)).data.toList,v,j⟩ (by simp) (ext_eta _) rfl ho6 (by simp;omega) (by omega) rfl rfl rfl rfl ?_;intro v' w7 ho7 hg7 hb7);have hr7:=hr6.own hg7 (fun e=>by have:=(World.ownsRow.lt ho6 _ e.symm).1;omega);have hbl7:Below w.heap.size w w7:=hb6.trans (hb7.mono (by omega));refine (blank_any hr7 hs hm2).mono ?_;rintro e w8 ⟨rfl,hr8,hg8,hi1,hi2,hd8⟩;have ho8:=ho7.other hg8 (by omega);have hb8:=grown_below hbl7 hg8 (Nat.le_refl _);have hT3:=HT.out;rw[←hd8]at hT3;have HT3:=Lib.hid hT3;clear hT3 hd8 HT;go_wp2_with fail;go_roundg (s.size-bl s (j+m))
     case measure=>omega
     case rel=>exact ⟨_,_,rfl,hi2,by simp;omega,HT3,ho8,hr8,hb8⟩
    ·have hpn:∀v,Lib.parseIntB 64 (s.extract j (j+m)).data.toList≠.ok v:=fun v h=>hp ⟨v,h⟩;have hR:=hT.out;rw[splitB_bad hlt hal4 HW.out hpn]at hR;have HR:=Lib.hid hR;have HN:=Lib.hid hpn;have hEw:=hE.below hb;clear hR hT hp hpn;go_wp2_with fail;refine (parse_bad hEw HN.out hsz).mono ?_;rintro e w5 ⟨⟨u,p,rfl⟩,q⟩;have kb5:=Blk.below kb q (Nat.le_refl _);have hb5:=hb.trans (q.mono hb.size);clear kb hr ho hb q f1 f2 f3 f4;obtain ⟨f1,f2,f3,f4⟩:=kb5.four;go_wp2;go_quiet (fail);go_wp2;rw[←HR.out];exact bodyPost_ret (v:= .tuple #[.slice none 0 0,.int .i64 j,.int .i64 4]) (by simp[results,Tryz.results78,go_sem]) rfl ⟨⟨_,rfl,OwnT.nil _ _ _⟩,hb5.trans ((Read.drewN (Read.refl _) _).below _)⟩
   ·have hT2:splitB s.size (blankL (s.data.toList.drop (j+m))) (acc++[⟨k,(s.extract j (j+m)).data.toList,0,j⟩])=R:=by rw[←splitB_word hlt hal4 HW.out hk0 hk2];exact hT.out
    have HT:=Lib.hid hT2;have b0:(k==0)=false:=by simpa using hk0
    have b2:(k==2)=false:=by simpa using hk2
    clear hT2 hT;go_wp2_with (at_builtin;refine wp_appT _ _ wc (w.heap.size+1) _ acc ⟨k,(s.extract j (j+m)).data.toList,0,j⟩ (by first|rfl|simp) (ext_eta _) rfl ho (by have:=Blk.lt kb;omega) (by omega) rfl rfl rfl rfl ?_;intro v' w6 ho6 hg6 hb6);have hr6:=hr.own hg6 (fun e=>by have:=(World.ownsRow.lt ho _ e.symm).1;omega);have hbl6:Below w.heap.size w w6:=hb.trans (hb6.mono (by omega));refine (blank_any hr6 hs hm2).mono ?_;rintro e w8 ⟨rfl,hr8,hg8,hi1,hi2,hd8⟩;have ho8:=ho6.other hg8 (by omega);have hb8:=grown_below hbl6 hg8 (Nat.le_refl _);have hT3:=HT.out;rw[←hd8]at hT3;have HT3:=Lib.hid hT3;clear hT3 hd8 HT;go_wp2_with fail;go_roundg (s.size-bl s (j+m))
    case measure=>omega
    case rel=>exact ⟨_,_,rfl,hi2,by simp;omega,HT3,ho8,hr8,hb8⟩
end Go.Proofs.YtjlhjabgclflcaaGreatDoor
