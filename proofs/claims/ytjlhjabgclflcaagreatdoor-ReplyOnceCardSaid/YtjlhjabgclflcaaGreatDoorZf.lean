/-
  Joined texts: Zc, Zd, Ze, B5, Zf.
-/
import Derived.Test.YtjlhjabgclflcaaGreatDoorZb
import Derived.Test.YtjlhjabgclflcaaGreatDoorVi
import Derived.Test.YtjlhjabgclflcaaGreatDoorVj
import Derived.Test.YtjlhjabgclflcaaGreatDoorVx
import Derived.Test.YtjlhjabgclflcaaGreatDoorReg
set_option linter.unusedSimpArgs false
set_option linter.unusedVariables false
namespace Go.Proofs.YtjlhjabgclflcaaGreatDoor
open Go.RowKit Num Go.Joins
def layN (ty:TypeId):Lay Int:=⟨ty,1,fun _=> .eq fun x=> .int .i64 x⟩
def layO (ty tx:TypeId):Lay Ot:=⟨ty,4,fun
 |0=> .eq fun x=> .string ⟨x.name.toArray⟩
 |1=> .eq fun x=> .bool x.bool
 |2=> .eq fun x=> .bool x.arr
 |_=>(layN tx).row.via (·.x)⟩
def layG (ty tv:TypeId):Lay (Ot×List Int):=⟨ty,5,fun
 |0=> .eq fun x=> .string ⟨x.1.name.toArray⟩
 |1=> .eq fun x=> .bool x.1.bool
 |2=> .eq fun x=> .bool x.1.arr
 |3=> .len (·.1.x.length)
 |_=>(layN tv).row.via (·.2)⟩
theorem row_n {ty:TypeId} {F:Nat→Prop} {w:World} {A:Option Addr} {n c:Nat} {l:List Int} (h:(layN ty).row.P F w (.slice A n c) l) (hn:l≠[]):∃b o,A=some ⟨b,o,none⟩∧b<w.heap.size∧∀j (hj:j<l.length),w.cell? ⟨b,o+j,none⟩=some (.int .i64 l[j]):=by
 obtain ⟨A',c',h1,h2,h3,h4⟩:=h;obtain ⟨b,o,h5,h6,h7,h8⟩:=h4 hn;injection h1 with e1 _ _;subst e1;refine ⟨b,o,h5,h7,fun j hj=> ?_⟩;obtain ⟨u0,k0,p0⟩:=h8 j hj 0 (by show 0<1;omega);have p0':u0= .int .i64 l[j]:=p0;subst p0';have e:o+j*(layN ty).sz+0=o+j:=by
  show o+j*1+0=_;omega
 rw[e]at k0;exact k0
theorem row_o {ty tx : TypeId} {F : Nat → Prop} {w : World} {A : Option Addr} {n c : Nat} {l : List Ot} (h : (layO ty tx).row.P F w (.slice A n c) l) (hn : l ≠ []) :
    ∃ b o, A = some ⟨b, o, none⟩ ∧ b < w.heap.size ∧ ∀ j (hj : j < l.length), w.cell? ⟨b, o + j * 4, none⟩ = some (.string ⟨l[j].name.toArray⟩) ∧ w.cell? ⟨b, o + j * 4 + 1, none⟩ = some (.bool l[j].bool) ∧ w.cell? ⟨b, o + j * 4 + 2, none⟩ = some (.bool l[j].arr) ∧
      ∃ A3 c3, w.cell? ⟨b, o + j * 4 + 3, none⟩ = some (.slice A3 l[j].x.length c3) ∧ (layN tx).row.P F w (.slice A3 l[j].x.length c3) l[j].x := by
  obtain ⟨A', c', h1, h2, h3, h4⟩ := h
  obtain ⟨b, o, h5, h6, h7, h8⟩ := h4 hn
  injection h1 with e1 _ _
  subst e1
  refine ⟨b, o, h5, h7, fun j hj => ?_⟩
  obtain ⟨u0, k0, p0⟩ := h8 j hj 0 (by show 0 < 4; omega)
  obtain ⟨u1, k1, p1⟩ := h8 j hj 1 (by show 1 < 4; omega)
  obtain ⟨u2, k2, p2⟩ := h8 j hj 2 (by show 2 < 4; omega)
  obtain ⟨u3, k3, p3⟩ := h8 j hj 3 (by show 3 < 4; omega)
  have p0' : u0 = .string ⟨l[j].name.toArray⟩ := p0
  have p1' : u1 = .bool l[j].bool := p1
  have p2' : u2 = .bool l[j].arr := p2
  have p3' : (layN tx).row.P F w u3 l[j].x := p3
  obtain ⟨A3, c3, e3⟩ := Lay.row_len p3'
  subst p0' p1' p2' e3
  exact ⟨k0, k1, k2, A3, c3, k3, p3'⟩
theorem row_g {ty tv : TypeId} {F : Nat → Prop} {w : World} {A : Option Addr} {n c : Nat} {l : List (Ot × List Int)} (h : (layG ty tv).row.P F w (.slice A n c) l) (hn : l ≠ []) :
    ∃ b o, A = some ⟨b, o, none⟩ ∧ b < w.heap.size ∧ ∀ j (hj : j < l.length), w.cell? ⟨b, o + j * 5, none⟩ = some (.string ⟨l[j].1.name.toArray⟩) ∧ w.cell? ⟨b, o + j * 5 + 1, none⟩ = some (.bool l[j].1.bool) ∧ w.cell? ⟨b, o + j * 5 + 2, none⟩ = some (.bool l[j].1.arr) ∧
      (∃ A3 c3, w.cell? ⟨b, o + j * 5 + 3, none⟩ = some (.slice A3 l[j].1.x.length c3)) ∧
      ∃ A4 c4, w.cell? ⟨b, o + j * 5 + 4, none⟩ = some (.slice A4 l[j].2.length c4) ∧ (layN tv).row.P F w (.slice A4 l[j].2.length c4) l[j].2 := by
  obtain ⟨A', c', h1, h2, h3, h4⟩ := h
  obtain ⟨b, o, h5, h6, h7, h8⟩ := h4 hn
  injection h1 with e1 _ _
  subst e1
  refine ⟨b, o, h5, h7, fun j hj => ?_⟩
  obtain ⟨u0, k0, p0⟩ := h8 j hj 0 (by show 0 < 5; omega)
  obtain ⟨u1, k1, p1⟩ := h8 j hj 1 (by show 1 < 5; omega)
  obtain ⟨u2, k2, p2⟩ := h8 j hj 2 (by show 2 < 5; omega)
  obtain ⟨u3, k3, p3⟩ := h8 j hj 3 (by show 3 < 5; omega)
  obtain ⟨u4, k4, p4⟩ := h8 j hj 4 (by show 4 < 5; omega)
  have p0' : u0 = .string ⟨l[j].1.name.toArray⟩ := p0
  have p1' : u1 = .bool l[j].1.bool := p1
  have p2' : u2 = .bool l[j].1.arr := p2
  obtain ⟨A3, c3, p3'⟩ := p3
  have p4' : (layN tv).row.P F w u4 l[j].2 := p4
  obtain ⟨A4, c4, e4⟩ := Lay.row_len p4'
  subst p0' p1' p2' p3' e4
  exact ⟨k0, k1, k2, ⟨A3, c3, k3⟩, A4, c4, k4, p4'⟩
def RngN (l:List Int):Prop:=∀n∈l,I64 n
def RngO (o:Ot):Prop:=RngN o.x
end Go.Proofs.YtjlhjabgclflcaaGreatDoor
set_option linter.unusedSimpArgs false
set_option linter.unusedVariables false
namespace Go.Proofs.YtjlhjabgclflcaaGreatDoor
open Go.RowKit Num Go.Joins
structure EnvM (w:World):Prop where
 env:Env w
 len:∃m,w.cell? ⟨0,0,none⟩=some (.int .i64 m)
theorem EnvM.below {w w':World} (h:EnvM w) (q:Below w.heap.size w w'):EnvM w':=by
 obtain ⟨m,hm⟩:=h.len;exact ⟨h.env.below q,m,(q.cell (p:=⟨0,0,none⟩) (World.block_lt_of_cell? w _ hm)).trans hm⟩
def mayD (o:Ot) (v:List Int):Bool:=docName o.name&&(decide (v.length≤64)&&((o.arr||v.length==1)&&(!o.bool||v.all bitV)))
def maysD:List Ot→List (List Int)→Bool
 |o::l,v::r=>mayD o v&&maysD l r
 |_,_=>true
theorem may_doc {o:Ot} (h:o.name.length≤8000) (v:List Int):mayS o v=mayD o v:=by
 unfold mayS mayD;rw[ok_sol,doc_name h]
theorem mays_doc:∀{l:List Ot} (vs:List (List Int)),(∀o∈l,o.name.length≤8000)→maysS l vs=maysD l vs
 |[],_,_=>rfl
 |_::_,[],_=>rfl
 |o::l,v::r,h=>by
  show (mayS o v&&maysS l r)=(mayD o v&&maysD l r);rw[may_doc (h o List.mem_cons_self),mays_doc r fun o ho=>h o (List.mem_cons_of_mem _ ho)]
end Go.Proofs.YtjlhjabgclflcaaGreatDoor
set_option maxHeartbeats 4000000
set_option maxRecDepth 100000
set_option linter.unusedSimpArgs false
set_option linter.unusedVariables false
namespace Go.Proofs.YtjlhjabgclflcaaGreatDoor
open Go.RowKit Num Go.Joins
theorem layN_rng {ty:TypeId} {F:Nat→Prop} {w:World} {A:Option Addr} {c:Nat} {l:List Int} (h:(layN ty).row.P F w (.slice A l.length c) l):l.length≤c∧c≤maxLen:=by
 obtain ⟨A',c',h1,h2,h3,_⟩:=h;injection h1 with _ _ e3;subst e3;exact ⟨h2,h3⟩
theorem rindex_n {F:Nat→Prop} (p:Int→Bool) {f:Nat} (hcf:∀(args:Array Value) (w:World),(callFunc f args).run Tryz.prog w= .ok (.enter f args) w) (A:Option Addr) (c:Nat) (l:List Int) (w:World) (ha:(layN 2).row.P F w (.slice A l.length c) l) (hone:∀x∈l,∀w':World,Calls Tryz.prog f #[.int .i64 x] w' fun e w2=>e= .returned (.bool (p x))∧Below w'.heap.size w' w2):Calls Tryz.prog 57 #[.slice A l.length c,.func (.func f) #[] #[]] w fun e w'=>(∃r:Int,e= .returned (.int .i64 r)∧decide (0≤r)=l.any p)∧Below w.heap.size w w':=by
 obtain ⟨hlc,hcm⟩:=layN_rng ha;have hlm:l.length≤9223372036854775807:=by unfold maxLen at hcm;omega
 clear hlc hcm;go_enter Tryz.func57,Tryz.ntmps57;go_wp2_with fail;go_loopg [8] l.length (fun k a wr=>∃(j:Nat),k=l.length-j∧j≤l.length∧a= .int .i64 (j:Nat)∧(∀y∈l.take j,p y=false)∧Below w.heap.size w wr)
 case atStart=>exact ⟨0,rfl,Nat.zero_le _,rfl,(by intro y hy;cases hy),Below.refl _ _⟩
 case round=>
  obtain ⟨j,hk,hj,rfl,hall,hbl⟩:=hrel;by_cases hlt:j<l.length
  ·have d1:decide ((j:Int)<(l.length:Int))=true:=decide_eq_true (by omega);obtain ⟨b,o,hA,hb1,hc⟩:=row_n (Dt.below _ ha hbl (Nat.le_refl _)) (fun e=>by rw[e]at hlt;cases hlt);have c1:=hc j hlt;subst hA;clear hc ha;have HA:=Lib.hid hall;clear hall;have HO:=Lib.hid (hone l[j] (List.getElem_mem hlt));have HT:=Lib.hid (List.take_succ_eq_append_getElem hlt);have HM:=Lib.hid (List.getElem_mem hlt);clear hone;generalize l[j]=x at*;go_wp2_with fail;refine (HO.out _).mono ?_;rintro e w3 ⟨rfl,q3⟩;have q4:=below_trans hbl q3;cases hg:p x with
   |true=>
    have HF:Hid (l.any p=true):=List.any_eq_true.2 ⟨x,HM.out,hg⟩;clear c1;go_wp2_with fail;refine bodyPost_ret (v:= .int .i64 (j:Nat)) (by simp[results,Tryz.results57,go_sem]) rfl ⟨⟨_,rfl,?_⟩,q4⟩;rw[HF.out];exact decide_eq_true (by omega)
   |false=>
    clear c1;have HA2:Hid (∀y∈l.take (j+1),p y=false):=by
     show _;rw[HT.out];intro y hy;rcases List.mem_append.1 hy with hy|hy
     ·exact HA.out y hy
     ·rw[List.mem_singleton.1 hy,hg]
    go_wp2_with fail;go_roundg (l.length-(j+1))
    case measure=>omega
    case rel=>exact ⟨j+1,rfl,by omega,by simp,HA2.out,q4⟩
  ·have d1:decide ((j:Int)<(l.length:Int))=false:=decide_eq_false (by omega);have e1:l.take j=l:=List.take_of_length_le (by omega);rw[e1]at hall;clear e1 ha hone;have HF:Hid (l.any p=false):=by
    show _=_;rw[List.any_eq_false];intro x hx h;rw[hall x hx]at h;cases h
   clear hall;go_wp2_with fail;refine bodyPost_ret (v:= .int .i64 (-1)) (by simp[results,Tryz.results57,go_sem]) rfl ⟨⟨_,rfl,?_⟩,hbl⟩;rw[HF.out];rfl
theorem rhas_n {F:Nat→Prop} (p:Int→Bool) {f:Nat} (hcf:∀(args:Array Value) (w:World),(callFunc f args).run Tryz.prog w= .ok (.enter f args) w) (A:Option Addr) (c:Nat) (l:List Int) (w:World) (ha:(layN 2).row.P F w (.slice A l.length c) l) (hone:∀x∈l,∀w':World,Calls Tryz.prog f #[.int .i64 x] w' fun e w2=>e= .returned (.bool (p x))∧Below w'.heap.size w' w2):Calls Tryz.prog 43 #[.slice A l.length c,.func (.func f) #[] #[]] w fun e w'=>e= .returned (.bool (l.any p))∧Below w.heap.size w w':=by
 have HC:=Lib.hid (rindex_n p hcf A c l w ha hone);clear ha hone;go_enter Tryz.func43,Tryz.ntmps43;go_wp2_with fail;refine HC.out.mono ?_;rintro e w3 ⟨⟨r,rfl,hr⟩,q3⟩;have HR:=Lib.hid hr;clear hr;go_wp2_with fail;refine bodyPost_ret (v:= .bool (decide (0≤r))) (by simp[results,Tryz.results43,go_sem]) rfl ⟨by rw[HR.out],q3⟩
def noBit (n:Int):Bool:= !bitV n
theorem mayc_any (v:Int) (w:World):Calls Tryz.prog 44 #[.int .i64 v] w fun e w'=>e= .returned (.bool (noBit v))∧Below w.heap.size w w':=by
 have HF:Hid (∀b,(if v=0 then false else if v=1 then false else true)=b→noBit v=b):=by
  show ∀b,_;rintro b rfl;unfold noBit bitV;by_cases h0:v=0
  ·subst h0;rfl
  ·by_cases h1:v=1
   ·subst h1;rfl
   ·rw[if_neg h0,if_neg h1,beq_eq_false_iff_ne.2 h0,beq_eq_false_iff_ne.2 h1];rfl
 by_cases h0:v=0
 ·subst h0;go_enter Tryz.func44,Tryz.ntmps44;go_wp2_with fail;refine bodyPost_ret (v:= .bool false) (by simp[results,Tryz.results44,go_sem]) rfl ⟨by rw[HF.out false rfl],Below.refl _ _⟩
 ·have h0':=ne_bool h0;by_cases h1:v=1
  ·subst h1;go_enter Tryz.func44,Tryz.ntmps44;go_wp2_with fail;refine bodyPost_ret (v:= .bool false) (by simp[results,Tryz.results44,go_sem]) rfl ⟨by rw[HF.out false rfl],Below.refl _ _⟩
  ·have h1':=ne_bool h1;have HG:=Lib.hid (HF.out true (by rw[if_neg h0,if_neg h1]));clear h0 h1;go_enter Tryz.func44,Tryz.ntmps44;go_wp2_with fail;refine bodyPost_ret (v:= .bool true) (by simp[results,Tryz.results44,go_sem]) rfl ⟨by rw[HG.out],Below.refl _ _⟩
end Go.Proofs.YtjlhjabgclflcaaGreatDoor
namespace Go.Proofs.YtjlhjabgclflcaaGreatDoor
open Go.RowKit
theorem Blk.five {w:World} {g:Nat} {t:TypeId} {a b c d e:Value} (h:Blk w g t #[a,b,c,d,e]):w.cell? ⟨g,0,none⟩=some a∧w.cell? ⟨g,1,none⟩=some b∧w.cell? ⟨g,2,none⟩=some c∧w.cell? ⟨g,3,none⟩=some d∧w.cell? ⟨g,4,none⟩=some e:=
 ⟨h.cell 0,h.cell 1,h.cell 2,h.cell 3,h.cell 4⟩
end Go.Proofs.YtjlhjabgclflcaaGreatDoor
set_option maxHeartbeats 8000000
set_option maxRecDepth 100000
set_option linter.unusedSimpArgs false
set_option linter.unusedVariables false
namespace Go.Proofs.YtjlhjabgclflcaaGreatDoor
open Go.RowKit Num Go.Joins
def thV (o:Ot) (A3:Option Addr) (c3:Nat) (A4:Option Addr) (n c4:Nat):Value:= .agg #[.string ⟨o.name.toArray⟩,.bool o.bool,.bool o.arr,.slice A3 o.x.length c3,.slice A4 n c4]
theorem any_noBit:∀(v:List Int),(!v.any noBit)=v.all bitV
 |[]=>rfl
 |x::v=>by
  rw[List.any_cons,List.all_cons,Bool.not_or,any_noBit v];unfold noBit;rw[Bool.not_not]
theorem rmay_any {F:Nat→Prop} (o:Ot) (v:List Int) (A3:Option Addr) (c3:Nat) (A4:Option Addr) (c4:Nat) (w:World) (hE:Env w) (hnm:o.name.length≤10000) (hv:(layN 2).row.P F w (.slice A4 v.length c4) v):Calls Tryz.prog 30 #[thV o A3 c3 A4 v.length c4] w fun e w'=>e= .returned (.bool (mayS o v))∧Below w.heap.size w w':=by
 obtain ⟨nm,b,arr,xs⟩:=o;have HE:Hid (mayS ⟨nm,b,arr,xs⟩ v=(okI (solN nm)&&(decide (v.length≤64)&&((arr||v.length==1)&&(!b||v.all bitV))))):=rfl;have HC:Hid (∀w':World,Env w'→Calls Tryz.prog 42 #[.agg #[.int .i64 6,.string ⟨nm.toArray⟩,.bool false,.slice none 0 0,.int .i64 0,.bool false,.slice none 0 0,.int .i64 1]] w' fun e w2=>e= .returned (.bool (okI (solN nm)))∧Below w'.heap.size w' w2):=fun w' h=>
  vright_any (F:=fun _=>True) (G:=fun _=>True) (solN nm) 0 none 0 none w' h hnm ⟨(by show I64 0;constructor<;>decide),(by intro r hr;cases hr),(by intro r hr;cases hr)⟩ (Lay.row_nil (Nat.zero_le _)) (Lay.row_nil (Nat.zero_le _))
 have HS:Hid (∀w':World,Below w.heap.size w w'→Calls Tryz.prog 43 #[.slice A4 v.length c4,.func (.func 44) #[] #[]] w' fun e w2=>e= .returned (.bool (v.any noBit))∧Below w'.heap.size w' w2):=fun w' q=>
  rhas_n noBit (fun _ _=>rfl) A4 c4 v w' (Dt.below _ hv q (Nat.le_refl _)) (fun x _ w2=>mayc_any x w2)
 have HB:=Lib.hid (any_noBit v);clear hv;unfold thV;dsimp only;generalize okI (solN nm)=kb at*;go_enter Tryz.func30,Tryz.ntmps30;go_wp2_with fail;have M0:=((Mem.start w).new 56 #[.string ⟨nm.toArray⟩,.bool b,.bool arr,.slice A3 xs.length c3,.slice A4 v.length c4]).new 97 #[.int .i64 6,.string ⟨nm.toArray⟩,.bool false,.slice none 0 0,.int .i64 0,.bool false,.slice none 0 0,.int .i64 1];refine (HC.out _ (hE.below M0.bel)).mono ?_;rintro e w1 ⟨rfl,q1⟩;have M:=M0.below q1;obtain ⟨c0,c1,c2,c3',c4'⟩:=(M.k (i:=1) rfl).five;have q2:=M.bel;clear M M0 q1;have HZ:=Lib.hid q2;clear q2;cases kb with
 |false=>
  go_wp2_with fail;refine bodyPost_ret (v:= .bool false) (by simp[results,Tryz.results30,go_sem]) rfl ⟨?_,?_⟩
  ·rw[HE.out];first
    |rfl
    |rw[HX.out];rfl
    |rw[HX.out,HY.out];rfl
  ·exact HZ.out
 |true=>
  by_cases h64:64<v.length
  ·have d1:decide ((64:Int)<(v.length:Int))=true:=decide_eq_true (by omega);have HX:Hid (decide (v.length≤64)=false):=decide_eq_false (by omega);go_wp2_with fail;refine bodyPost_ret (v:= .bool false) (by simp[results,Tryz.results30,go_sem]) rfl ⟨?_,?_⟩
   ·rw[HE.out];first
     |rfl
     |rw[HX.out];rfl
     |rw[HX.out,HY.out];rfl
   ·exact HZ.out
  ·have d1:decide ((64:Int)<(v.length:Int))=false:=decide_eq_false (by omega);have HX:Hid (decide (v.length≤64)=true):=decide_eq_true (by omega);clear h64;cases hb1:(arr||v.length==1) with
   |false=>
    rw[Bool.or_eq_false_iff]at hb1;obtain ⟨rfl,hl⟩:=hb1;have d2:((v.length:Int) !=1)=true:=by
     have:=ne_of_beq_false hl;simp;omega
    have HY:Hid ((false||v.length==1)=false):=hl;clear hl;go_wp2_with fail;refine bodyPost_ret (v:= .bool false) (by simp[results,Tryz.results30,go_sem]) rfl ⟨?_,?_⟩
    ·rw[HE.out];first
      |rfl
      |rw[HX.out];rfl
      |rw[HX.out,HY.out];rfl
    ·exact HZ.out
   |true=>
    have HG:Hid (mayS ⟨nm,b,arr,xs⟩ v=(!b||v.all bitV)):=by
     show _=_;rw[HE.out,HX.out,hb1,Bool.true_and,Bool.true_and,Bool.true_and]
    clear HE HX;cases arr with
    |true=>
     clear hb1;cases b with
     |false=>
      go_wp2_with fail;refine bodyPost_ret (v:= .bool true) (by simp[results,Tryz.results30,go_sem]) rfl ⟨by rw[HG.out];rfl,HZ.out⟩
     |true=>
      go_wp2_with fail;refine (HS.out _ HZ.out).mono ?_;rintro e w3 ⟨rfl,q3⟩;go_wp2_with fail;refine bodyPost_ret (v:= .bool (!v.any noBit)) (by simp[results,Tryz.results30,go_sem]) rfl ⟨by rw[HG.out,HB.out];rfl,below_trans HZ.out q3⟩
    |false=>
     have d2:((v.length:Int) !=1)=false:=by
      have:=eq_of_beq (show (v.length==1)=true from hb1);rw[this];rfl
     clear hb1;cases b with
     |false=>
      go_wp2_with fail;refine bodyPost_ret (v:= .bool true) (by simp[results,Tryz.results30,go_sem]) rfl ⟨by rw[HG.out];rfl,HZ.out⟩
     |true=>
      go_wp2_with fail;refine (HS.out _ HZ.out).mono ?_;rintro e w3 ⟨rfl,q3⟩;go_wp2_with fail;refine bodyPost_ret (v:= .bool (!v.any noBit)) (by simp[results,Tryz.results30,go_sem]) rfl ⟨by rw[HG.out,HB.out];rfl,below_trans HZ.out q3⟩
end Go.Proofs.YtjlhjabgclflcaaGreatDoor
