/-
  Joined texts: Vm, Vn.
-/
import Derived.Test.YtjlhjabgclflcaaGreatDoorVl
import Derived.Test.YtjlhjabgclflcaaGreatDoorVi
import Derived.Lib.ItoaLen
import Derived.Deep.QuietTactic
import Derived.BigQuiet
set_option maxHeartbeats 4000000
set_option maxRecDepth 100000
set_option linter.unusedSimpArgs false
set_option linter.unusedVariables false
namespace Go.Proofs.YtjlhjabgclflcaaGreatDoor
open Go.RowKit Num Go.Joins
theorem joinS_no {α:Type} {l:List α} {g:α→TX} {x:α} (h:x∈l) (hg:(g x).2=false) (hl:¬64<l.length):joinS (l.map g)=([],false):=by
 unfold joinS;rw[if_neg (by rw[List.length_map];exact hl),if_neg];intro h1;rw[List.all_eq_true]at h1;have:=h1 (g x) (List.mem_map_of_mem h);rw[hg]at this;cases this
theorem joinS_yes {α:Type} {l:List α} {g:α→TX} (h:∀x∈l,(g x).2=true) (hl:¬64<l.length):joinS (l.map g)=(Lib.join (l.map fun y=>(g y).1) [44,32],true):=by
 unfold joinS;rw[if_neg (by rw[List.length_map];exact hl),if_pos,List.map_map]
 ·rfl
 ·rw[List.all_eq_true];intro p hp;obtain ⟨x,hx,rfl⟩:=List.mem_map.1 hp;exact h x hx
theorem joinC_len (n:Nat) (ts:List (List UInt8)) (h:∀t∈ts,t.length≤n):(Lib.join ts [44,32]).length≤(n+2)*ts.length:=by
 induction ts with
 |nil=>exact Nat.zero_le _
 |cons a ts ih=>
  have h1:=h a (List.mem_cons_self);cases ts with
  |nil=>
   have:Lib.join [a] [44,32]=a:=by simp[Lib.join,List.intercalate]
   rw[this];show a.length≤(n+2)*1;omega
  |cons b r=>
   have h2:=ih (fun t ht=>h t (List.mem_cons_of_mem _ ht));rw[join_two,List.length_append,List.length_append,List.length_cons (a:=a)];rw[Nat.mul_add,Nat.mul_one];have:([44,32]:List UInt8).length=2:=rfl;omega
def wtxt {α:Type} (g:α→TX) (y:α):ByteArray:=⟨(g y).1.toArray⟩
theorem vjoin_gen {α:Type} {f:Nat} (low:α→Ex0) (R:World→Option Addr→Nat→α→Prop) (hRb:∀{w1 w2:World} {A:Option Addr} {c:Nat} {y:α},R w1 A c y→Below w1.heap.size w1 w2→R w2 A c y) (g:α→TX) (hcf:∀(args:Array Value) (w:World),(callFunc f args).run Tryz.prog w= .ok (.enter f args) w) (A:Option Addr) (c:Nat) (l:List α) (w:World) (hE:Env w) (ha:∀w',Below w.heap.size w w'→l≠[]→∃b o,A=some ⟨b,o,none⟩∧b<w'.heap.size∧∀j (hj:j<l.length),w'.cell? ⟨b,o+j*4,none⟩=some (.int .i64 (low l[j]).k)∧w'.cell? ⟨b,o+j*4+1,none⟩=some (.int .i64 (low l[j]).n)∧w'.cell? ⟨b,o+j*4+2,none⟩=some (.string ⟨(low l[j]).s.toArray⟩)∧∃A3 c3,w'.cell? ⟨b,o+j*4+3,none⟩=some (.slice A3 (low l[j]).m c3)∧R w' A3 c3 l[j]) (hK:∀x∈l,(g x).2=true→(g x).1.length≤1000000) (hone:∀x∈l,∀(A':Option Addr) (c':Nat) (w':World),Env w'→R w' A' c' x→Calls Tryz.prog f #[.agg #[.int .i64 (low x).k,.int .i64 (low x).n,.string ⟨(low x).s.toArray⟩,.slice A' (low x).m c']] w' fun e w2=>e= .returned (TXV (g x))∧Below w'.heap.size w' w2):Calls Tryz.prog 104 #[.slice A l.length c,.func (.func f) #[] #[]] w fun e w'=>e= .returned (TXV (joinS (l.map g)))∧Below w.heap.size w w':=by
 by_cases hbig:64<l.length
 ·have d0:decide ((64:Int)<(l.length:Int))=true:=decide_eq_true (by omega);have HF:=Lib.hid (show joinS (l.map g)=([],false) by unfold joinS;rw[if_pos (by rw[List.length_map];exact hbig)]);go_enter Tryz.func104,Tryz.ntmps104;go_wp2_with fail;refine bodyPost_ret (v:=TXV ([],false)) (by simp[results,Tryz.results104,go_sem,TXV,wTrue,wFalse]) rfl ?_;exact ⟨by rw[HF.out],Below.refl _ _⟩
 ·have d0:decide ((64:Int)<(l.length:Int))=false:=decide_eq_false (by omega);go_enter Tryz.func104,Tryz.ntmps104;go_wp2_with fail;have hR:∀j,j≤l.length→True:=fun _ _=>trivial;go_loopg [6,16] l.length (fun k v a wr=>∃(j:Nat),k=l.length-j∧j≤l.length∧a= .int .i64 (j:Nat)∧(∀y∈l.take j,(g y).2=true)∧OwnS wr w.heap.size v ((l.take j).map (wtxt g))∧Below w.heap.size w wr)
  case atStart=>exact ⟨0,rfl,Nat.zero_le _,rfl,(by intro y hy;cases hy),World.ownsRow_nil _ _ _ _,Below.refl _ _⟩
  case round=>
   obtain ⟨j,hk,hj,rfl,hall,ho,hbl⟩:=hrel;by_cases hlt:j<l.length
   ·have d1:decide ((j:Int)<(l.length:Int))=true:=decide_eq_true (by omega);obtain ⟨b,o,hA,hb1,hc⟩:=ha wr hbl (fun e=>by rw[e]at hlt;cases hlt);obtain ⟨c1,c2,c3,A3,n3,c4,hx⟩:=hc j hlt;subst hA;clear hc ha;have HA:=Lib.hid hall;clear hall;have hox:=hone l[j] (List.getElem_mem hlt);have htk:l.take (j+1)=l.take j++[l[j]]:=List.take_succ_eq_append_getElem hlt;have HT:=Lib.hid htk;have HO:=Lib.hid hox;have HM:=Lib.hid (List.getElem_mem hlt);clear hox htk;generalize l[j]=x at*;generalize low x=y at*;obtain ⟨xk,xn,xs,xm⟩:=y;dsimp only at c1 c2 c3 c4;go_wp2_with fail;have q2:=below_alloc1 wr (.cells #[.int .i64 xk,.int .i64 xn,.string ⟨xs.toArray⟩,.slice A3 xm n3] 159);have hbl2:=below_trans hbl q2;refine (HO.out A3 n3 _ (hE.below hbl2) ?_).mono ?_
    ·exact hRb hx q2
    rintro e w3 ⟨rfl,q3⟩;have q4:=below_trans hbl2 q3;have ho3:OwnS w3 w.heap.size _ _:=World.ownsRow.kept ho (grown_belowB (World.grownBy_alloc wr _ none) q3 (Nat.le_of_lt (by simp))) (Classical.em _);cases hg:g x with
    |mk t bt=>
     have hT:=HT.out;cases bt with
     |false=>
      have HF:=Lib.hid (show joinS (l.map g)=([],false) from joinS_no HM.out (by rw[hg]) hbig);show _;dsimp only[TXV];clear c1 c2 c3 c4;go_wp2_with fail;refine bodyPost_ret (v:=TXV ([],false)) (by simp[results,Tryz.results104,go_sem,TXV,wTrue,wFalse]) rfl ?_;exact ⟨by rw[HF.out],q4⟩
     |true=>
      dsimp only[TXV];clear c1 c2 c3 c4;have hlen:((l.take j).map (wtxt g)).length≤1000000:=by rw[List.length_map,List.length_take];omega
      have hbs:w.heap.size≤w3.heap.size:=q4.size;have HA2:Hid (∀y∈l.take (j+1),(g y).2=true):=by
       show _;rw[hT];intro y hy;rcases List.mem_append.1 hy with hy|hy
       ·exact HA.out y hy
       ·rw[List.mem_singleton.1 hy,hg]
      have HT2:Hid ((l.take (j+1)).map (wtxt g)=(l.take j).map (wtxt g)++[⟨t.toArray⟩]):=by
       show _=_;rw[hT,List.map_append];show _++[wtxt g _]=_;unfold wtxt;rw[hg]
      clear hT;go_wp2_with (at_builtin;refine wp_appS _ _ w3 w.heap.size _ ((l.take j).map (wtxt g)) ⟨t.toArray⟩ (by first|rfl|simp) ho3 hbs hlen rfl rfl rfl rfl ?_;intro v' w7 ho7 hg7 hb7);go_roundg (l.length-(j+1))
      case measure=>omega
      case rel=>exact ⟨j+1,rfl,by omega,by simp,HA2.out,by rw[HT2.out];exact ho7,q4.trans hb7⟩
   ·have d1:decide ((j:Int)<(l.length:Int))=false:=decide_eq_false (by omega);have e1:l.take j=l:=List.take_of_length_le (by omega);rw[e1]at ho hall;clear e1;have hJ:=joinS_yes hall hbig;obtain ⟨h1,h2⟩:=ho;have hKK:∀x∈l,(g x).1.length≤1000000:=fun x hx=>hK x hx (hall x hx);have HJ:=Lib.hid hJ;clear hJ hone hall hK;rcases h2 with ⟨rfl,h3⟩|⟨gb,cap,cur,rfl,hg,hbk,hcap,hmx,hcs,htk⟩
    ·have hl:l=[]:=by simpa using h3
     have HL:=Lib.hid hl;clear h1 h3 hl hKK;go_wp2_with fail;refine (Tryz.strings_Join_none none 0 _ _).mono ?_;rintro e w3 ⟨rfl,e3⟩;rw[e3];go_wp2_with fail;refine bodyPost_ret (v:=TXV ([],true)) (by simp[results,Tryz.results104,go_sem,TXV,wTrue,wFalse]) rfl ?_;exact ⟨by rw[HJ.out,HL.out];rfl,hbl⟩
    ·have hj2:Lib.join (l.map fun y=>(g y).1) [44,32]=Lib.join ((l.map (wtxt g)).map (·.data.toList)) (⟨#[44,32]⟩:ByteArray).data.toList:=by
      rw[List.map_map];rfl
     have hlen:(Lib.join ((l.map (wtxt g)).map (·.data.toList)) (⟨#[44,32]⟩:ByteArray).data.toList).length≤140737488355328:=by
      rw[←hj2];have h1:=joinC_len 1000000 (l.map fun y=>(g y).1) (fun t ht=>by
       obtain ⟨x,hx,rfl⟩:=List.mem_map.1 ht;exact hKK x hx)
      rw[List.length_map]at h1;omega
     have hcell:∀(j:Nat) x,(l.map (wtxt g))[j]? =some x→wr.cell? ⟨gb,0+j,none⟩=some (.string x):=fun j x hx=>by
      have hjl:j<(l.map (wtxt g)).length:=(List.getElem?_eq_some_iff.1 hx).1;have h4:(cur.toList.take ((l.map (wtxt g)).length*1))[j]? =((l.map (wtxt g)).map Value.string)[j]? :=congrArg (fun z:List Value=>z[j]?) htk;rw[List.getElem?_take_of_lt (by omega),List.getElem?_map,hx]at h4;rw[cell_of_row wr gb _ cur 9 (0,0) hbk,Nat.zero_add];rw[Array.getElem?_toList]at h4;exact h4
     have hlt3:gb<wr.heap.size:=(Array.getElem?_eq_some_iff.1 hbk).1;rw[hj2]at HJ;have HC:=Lib.hid hcell;have HN:=Lib.hid hlen;have HM:Hid ((l.map (wtxt g)).length≤140737488355328):=by
      show _≤_;rw[List.length_map];omega
     clear hj2 hcell hlen h1 hcs htk hbk hKK;generalize l.map (wtxt g)=ts at*;go_wp2_with fail;refine (Tryz.strings_Join gb 0 cap ts _ _ HC.out hlt3 HM.out hcap HN.out).mono ?_;rintro e w3 ⟨rfl,q⟩;go_wp2_with fail;refine bodyPost_ret (v:=TXV ((Lib.join (ts.map (·.data.toList)) (⟨#[44,32]⟩:ByteArray).data.toList),true)) (by simp[results,Tryz.results104,go_sem,TXV,wTrue,wFalse]) rfl ?_;exact ⟨by rw[HJ.out],hbl.trans (q.mono hbl.size)⟩
theorem vjoin_ex {f:Nat} {F:Nat→Prop} (g:Ex→TX) (hcf:∀(args:Array Value) (w:World),(callFunc f args).run Tryz.prog w= .ok (.enter f args) w) (A:Option Addr) (c:Nat) (l:List Ex) (w:World) (ha:(layE 159).row.P F w (.slice A l.length c) l) (hE:Env w) (hK:∀x∈l,(g x).2=true→(g x).1.length≤1000000) (hone:∀x∈l,∀(A':Option Addr) (c':Nat) (w':World),Env w'→(layE0 159).row.P F w' (.slice A' x.l.length c') x.l→Calls Tryz.prog f #[.agg #[.int .i64 x.k,.int .i64 x.n,.string ⟨x.s.toArray⟩,.slice A' x.l.length c']] w' fun e w2=>e= .returned (TXV (g x))∧Below w'.heap.size w' w2):Calls Tryz.prog 104 #[.slice A l.length c,.func (.func f) #[] #[]] w fun e w'=>e= .returned (TXV (joinS (l.map g)))∧Below w.heap.size w w':=
 vjoin_gen Ex.low (fun w' A' c' x=>(layE0 159).row.P F w' (.slice A' x.l.length c') x.l) (fun h q=>Dt.below _ h q (Nat.le_refl _)) g hcf A c l w hE
  (fun w' q hn=>row_ex (Dt.below _ ha q (Nat.le_refl _)) hn) hK hone
theorem vjoin_e0 {f:Nat} {F:Nat→Prop} (g:Ex0→TX) (hcf:∀(args:Array Value) (w:World),(callFunc f args).run Tryz.prog w= .ok (.enter f args) w) (A:Option Addr) (c:Nat) (l:List Ex0) (w:World) (ha:(layE0 159).row.P F w (.slice A l.length c) l) (hE:Env w) (hK:∀x∈l,(g x).2=true→(g x).1.length≤1000000) (hone:∀x∈l,∀(A':Option Addr) (c':Nat) (w':World),Env w'→Calls Tryz.prog f #[.agg #[.int .i64 x.k,.int .i64 x.n,.string ⟨x.s.toArray⟩,.slice A' x.m c']] w' fun e w2=>e= .returned (TXV (g x))∧Below w'.heap.size w' w2):Calls Tryz.prog 104 #[.slice A l.length c,.func (.func f) #[] #[]] w fun e w'=>e= .returned (TXV (joinS (l.map g)))∧Below w.heap.size w w':=
 vjoin_gen id (fun _ _ _ _=>True) (fun _ _=>trivial) g hcf A c l w hE
  (fun w' q hn=>by
   obtain ⟨b,o,h1,h2,h3⟩:=row_e0 (Dt.below _ ha q (Nat.le_refl _)) hn;refine ⟨b,o,h1,h2,fun j hj=> ?_⟩;obtain ⟨c1,c2,c3,A3,c4,h4⟩:=h3 j hj;exact ⟨c1,c2,c3,A3,c4,h4,trivial⟩) hK (fun x hx A' c' w' hE' _=>hone x hx A' c' w' hE')
theorem itoa_len {n:Int} (h:I64 n):(Lib.itoa n).length≤21:=by
 obtain ⟨h1,h2⟩:=h;unfold Lib.itoa;split
 ·rw[List.length_cons,Lib.decDigits_length];have:=Lib.nDigits_le20 n.natAbs (by omega);omega
 ·rw[Lib.decDigits_length];have:=Lib.nDigits_le20 n.toNat (by omega);omega
theorem plain0_len {y:Ex0} (hn:I64 y.n) (h:(plain0S y).2=true):(plain0S y).1.length≤8200:=by
 have h1:=plain0_ok hn (tx_eq h);unfold plain0S at h⊢;split
 ·exact Nat.zero_le _
 ·split
  ·have:=itoa_len hn;show (Lib.itoa y.n).length≤_;omega
  ·split
   ·show 4≤_;omega
   ·split
    ·show 5≤_;omega
    ·split
     ·rename_i h5;have:=(nameB_iff.1 h5.2.2).2;show y.s.length≤_;omega
     ·exact Nat.zero_le _
end Go.Proofs.YtjlhjabgclflcaaGreatDoor
set_option maxHeartbeats 8000000
set_option maxRecDepth 100000
set_option linter.unusedSimpArgs false
set_option linter.unusedVariables false
namespace Go.Proofs.YtjlhjabgclflcaaGreatDoor
open Go.RowKit Num Go.Joins
theorem int_ne0 {n:Int} (h:¬n=0):(n==0)=false:=by simp[h]
theorem nat_ne0 {d:Nat} (h:¬d=0):((d:Int)==0)=false:=by simp;omega
theorem vbare_any (k:Int) (nm:ByteArray) (b:Bool) (d n3:Nat) (A3:Option Addr) (sz:Int) (o:Bool) (v n6:Nat) (A6:Option Addr) (ak:Int) (w:World):Calls Tryz.prog 107 #[.agg #[.int .i64 k,.string nm,.bool b,.slice A3 d n3,.int .i64 sz,.bool o,.slice A6 v n6,.int .i64 ak]] w fun e w'=>e= .returned (.bool (d==0&&(sz==0&&(!o&&ak==0))))∧Below w.heap.size w w':=by
 have q0:=below_alloc1 w (.cells #[.int .i64 k,.string nm,.bool b,.slice A3 d n3,.int .i64 sz,.bool o,.slice A6 v n6,.int .i64 ak] 97);by_cases h1:d=0
 ·subst h1;by_cases h2:sz=0
  ·subst h2;cases o with
   |true=>
    go_enter Tryz.func107,Tryz.ntmps107;go_wp2_with fail;go_ret;exact ⟨rfl,q0⟩
   |false=>
    by_cases h3:ak=0
    ·subst h3;go_enter Tryz.func107,Tryz.ntmps107;go_wp2_with fail;go_ret;exact ⟨rfl,q0⟩
    ·have h3':=int_ne0 h3;go_enter Tryz.func107,Tryz.ntmps107;go_wp2_with fail;go_ret;exact ⟨by rw[h3'];rfl,q0⟩
  ·have h2':=int_ne0 h2;go_enter Tryz.func107,Tryz.ntmps107;go_wp2_with fail;go_ret;exact ⟨by rw[h2'];rfl,q0⟩
 ·have h1':=nat_ne0 h1;have h1'':¬(d:Int)=0:=by omega
  have h1''':(d==0)=false:=by simp[h1]
  have HF:=Lib.hid h1''';clear h1''';go_enter Tryz.func107,Tryz.ntmps107;go_wp2_with fail;go_ret;exact ⟨by rw[HF.out];rfl,q0⟩
def bs (l:List UInt8):ByteArray:=⟨l.toArray⟩
theorem below_dn {B:Nat} {a w:World} (h:Below B a w) (n:Nat):Below B a (w.drewN n):=h.trans ⟨rfl,rfl,rfl,Nat.le_refl _,fun _ _=>rfl⟩
theorem joinS_len {α:Type} {g:α→TX} {l:List α} (hK:∀x∈l,(g x).2=true→(g x).1.length≤8200):(joinS (l.map g)).1.length≤600000:=by
 unfold joinS;split
 ·exact Nat.zero_le _
 ·rename_i hl;split
  ·rename_i ha;rw[List.all_eq_true]at ha;rw[List.map_map];have h1:=joinC_len 8200 (l.map ((·.1)∘g)) (fun t ht=>by
    obtain ⟨x,hx,rfl⟩:=List.mem_map.1 ht;exact hK x hx (ha (g x) (List.mem_map_of_mem hx)))
   rw[List.length_map]at h1 hl;show (Lib.join (l.map ((·.1)∘g)) [44,32]).length≤_;have:8202*l.length≤8202*64:=Nat.mul_le_mul_left _ (by omega);omega
  ·exact Nat.zero_le _
theorem vexpr_any {F:Nat→Prop} (k n:Int) (s:List UInt8) (l:List Ex0) (c:Nat) (A:Option Addr) (hr:RngE ⟨k,n,s,l⟩) (w:World) (hE:Env w) (ha:(layE0 159).row.P F w (.slice A l.length c) l):Calls Tryz.prog 111 #[.agg #[.int .i64 k,.int .i64 n,.string ⟨s.toArray⟩,.slice A l.length c]] w fun e w'=>e= .returned (TXV (exprS ⟨k,n,s,l⟩))∧Below w.heap.size w w':=by
 have q0:=below_alloc1 w (.cells #[.int .i64 k,.int .i64 n,.string ⟨s.toArray⟩,.slice A l.length c] 159);have hE1:=hE.below q0;have b0:Blk (w.alloc (.cells #[.int .i64 k,.int .i64 n,.string ⟨s.toArray⟩,.slice A l.length c] 159)) w.heap.size 159 #[.int .i64 k,.int .i64 n,.string ⟨s.toArray⟩,.slice A l.length c]:=Blk.new ..;have hn:I64 n:=hr.1;by_cases hk:k=4
 ·subst hk;have hF:=Lib.hid (show exprS ⟨4,n,s,l⟩=(91::((joinS (l.map plain0S)).1++[93]),(joinS (l.map plain0S)).2&&(n==0&&s==[])) from if_neg (fun h=>h rfl));have hl2:=joinS_len (g:=plain0S) (l:=l) (fun y hy h=>plain0_len (hr.2 y hy) h);have HJ:=Lib.hid (fun (w':World) (q:Below w.heap.size w w')=>vjoin_e0 (f:=105) (F:=F) plain0S (fun _ _=>rfl) A c l w' (Dt.below _ ha q (Nat.le_refl _)) (hE.below q) (fun y hy h=>Nat.le_trans (plain0_len (hr.2 y hy) h) (by decide)) (fun y hy A' c' w' hE'=>vplain_any y.k y.n y.s y.m c' A' (hr.2 y hy) w' hE'));generalize joinS (l.map plain0S)=J at*;obtain ⟨t,bt⟩:=J;dsimp only[TXV]at hl2 HJ hF;have hX:∀B,(Value.tuple #[.string ((⟨#[91]⟩:ByteArray)++⟨t.toArray⟩++⟨#[93]⟩),.bool B])=TXV (91::(t++[93]),B):=fun B=>by
   unfold TXV;have h:((⟨#[91]⟩:ByteArray)++⟨t.toArray⟩++⟨#[93]⟩)=⟨(91::(t++[93])).toArray⟩:=by
    apply ByteArray.ext;simp
   rw[h]
  have hSl:(⟨t.toArray⟩:ByteArray).size≤600000:=hl2;generalize (⟨t.toArray⟩:ByteArray)=S at*;have hz1:¬9223372036854775807<1+S.size:=by omega
  have hz2:¬9223372036854775807<1+S.size+1:=by omega
  have HX:=Lib.hid hX;clear hX hSl hl2 hr hn ha;go_enter Tryz.func111,Tryz.ntmps111;go_wp2_with fail;refine (HJ.out _ q0).mono ?_;rintro e w1 ⟨rfl,q1⟩;obtain ⟨m1,m2,m3,m4⟩:=(b0.below q1 (Nat.le_refl _)).four;have qq:=below_trans q0 q1;clear hE1 b0 q0 q1;cases bt with
  |false=>
   go_wp2_with fail;go_quiet (fail);go_wp2_with fail;refine bodyPost_ret (v:= .tuple #[.string ((⟨#[91]⟩:ByteArray)++S++⟨#[93]⟩),.bool false]) (by simp[results,Tryz.results111,go_sem]) rfl ⟨?_,below_dn qq _⟩;rw[HX.out,hF.out];rfl
  |true=>
   by_cases hn0:n=0
   ·subst hn0;go_wp2_with fail;go_quiet (fail);go_wp2_with fail;refine bodyPost_ret (v:= .tuple #[.string ((⟨#[91]⟩:ByteArray)++S++⟨#[93]⟩),.bool (s==[])]) (by simp[results,Tryz.results111,go_sem]) rfl ⟨?_,below_dn qq _⟩;rw[HX.out,hF.out];rfl
   ·have hn1:=int_ne0 hn0;go_wp2_with fail;go_quiet (fail);go_wp2_with fail;refine bodyPost_ret (v:= .tuple #[.string ((⟨#[91]⟩:ByteArray)++S++⟨#[93]⟩),.bool false]) (by simp[results,Tryz.results111,go_sem]) rfl ⟨?_,below_dn qq _⟩;rw[HX.out,hF.out,hn1];rfl
 ·have hF:=Lib.hid (show exprS ⟨k,n,s,l⟩=plain0S ⟨k,n,s,l.length⟩ from if_pos hk);go_enter Tryz.func111,Tryz.ntmps111;go_wp2_with fail;refine (vplain_any k n s l.length c A hn _ hE1).mono ?_;rintro e w1 ⟨rfl,q1⟩;generalize plain0S ⟨k,n,s,l.length⟩=J at*;obtain ⟨t,bt⟩:=J;dsimp only[TXV];go_wp2_with fail;refine bodyPost_ret (v:=TXV (t,bt)) (by simp[results,Tryz.results111,go_sem,TXV,wTrue,wFalse]) rfl ?_;exact ⟨by rw[hF.out],below_trans q0 q1⟩
end Go.Proofs.YtjlhjabgclflcaaGreatDoor
