/-
  Joined texts: Wh, Yp, Cc.
-/
import Derived.Test.YtjlhjabgclflcaaGreatDoorCe
import Derived.Test.YtjlhjabgclflcaaGreatDoorCb
set_option linter.unusedSimpArgs false
set_option linter.unusedVariables false
namespace Go.Proofs.YtjlhjabgclflcaaGreatDoor
open Go.RowKit Num Go.Joins
def rplainS (y:Ex0):List UInt8:=if y.k=1 then Lib.itoa y.n else if y.k=2 then (if y.n=1 then wTrue else wFalse) else y.s
def rlistS (l:List Ex0):List UInt8:=Lib.join (l.map rplainS) [44,32]
def rargS (x:Ex):List UInt8:=if x.k=4 then 91::(rlistS x.l++[93]) else rplainS x.low
def rargsS (l:List Ex):List UInt8:=Lib.join (l.map rargS) [44,32]
def rdomS (x:It):List UInt8:=if x.bool=true then wBool else match x.dom with
 |[r]=>Lib.itoa r.1++(46::46::Lib.itoa r.2)
 |d=>123::(Lib.join (d.map fun r=>Lib.itoa r.1) [44,32]++[125])
def rvarS (x:It):List UInt8:=[118,97,114,32]++rdomS x++[58,32]++x.name++(if x.out then [32,58,58,32]++wOutVar else [])++(match x.vals with
 |[]=>[]
 |y::_=>[32,61,32]++rplainS y.low)++[59]
def rarrS (x:It):List UInt8:=wArray++[32]++sizeS x++[32,111,102,32]++(if x.k=4 then [118,97,114,32] else [])++truthS x.bool++[58,32]++x.name++(if x.out then [32,58,58,32]++wOutArray++[40]++sizeS x++[41] else [])++[32,61,32,91]++rlistS (x.vals.map Ex.low)++[93,59]
def rtextS (x:It):List UInt8:=
 if x.k=1 then truthS x.bool++[58,32]++x.name++[32,61,32]++rlistS (x.vals.map Ex.low)++[59]
 else if x.k=2 then rvarS x
 else if x.k=3∨x.k=4 then rarrS x
 else if x.k=5 then wConstraint++[32]++x.name++[40]++rargsS x.vals++[41,59]
 else if x.ask=0 then wSolve++[32]++wSatisfy++[59]
 else if x.ask=1 then wSolMin++x.name++[59]
 else wSolve++[32]++wMaximize++[32]++x.name++[59]
def NoLong (s:List UInt8):Prop:=∀i n,(∀j,j<n→∃c,s[i+j]? =some c∧isWord c=true)→n≤150
theorem NoLong.short {s:List UInt8} (h:s.length≤150):NoLong s:=fun i n hn=>by
 cases n with
 |zero=>omega
 |succ n=>
  obtain ⟨c,hc,_⟩:=hn n (by omega);have:=(List.getElem?_eq_some_iff.1 hc).1;omega
theorem NoLong.sep {a b:List UInt8} {c:UInt8} (ha:NoLong a) (hb:NoLong b) (hc:isWord c=false):NoLong (a++c::b):=fun i n hn=>by
 by_cases h1:i+n≤a.length
 ·refine ha i n fun j hj=> ?_;obtain ⟨d,hd,hw⟩:=hn j hj;rw[List.getElem?_append_left (by omega)]at hd;exact ⟨d,hd,hw⟩
 ·by_cases h2:a.length<i
  ·refine hb (i-a.length-1) n fun j hj=> ?_;obtain ⟨d,hd,hw⟩:=hn j hj;rw[List.getElem?_append_right (by omega),show i+j-a.length=(i-a.length-1+j)+1 by omega,List.getElem?_cons_succ]at hd;exact ⟨d,hd,hw⟩
  ·exfalso;obtain ⟨d,hd,hw⟩:=hn (a.length-i) (by omega);rw[show i+(a.length-i)=a.length by omega,List.getElem?_append_right (Nat.le_refl _),Nat.sub_self,List.getElem?_cons_zero]at hd;injection hd with hd;rw[←hd,hc]at hw;cases hw
theorem NoLong.gap {a b:List UInt8} (ha:NoLong a) (hb:NoLong b):∀{s:List UInt8},s≠[]→(∀c∈s,isWord c=false)→NoLong (a++s++b)
 |[],h,_=>absurd rfl h
 |[c],_,h=>by
  rw[List.append_assoc];exact ha.sep hb (h c List.mem_cons_self)
 |c::d::s,_,h=>by
  have:=NoLong.gap (a:=[]) (b:=b) (NoLong.short (Nat.zero_le _)) hb (s:=d::s) (by simp) (fun x hx=>h x (List.mem_cons_of_mem _ hx));rw[List.append_assoc];exact ha.sep (by simpa using this) (h c List.mem_cons_self)
theorem NoLong.tail {a:List UInt8} (ha:NoLong a) {s:List UInt8} (h:∀c∈s,isWord c=false):NoLong (a++s):=by
 cases s with
 |nil=>rw[List.append_nil];exact ha
 |cons c s=>
  have:=ha.gap (b:=[]) (NoLong.short (Nat.zero_le _)) (s:=c::s) (by simp) h;rwa[List.append_nil]at this
theorem NoLong.join:∀{ts:List (List UInt8)},(∀t∈ts,NoLong t)→NoLong (Lib.join ts [44,32])
 |[],_=>NoLong.short (Nat.zero_le _)
 |[a],h=>by
  have e:Lib.join [a] [44,32]=a:=by simp[Lib.join,List.intercalate]
  rw[e];exact h a List.mem_cons_self
 |a::b::r,h=>by
  rw[join_two,←List.append_assoc];exact (h a List.mem_cons_self).gap (NoLong.join fun t ht=>h t (List.mem_cons_of_mem _ ht)) (by simp) (by decide)
theorem NoLong.num {n:Int} (h:I64 n):NoLong (Lib.itoa n):=NoLong.short (Nat.le_trans (itoa_len h) (by decide))
theorem NoLong.plain {y:Ex0} (hn:I64 y.n) (hs:y.s.length≤100):NoLong (rplainS y):=by
 unfold rplainS;split
 ·exact NoLong.num hn
 ·split
  ·split
   ·exact NoLong.short (by decide)
   ·exact NoLong.short (by decide)
  ·exact NoLong.short (by omega)
theorem NoLong.list {l:List Ex0} (h:∀y∈l,I64 y.n∧y.s.length≤100):NoLong (rlistS l):=NoLong.join fun t ht=>by
 obtain ⟨y,hy,rfl⟩:=List.mem_map.1 ht;exact NoLong.plain (h y hy).1 (h y hy).2
theorem NoLong.brack {a:List UInt8} (ha:NoLong a):NoLong (91::(a++[93])):=by
 have:=NoLong.sep (a:=[]) (c:=91) (NoLong.short (Nat.zero_le _)) (ha.tail (s:=[93]) (by decide)) (by decide);exact this
theorem NoLong.size {x:It} (h:I64 x.size):NoLong (sizeS x):=NoLong.short (by
 unfold sizeS;have:=itoa_len h;rw[List.length_append,List.length_append];show 4+_+1≤_;omega)
theorem NoLong.text {x:It} (hr:RngI x) (hf:FewP x):NoLong (rtextS x):=by
 have hT:NoLong (truthS x.bool):=by cases x.bool<;>exact NoLong.short (by decide)
 have hN:NoLong x.name:=NoLong.short (by have:=hf.1;omega);have hL:NoLong (rlistS (x.vals.map Ex.low)):=NoLong.list fun z hz=>by
  obtain ⟨y,hy,rfl⟩:=List.mem_map.1 hz;exact ⟨(hr.2.2 y hy).1,(hf.2.2.2 y hy).1⟩
 unfold rtextS;split
 ·exact (((hT.gap hN (by simp) (by decide)).gap hL (by simp) (by decide)).tail (by decide))
 split
 ·unfold rvarS;have hD:NoLong (rdomS x):=by
   unfold rdomS;split
   ·exact NoLong.short (by decide)
   ·split
    ·rename_i r he;have h:=hr.2.1 r (by rw[he];exact List.mem_cons_self);exact (NoLong.num h.1).sep (NoLong.sep (a:=[]) (c:=46) (NoLong.short (Nat.zero_le _)) (NoLong.num h.2) (by decide)) (by decide)
    ·have hj:NoLong (Lib.join (x.dom.map fun r=>Lib.itoa r.1) [44,32]):=NoLong.join fun t ht=>by
      obtain ⟨r,hx,rfl⟩:=List.mem_map.1 ht;exact NoLong.num (hr.2.1 r hx).1
     exact NoLong.sep (a:=[]) (c:=123) (NoLong.short (Nat.zero_le _)) (hj.tail (s:=[125]) (by decide)) (by decide)
  have h0:NoLong ([118,97,114,32]++rdomS x):=(NoLong.short (s:=[118,97,114]) (by decide)).sep hD (c:=32) (by decide);have h1:=h0.gap hN (s:=[58,32]) (by simp) (by decide);have h2:NoLong ([118,97,114,32]++rdomS x++[58,32]++x.name++(if x.out then [32,58,58,32]++wOutVar else [])):=by
   split
   ·rw[←List.append_assoc];exact h1.gap (NoLong.short (by decide)) (by simp) (by decide)
   ·rw[List.append_nil];exact h1
  have hP:∀y∈x.vals,NoLong (rplainS y.low):=fun y hy=>NoLong.plain (y:=y.low) (hr.2.2 y hy).1 (hf.2.2.2 y hy).1;have h3:NoLong ([118,97,114,32]++rdomS x++[58,32]++x.name++(if x.out then [32,58,58,32]++wOutVar else [])++(match x.vals with|[]=>[]|y::_=>[32,61,32]++rplainS y.low)):=by
   clear hL hr hf;revert hP;generalize x.vals=vs;intro hP;cases vs with
   |nil=>
    rw[List.append_nil];exact h2
   |cons y r=>
    dsimp only;rw[←List.append_assoc];exact h2.gap (hP y List.mem_cons_self) (by simp) (by decide)
  exact h3.tail (by decide)
 split
 ·unfold rarrS;have hS:=NoLong.size hr.1;have a1:NoLong (wArray++[32]++sizeS x):=(NoLong.short (s:=wArray) (by decide)).gap hS (by simp) (by decide);have a2:NoLong (wArray++[32]++sizeS x++[32,111,102,32]):=by
   have:=(a1.sep (c:=32) (NoLong.short (s:=[111,102]) (by decide)) (by decide)).tail (s:=[32]) (by decide);simpa using this
  have a3:∀{b:List UInt8},NoLong b→NoLong (wArray++[32]++sizeS x++[32,111,102,32]++b):=fun {b} hb=>by
   have:=(a1.sep (c:=32) (NoLong.short (s:=[111,102]) (by decide)) (by decide)).gap hb (s:=[32]) (by simp) (by decide);simpa using this
  have a4:NoLong (wArray++[32]++sizeS x++[32,111,102,32]++(if x.k=4 then [118,97,114,32] else [])++truthS x.bool):=by
   split
   ·have:=(a3 (b:=[118,97,114]) (NoLong.short (by decide))).gap hT (s:=[32]) (by simp) (by decide);simpa using this
   ·rw[List.append_nil];exact a3 hT
  have a5:=a4.gap hN (s:=[58,32]) (by simp) (by decide);have a6:NoLong (wArray++[32]++sizeS x++[32,111,102,32]++(if x.k=4 then [118,97,114,32] else [])++truthS x.bool++[58,32]++x.name++(if x.out then [32,58,58,32]++wOutArray++[40]++sizeS x++[41] else [])):=by
   by_cases ho:x.out=true
   ·rw[if_pos ho];have:=((a5.gap (NoLong.short (s:=wOutArray) (by decide)) (s:=[32,58,58,32]) (by simp) (by decide)).gap hS (s:=[40]) (by simp) (by decide)).tail (s:=[41]) (by decide);simpa[List.append_assoc]using this
   ·rw[if_neg ho,List.append_nil];exact a5
  exact (a6.gap hL (s:=[32,61,32,91]) (by simp) (by decide)).tail (by decide)
 split
 ·have hA:NoLong (rargsS x.vals):=NoLong.join fun t ht=>by
   obtain ⟨y,hy,rfl⟩:=List.mem_map.1 ht;unfold rargS;split
   ·exact (NoLong.list fun z hz=>⟨(hr.2.2 y hy).2 z hz,(hf.2.2.2 y hy).2.2 z hz⟩).brack
   ·exact NoLong.plain (y:=y.low) (hr.2.2 y hy).1 (hf.2.2.2 y hy).1
  exact ((((NoLong.short (s:=wConstraint) (by decide)).gap hN (s:=[32]) (by simp) (by decide)).gap hA (s:=[40]) (by simp) (by decide)).tail (by decide))
 split
 ·exact NoLong.short (by decide)
 split
 ·exact (NoLong.short (by rw[List.length_append];have:=hf.1;show 15+_≤_;omega)).tail (by decide)
 ·exact (NoLong.short (by rw[List.length_append];have:=hf.1;show 15+_≤_;omega)).tail (by decide)
end Go.Proofs.YtjlhjabgclflcaaGreatDoor
set_option linter.unusedSimpArgs false
set_option linter.unusedVariables false
namespace Go.Proofs.YtjlhjabgclflcaaGreatDoor
open Go.RowKit Num Go.Joins
theorem joinC_snoc (ts:List (List UInt8)) (t:List UInt8):Lib.join (ts++[t]) [44,32]=if ts=[] then t else Lib.join ts [44,32]++([44,32]++t):=by
 induction ts with
 |nil=>simp[Lib.join,List.intercalate]
 |cons a ts ih=>
  rw[if_neg (by simp)];cases ts with
  |nil=>simp[Lib.join,List.intercalate]
  |cons b r=>
   rw[if_neg (by simp)]at ih;have e1:a::(b::r)++[t]=a::b::(r++[t]):=rfl;have e2:b::r++[t]=b::(r++[t]):=rfl;rw[e2]at ih;rw[e1,join_two,join_two,ih];simp only[List.append_assoc]
end Go.Proofs.YtjlhjabgclflcaaGreatDoor
set_option maxHeartbeats 40000000
set_option maxRecDepth 100000
set_option linter.unusedSimpArgs false
set_option linter.unusedVariables false
namespace Go.Proofs.YtjlhjabgclflcaaGreatDoor
open Go.RowKit Num Go.Joins
theorem ba_eq3 {S:ByteArray} {T:List UInt8} (h:S.data.toList=T):S=⟨T.toArray⟩:=by
 subst h;rfl
theorem d23value_any (b:Bool) (v:Int) (hv:I64 v) (w:World) (hE:Env w):Calls Tryz.prog 41 #[.bool b,.int .i64 v] w fun e w'=>e= .returned (.string ⟨(wordV b v).toArray⟩)∧Below w.heap.size w w':=by
 cases b with
 |true=>
  by_cases h1:v=1
  ·subst h1;go_enter Tryz.func41,Tryz.ntmps41;go_wp2_with fail;refine bodyPost_ret (v:= .string ⟨(wordV true 1).toArray⟩) (by simp[results,Tryz.results41,go_sem];rfl) rfl ⟨rfl,Below.refl _ _⟩
  ·have h1':=int_ne0' h1;have HF:Hid (wordV true v=wFalse):=by
    show _=_;unfold wordV;rw[if_pos rfl,if_neg h1]
   clear h1;go_enter Tryz.func41,Tryz.ntmps41;go_wp2_with fail;refine bodyPost_ret (v:= .string ⟨wFalse.toArray⟩) (by simp[results,Tryz.results41,go_sem];rfl) rfl ⟨by rw[HF.out],Below.refl _ _⟩
 |false=>
  have HC:=Lib.hid (Tryz.strconv_FormatInt_10 v hv.1 hv.2 w hE.tab);go_enter Tryz.func41,Tryz.ntmps41;go_wp2_with fail;refine HC.out.mono ?_;rintro e w1 ⟨rfl,k,os,rfl⟩;have q:=Lib.below_grow w.heap.size w (Nat.le_refl _) k os;go_wp2_with fail;refine bodyPost_ret (v:= .string ⟨(Lib.itoa v).toArray⟩) (by simp[results,Tryz.results41,go_sem]) rfl ⟨rfl,q⟩
theorem lineS_arr (nm:List UInt8) (b:Bool) (xs v:List Int) (h:v.length=xs.length):lineS ⟨nm,b,true,xs⟩ v=nm++[32,61,32]++([97,114,114,97,121,49,100,40,49,46,46]++Lib.itoa (v.length:Int)++[44,32,91]++Lib.join (v.map (wordV b)) [44,32]++[93,41])++[59,10]:=by
 unfold lineS headS tailS wArr1;simp[h]
theorem lineS_one (nm:List UInt8) (b:Bool) (xs v:List Int):lineS ⟨nm,b,false,xs⟩ v=nm++[32,61,32]++Lib.join (v.map (wordV b)) [44,32]++[59,10]:=by
 unfold lineS headS tailS;simp
theorem d23line_any {F:Nat→Prop} (o:Ot) (v:List Int) (A3:Option Addr) (c3:Nat) (A4:Option Addr) (c4:Nat) (w:World) (hE:Env w) (hnm:o.name.length≤10000) (hvx:v.length=o.x.length) (hl:v.length≤10000) (hr:RngN v) (hv:(layN 2).row.P F w (.slice A4 v.length c4) v):Calls Tryz.prog 28 #[.agg #[.string ⟨o.name.toArray⟩,.bool o.bool,.bool o.arr,.slice A3 o.x.length c3],.slice A4 v.length c4] w fun e w'=>e= .returned (.string ⟨(lineS o v).toArray⟩)∧Below w.heap.size w w':=by
 obtain ⟨nm,b,arr,xs⟩:=o;dsimp only at*;have HE:Hid (∀w':World,Below w.heap.size w w'→Env w'):=fun w' q=>hE.below q;have HA:=Lib.hid (lineS_arr nm b xs v hvx);have HO:=Lib.hid (lineS_one nm b xs v);have HR:=Lib.hid hr;have hNl:=name_len hnm;have hNt:Hid ((⟨nm.toArray⟩:ByteArray).data.toList=nm):=rfl;have HIv:=Lib.hid (fun (w':World) (q:Below w.heap.size w w')=>(Tryz.strconv_Itoa (v.length:Int) (by omega) (by omega) w' (hE.below q).tab));have hIl:=itoa_len (n:=(v.length:Int)) ⟨by omega,by omega⟩;have HIl:Hid ((⟨(Lib.itoa (v.length:Int)).toArray⟩:ByteArray).size≤21):=hIl;have HIt:Hid ((⟨(Lib.itoa (v.length:Int)).toArray⟩:ByteArray).data.toList=Lib.itoa (v.length:Int)):=rfl;clear hIl hr hnm hvx;generalize (⟨nm.toArray⟩:ByteArray)=N at*;generalize (⟨(Lib.itoa (v.length:Int)).toArray⟩:ByteArray)=I at*;have M0:=(Mem.start w).new 45 #[.string N,.bool b,.bool arr,.slice A3 xs.length c3];go_enter Tryz.func28,Tryz.ntmps28;go_wp2_with fail;go_loopg [6,5] v.length (fun k p sv wr=>∃(j:Nat) (u:ByteArray),k=v.length-j∧j≤v.length∧p= .int .i64 (j:Nat)∧sv= .string u∧u.data.toList=Lib.join ((v.take j).map (wordV b)) [44,32]∧Mem w wr [(w.heap.size,45,#[.string N,.bool b,.bool arr,.slice A3 xs.length c3])] [])
 case atStart=>exact ⟨0,⟨#[]⟩,rfl,Nat.zero_le _,rfl,rfl,rfl,M0⟩
 case round=>
  clear M0;obtain ⟨j,u,hk,hj,rfl,rfl,hu,M⟩:=hrel;have hus:u.size≤230000:=by
   have h1:=joinC_len 21 ((v.take j).map (wordV b)) (fun t ht=>by
    obtain ⟨x,hx,rfl⟩:=List.mem_map.1 ht;exact word_len (HR.out x (List.mem_of_mem_take hx)))
   rw[←hu,List.length_map,List.length_take]at h1;have h2:u.data.toList.length=u.size:=by simp
   omega
  have HU:=Lib.hid hu;clear hu;obtain ⟨m0,m1,m2,m3⟩:=(M.k (i:=0) rfl).four;by_cases hlt:j<v.length
  ·have d1:decide ((j:Int)<(v.length:Int))=true:=decide_eq_true (by omega);obtain ⟨b4,o4,hA,hb4,hc⟩:=row_n hv (row_ne hlt);have k1:=hc j hlt;subst hA;clear hc;have hn:=HR.out _ (List.getElem_mem hlt);have HJ:=Lib.hid (joinC_snoc ((v.take j).map (wordV b)) (wordV b v[j]));have HT2:Hid ((v.take (j+1)).map (wordV b)=(v.take j).map (wordV b)++[wordV b v[j]]):=by
    show _=_;rw[List.take_succ_eq_append_getElem hlt,List.map_append];rfl
   generalize v[j]=n at*;have HT:=Lib.hid (fun (w':World) (hE':Env w')=>d23value_any b n hn w' hE');have hSl:(⟨(wordV b n).toArray⟩:ByteArray).size≤21:=word_len hn;have hSt:Hid ((⟨(wordV b n).toArray⟩:ByteArray).data.toList=wordV b n):=rfl;generalize (⟨(wordV b n).toArray⟩:ByteArray)=S at*;clear hn;by_cases h0:j=0
   ·have d2:decide ((0:Int)<(j:Int))=false:=decide_eq_false (by omega);have d3:decide (0<j)=false:=decide_eq_false (by omega);have hz:Hid (¬9223372036854775807<u.size+S.size):=by show ¬_;omega
    have HJ2:Hid ((u++S).data.toList=Lib.join ((v.take (j+1)).map (wordV b)) [44,32]):=by
     show _=_;rw[HT2.out,HJ.out,if_pos (by simp[h0]),ByteArray.data_append,Array.toList_append,HU.out,hSt.out];simp[Lib.join,List.intercalate,h0]
    clear h0;go_upto_region 7 with fail;refine region_gen0 (n:=10) (frame:= ?frame1) (fun L s w'=>(L 0=true→s 0= .string (u))∧(L 1=true→s 1= .pointer (some ⟨w.heap.size,1,none⟩))∧(L 2=true→s 2= .bool b)∧(L 3=true→s 3= .slice (some ⟨b4,o4,none⟩) v.length c4)∧(L 4=true→s 4= .int .i64 j)∧(L 5=true→s 5= .pointer (some ⟨b4,o4+j,none⟩))∧(L 6=true→s 6= .int .i64 n)∧(L 7=true→s 7= .string S)∧(L 8=true→s 8= .string (u++S))∧(L 9=true→s 9= .string (u++S))∧(L 9=false→s 9= .string (u))∧Mem w w' [(w.heap.size,45,#[.string N,.bool b,.bool arr,.slice A3 xs.length c3])] []) (by kernel_rfl) (by kernel_rfl) (by kernel_rfl) rfl ?_ ?_ ?_ ?_
    case refine_1=>exact ⟨fun h=>no_f h,fun h=>no_f h,fun h=>no_f h,fun h=>no_f h,fun h=>no_f h,fun h=>no_f h,fun h=>no_f h,fun h=>no_f h,fun h=>no_f h,fun h=>no_f h,fun _=>rfl,(M).drew⟩
    case refine_2=>
     intro s;simp only[fr,Act.put,List.append_eq,List.cons_append,List.nil_append,List.setIfInBounds_toArray,List.set_cons_zero,List.set_cons_succ,Nat.reduceAdd];rfl
    case refine_3=>
     refine SC 0 1 rfl ?_ (SC 1 2 rfl ?_ (SC 2 3 rfl ?_ (SC 3 4 rfl ?_ (SC 4 5 rfl ?_ (SC 5 6 rfl ?_ (SC 6 7 rfl ?_ (SC 7 8 rfl ?_ (SC 8 9 rfl ?_ (SC 9 10 rfl ?_ Steps.nil)))))))));all_goals (intro L s w9 hN hU hi hC hS K hK;dsimp only at hK⊢;simp only[Act.put,List.setIfInBounds_toArray,List.set_cons_zero,List.set_cons_succ]at hK;obtain ⟨h_0,h_1,h_2,h_3,h_4,h_5,h_6,h_7,h_8,h_9,h_1009,hM⟩:=hS;refine ite_of rfl ?_)
     ·have e_z:=h_1009 (Shut.no hC 9 8 rfl rfl (hU.out 8 _ rfl rfl));simp only[e_z]at hK⊢;go_simp;refine hK.out _ _ ?_;exact ⟨fun _=>rfl,h_1,h_2,h_3,h_4,h_5,h_6,h_7,h_8,h_9,h_1009,hM⟩
     ·go_simp;refine hK.out _ _ ?_;exact ⟨h_0,fun _=>rfl,h_2,h_3,h_4,h_5,h_6,h_7,h_8,h_9,h_1009,hM⟩
     ·have e_1:=h_1 (hN.out 1 rfl);simp only[e_1]at hK⊢;obtain ⟨u1,u2,u3,u4⟩:=(hM.k (i:=0) rfl).four;go_simp;refine hK.out _ _ ?_;exact ⟨h_0,h_1,fun _=>rfl,h_3,h_4,h_5,h_6,h_7,h_8,h_9,h_1009,hM⟩
     ·go_simp;refine hK.out _ _ ?_;exact ⟨h_0,h_1,h_2,fun _=>rfl,h_4,h_5,h_6,h_7,h_8,h_9,h_1009,hM⟩
     ·go_simp;refine hK.out _ _ ?_;exact ⟨h_0,h_1,h_2,h_3,fun _=>rfl,h_5,h_6,h_7,h_8,h_9,h_1009,hM⟩
     ·have e_3:=h_3 (hN.out 3 rfl);simp only[e_3]at hK⊢;have e_4:=h_4 (hN.out 4 rfl);simp only[e_4]at hK⊢;go_simp;refine hK.out _ _ ?_;exact ⟨h_0,h_1,h_2,h_3,h_4,fun _=>rfl,h_6,h_7,h_8,h_9,h_1009,hM⟩
     ·have e_5:=h_5 (hN.out 5 rfl);simp only[e_5]at hK⊢;have u0:=(hM.bel.cell (p:=⟨b4,o4+j,none⟩) hb4).trans k1;go_simp;refine hK.out _ _ ?_;exact ⟨h_0,h_1,h_2,h_3,h_4,h_5,fun _=>rfl,h_7,h_8,h_9,h_1009,hM⟩
     ·have e_2:=h_2 (hN.out 2 rfl);simp only[e_2]at hK⊢;have e_6:=h_6 (hN.out 6 rfl);simp only[e_6]at hK⊢;go_simp;go_at_call 41;refine (HT.out _ (HE.out _ hM.bel)).mono ?_;rintro e9 w10 ⟨rfl,q⟩;refine hK.out _ _ ?_;exact ⟨h_0,h_1,h_2,h_3,h_4,h_5,h_6,fun _=>rfl,h_8,h_9,h_1009,hM.below q⟩
     ·have e_0:=h_0 (hN.out 0 rfl);simp only[e_0]at hK⊢;have e_7:=h_7 (hN.out 7 rfl);simp only[e_7]at hK⊢;have z1:=hz.out;go_simp;refine hK.out _ _ ?_;exact ⟨h_0,h_1,h_2,h_3,h_4,h_5,h_6,h_7,fun _=>rfl,h_9,h_1009,hM⟩
     ·have e_8:=h_8 (hN.out 8 rfl);simp only[e_8]at hK⊢;go_simp;refine hK.out _ _ ?_;exact ⟨h_0,h_1,h_2,h_3,h_4,h_5,h_6,h_7,h_8,fun _=>rfl,fun h=>no_t h,hM⟩
    intro L s w9 hall hS;obtain ⟨h_0,h_1,h_2,h_3,h_4,h_5,h_6,h_7,h_8,h_9,h_1009,hM⟩:=hS;have e9_9:=h_9 (hall 9 (by decide));clear hall h_0 h_1 h_2 h_3 h_4 h_5 h_6 h_7 h_8 h_9 h_1009;have hm9:=hM;clear hM;go_wp2_with fail;go_roundg (v.length-(j+1))
    case measure=>omega
    case rel=>exact ⟨j+1,u++S,rfl,by omega,by simp,(by first|exact e9_9|rfl),HJ2.out,hm9⟩
   ·have d2:decide ((0:Int)<(j:Int))=true:=decide_eq_true (by omega);have d3:decide (0<j)=true:=decide_eq_true (by omega);have hz1:¬9223372036854775807<u.size+2:=by omega
    have hz:Hid (¬9223372036854775807<u.size+2+S.size):=by show ¬_;omega
    have HJ2:Hid ((u++⟨#[44,32]⟩++S).data.toList=Lib.join ((v.take (j+1)).map (wordV b)) [44,32]):=by
     show _=_;rw[HT2.out,HJ.out,if_neg (by intro e;rw[List.map_eq_nil_iff,List.take_eq_nil_iff]at e;rcases e with e|e;omega;rw[e]at hlt;simp at hlt)];have e1:(u++(⟨#[44,32]⟩:ByteArray)++S).data.toList=u.data.toList++([44,32]++S.data.toList):=by simp[ByteArray.data_append]
     rw[e1,HU.out,hSt.out]
    go_upto_region 7 with fail;refine region_gen0 (n:=10) (frame:= ?frame2) (fun L s w'=>(L 0=true→s 0= .string ((u++⟨#[44,32]⟩)))∧(L 1=true→s 1= .pointer (some ⟨w.heap.size,1,none⟩))∧(L 2=true→s 2= .bool b)∧(L 3=true→s 3= .slice (some ⟨b4,o4,none⟩) v.length c4)∧(L 4=true→s 4= .int .i64 j)∧(L 5=true→s 5= .pointer (some ⟨b4,o4+j,none⟩))∧(L 6=true→s 6= .int .i64 n)∧(L 7=true→s 7= .string S)∧(L 8=true→s 8= .string ((u++⟨#[44,32]⟩)++S))∧(L 9=true→s 9= .string ((u++⟨#[44,32]⟩)++S))∧(L 9=false→s 9= .string ((u++⟨#[44,32]⟩)))∧Mem w w' [(w.heap.size,45,#[.string N,.bool b,.bool arr,.slice A3 xs.length c3])] []) (by kernel_rfl) (by kernel_rfl) (by kernel_rfl) rfl ?_ ?_ ?_ ?_
    case refine_1=>exact ⟨fun h=>no_f h,fun h=>no_f h,fun h=>no_f h,fun h=>no_f h,fun h=>no_f h,fun h=>no_f h,fun h=>no_f h,fun h=>no_f h,fun h=>no_f h,fun h=>no_f h,fun _=>rfl,(M).drew⟩
    case refine_2=>
     intro s;simp only[fr,Act.put,List.append_eq,List.cons_append,List.nil_append,List.setIfInBounds_toArray,List.set_cons_zero,List.set_cons_succ,Nat.reduceAdd];rfl
    case refine_3=>
     refine SC 0 1 rfl ?_ (SC 1 2 rfl ?_ (SC 2 3 rfl ?_ (SC 3 4 rfl ?_ (SC 4 5 rfl ?_ (SC 5 6 rfl ?_ (SC 6 7 rfl ?_ (SC 7 8 rfl ?_ (SC 8 9 rfl ?_ (SC 9 10 rfl ?_ Steps.nil)))))))));all_goals (intro L s w9 hN hU hi hC hS K hK;dsimp only at hK⊢;simp only[Act.put,List.setIfInBounds_toArray,List.set_cons_zero,List.set_cons_succ]at hK;obtain ⟨h_0,h_1,h_2,h_3,h_4,h_5,h_6,h_7,h_8,h_9,h_1009,hM⟩:=hS;refine ite_of rfl ?_)
     ·have e_z:=h_1009 (Shut.no hC 9 8 rfl rfl (hU.out 8 _ rfl rfl));simp only[e_z]at hK⊢;go_simp;refine hK.out _ _ ?_;exact ⟨fun _=>rfl,h_1,h_2,h_3,h_4,h_5,h_6,h_7,h_8,h_9,h_1009,hM⟩
     ·go_simp;refine hK.out _ _ ?_;exact ⟨h_0,fun _=>rfl,h_2,h_3,h_4,h_5,h_6,h_7,h_8,h_9,h_1009,hM⟩
     ·have e_1:=h_1 (hN.out 1 rfl);simp only[e_1]at hK⊢;obtain ⟨u1,u2,u3,u4⟩:=(hM.k (i:=0) rfl).four;go_simp;refine hK.out _ _ ?_;exact ⟨h_0,h_1,fun _=>rfl,h_3,h_4,h_5,h_6,h_7,h_8,h_9,h_1009,hM⟩
     ·go_simp;refine hK.out _ _ ?_;exact ⟨h_0,h_1,h_2,fun _=>rfl,h_4,h_5,h_6,h_7,h_8,h_9,h_1009,hM⟩
     ·go_simp;refine hK.out _ _ ?_;exact ⟨h_0,h_1,h_2,h_3,fun _=>rfl,h_5,h_6,h_7,h_8,h_9,h_1009,hM⟩
     ·have e_3:=h_3 (hN.out 3 rfl);simp only[e_3]at hK⊢;have e_4:=h_4 (hN.out 4 rfl);simp only[e_4]at hK⊢;go_simp;refine hK.out _ _ ?_;exact ⟨h_0,h_1,h_2,h_3,h_4,fun _=>rfl,h_6,h_7,h_8,h_9,h_1009,hM⟩
     ·have e_5:=h_5 (hN.out 5 rfl);simp only[e_5]at hK⊢;have u0:=(hM.bel.cell (p:=⟨b4,o4+j,none⟩) hb4).trans k1;go_simp;refine hK.out _ _ ?_;exact ⟨h_0,h_1,h_2,h_3,h_4,h_5,fun _=>rfl,h_7,h_8,h_9,h_1009,hM⟩
     ·have e_2:=h_2 (hN.out 2 rfl);simp only[e_2]at hK⊢;have e_6:=h_6 (hN.out 6 rfl);simp only[e_6]at hK⊢;go_simp;go_at_call 41;refine (HT.out _ (HE.out _ hM.bel)).mono ?_;rintro e9 w10 ⟨rfl,q⟩;refine hK.out _ _ ?_;exact ⟨h_0,h_1,h_2,h_3,h_4,h_5,h_6,fun _=>rfl,h_8,h_9,h_1009,hM.below q⟩
     ·have e_0:=h_0 (hN.out 0 rfl);simp only[e_0]at hK⊢;have e_7:=h_7 (hN.out 7 rfl);simp only[e_7]at hK⊢;have z1:=hz.out;go_simp;refine hK.out _ _ ?_;exact ⟨h_0,h_1,h_2,h_3,h_4,h_5,h_6,h_7,fun _=>rfl,h_9,h_1009,hM⟩
     ·have e_8:=h_8 (hN.out 8 rfl);simp only[e_8]at hK⊢;go_simp;refine hK.out _ _ ?_;exact ⟨h_0,h_1,h_2,h_3,h_4,h_5,h_6,h_7,h_8,fun _=>rfl,fun h=>no_t h,hM⟩
    intro L s w9 hall hS;obtain ⟨h_0,h_1,h_2,h_3,h_4,h_5,h_6,h_7,h_8,h_9,h_1009,hM⟩:=hS;have e9_9:=h_9 (hall 9 (by decide));clear hall h_0 h_1 h_2 h_3 h_4 h_5 h_6 h_7 h_8 h_9 h_1009;have hm9:=hM;clear hM;go_wp2_with fail;go_roundg (v.length-(j+1))
    case measure=>omega
    case rel=>exact ⟨j+1,(u++⟨#[44,32]⟩)++S,rfl,by omega,by simp,(by first|exact e9_9|rfl),HJ2.out,hm9⟩
  ·have d1:decide ((j:Int)<(v.length:Int))=false:=decide_eq_false (by omega);have e1:v.take j=v:=List.take_of_length_le (by omega);rw[e1]at HU;clear e1 hv;cases arr with
   |true=>
    have hIl2:=HIl.out;have hz1:¬9223372036854775807<11+I.size:=by omega
    have hz2:¬9223372036854775807<11+I.size+3:=by omega
    have hz3:¬9223372036854775807<11+I.size+3+u.size:=by omega
    have hz4:¬9223372036854775807<11+I.size+3+u.size+2:=by omega
    have hz5:¬9223372036854775807<N.size+3:=by omega
    have hz6:¬9223372036854775807<N.size+3+(11+I.size+3+u.size+2):=by omega
    have hz7:¬9223372036854775807<N.size+3+(11+I.size+3+u.size+2)+2:=by omega
    go_wp2_with fail;refine (HIv.out _ M.bel).mono ?_;rintro e w3 ⟨rfl,k,os,rfl⟩;have M3:=M.below (Lib.below_grow _ _ (Nat.le_refl _) k os);obtain ⟨m0,m1,m2,m3⟩:=(M3.k (i:=0) rfl).four;go_wp2_with fail;refine bodyPost_ret (v:= .string (N++⟨#[32,61,32]⟩++(⟨#[97,114,114,97,121,49,100,40,49,46,46]⟩++I++⟨#[44,32,91]⟩++u++⟨#[93,41]⟩)++⟨#[59,10]⟩)) (by simp[results,Tryz.results28,go_sem]) rfl ⟨?_,?_⟩
    ·rw[HA.out];congr 2;refine ba_eq3 ?_;simp only[ByteArray.data_append,Array.toList_append,hNt.out,HIt.out,HU.out]
    ·exact M3.bel
   |false=>
    have hz5:¬9223372036854775807<N.size+3:=by omega
    have hz6:¬9223372036854775807<N.size+3+u.size:=by omega
    have hz7:¬9223372036854775807<N.size+3+u.size+2:=by omega
    clear HIv HIl HIt;go_wp2_with fail;refine bodyPost_ret (v:= .string (N++⟨#[32,61,32]⟩++u++⟨#[59,10]⟩)) (by simp[results,Tryz.results28,go_sem]) rfl ⟨?_,?_⟩
    ·rw[HO.out];congr 2;refine ba_eq3 ?_;simp only[ByteArray.data_append,Array.toList_append,hNt.out,HU.out]
    ·exact M.bel
end Go.Proofs.YtjlhjabgclflcaaGreatDoor
