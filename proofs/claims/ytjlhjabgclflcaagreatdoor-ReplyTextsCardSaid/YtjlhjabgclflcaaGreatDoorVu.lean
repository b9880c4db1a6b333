import Derived.Test.YtjlhjabgclflcaaGreatDoorVq
set_option maxHeartbeats 40000000
set_option maxRecDepth 100000
set_option linter.unusedSimpArgs false
set_option linter.unusedVariables false
namespace Go.Proofs.YtjlhjabgclflcaaGreatDoor
open Go.RowKit Num Go.Joins
theorem domS_len {x:It} (hr:∀r∈x.dom,I64 r.1∧I64 r.2):(domS x).1.length≤20000:=by
 unfold domS;split
 ·show 4≤_;omega
 ·split
  ·rename_i r hx;have h:=hr r (by rw[hx];exact List.mem_cons_self);have h1:=itoa_len h.1;have h2:=itoa_len h.2;rw[List.length_append,List.length_cons,List.length_cons];omega
  ·split
   ·exact Nat.zero_le _
   ·rename_i h0;split
    ·have h1:=joinC_len 21 (x.dom.map fun r=>Lib.itoa r.1) (fun t ht=>by
      obtain ⟨r,hx,rfl⟩:=List.mem_map.1 ht;exact itoa_len (hr r hx).1)
     rw[List.length_map]at h1;have h2:x.dom.length≤256:=Nat.le_of_not_lt fun h=>h0 (Or.inr h);rw[List.length_cons,List.length_append];show _+1+1≤_;omega
    ·exact Nat.zero_le _
theorem varS_eq (k:Int) (nm:List UInt8) (b:Bool) (dm:List (Int×Int)) (sz:Int) (o:Bool) (vs:List Ex) (ak:Int):varS ⟨k,nm,b,dm,sz,o,vs,ak⟩=([118,97,114,32]++(domS ⟨k,nm,b,dm,sz,o,vs,ak⟩).1++[58,32]++nm++(if o then [32,58,58,32]++wOutVar else [])++(if (vs.length==0)=true then [] else [32,61,32]++(joinS (vs.map plainS)).1)++[59],(domS ⟨k,nm,b,dm,sz,o,vs,ak⟩).2&&((joinS (vs.map plainS)).2&&(decide (vs.length≤1)&&(sz==0&&(ak==0&&nameB nm))))):=by
 unfold varS;have h2:vs.isEmpty=(vs.length==0):=by cases vs<;>rfl
 dsimp only;rw[h2]
theorem int_le1 {n:Nat} (h:¬n≤1):decide ((n:Int)≤1)=false:=decide_eq_false (by omega)
theorem vvar_oe {F G:Nat→Prop} (k:Int) (nm:List UInt8) (b:Bool) (dm:List (Int×Int)) (n3:Nat) (A3:Option Addr) (sz:Int) (vs:List Ex) (n6:Nat) (A6:Option Addr) (ak:Int) (w:World) (hE:Env w) (hnm:nm.length≤10000) (hd:∀r∈dm,I64 r.1∧I64 r.2) (hr:∀y∈vs,RngE y) (hda:layR.row.P G w (.slice A3 dm.length n3) dm) (ha:(layE 159).row.P F w (.slice A6 vs.length n6) vs) (hv:vs.length=0):Calls Tryz.prog 74 #[.agg #[.int .i64 k,.string ⟨nm.toArray⟩,.bool b,.slice A3 dm.length n3,.int .i64 sz,.bool true,.slice A6 vs.length n6,.int .i64 ak]] w fun e w'=>e= .returned (TXV (varS ⟨k,nm,b,dm,sz,true,vs,ak⟩))∧Below w.heap.size w w':=by
 have hF:=varS_eq k nm b dm sz true vs ak;have hJl:=joinS_len (g:=plainS) (l:=vs) (fun y hy h=>plain0_len (hr y hy).1 h);have HJ:=Lib.hid (fun (w':World) (q:Below w.heap.size w w')=>vjoin_ex (f:=105) (F:=F) plainS (fun _ _=>rfl) A6 n6 vs w' (Dt.below _ ha q (Nat.le_refl _)) (hE.below q) (fun y hy h=>Nat.le_trans (plain0_len (hr y hy).1 h) (by decide)) (fun y hy A' c' w' hE' _=>vplain_any y.k y.n y.s y.l.length c' A' (hr y hy).1 w' hE'));have hDl:=domS_len (x:=⟨k,nm,b,dm,sz,true,vs,ak⟩) hd;have HD:=Lib.hid (fun (w':World) (q:Below w.heap.size w w')=>vdom_any (F:=G) k ⟨nm.toArray⟩ b dm n3 A3 sz true vs.length n6 A6 ak w' (hE.below q) hd (Dt.below _ hda q (Nat.le_refl _)) ⟨k,nm,b,dm,sz,true,vs,ak⟩ rfl rfl);try dsimp only at hF
 generalize domS ⟨k,nm,b,dm,sz,true,vs,ak⟩=DS at*;generalize joinS (vs.map plainS)=J at*;obtain ⟨t,jb⟩:=J;obtain ⟨dt,db⟩:=DS;dsimp only[TXV]at hF hJl HJ hDl HD;have HN:=Lib.hid (vname_any ⟨nm.toArray⟩);have hX:∀B,(Value.tuple #[.string ((⟨#[118,97,114,32]⟩:ByteArray)++⟨dt.toArray⟩++⟨#[58,32]⟩++⟨nm.toArray⟩++⟨#[32,58,58,32,111,117,116,112,117,116,95,118,97,114]⟩++⟨#[59]⟩),.bool B])=TXV ([118,97,114,32]++dt++[58,32]++nm++([32,58,58,32]++wOutVar)++[]++[59],B):=fun B=>by
  have h:((⟨#[118,97,114,32]⟩:ByteArray)++⟨dt.toArray⟩++⟨#[58,32]⟩++⟨nm.toArray⟩++⟨#[32,58,58,32,111,117,116,112,117,116,95,118,97,114]⟩++⟨#[59]⟩)=⟨([118,97,114,32]++dt++[58,32]++nm++([32,58,58,32]++wOutVar)++[]++[59]).toArray⟩:=by
   apply ByteArray.ext;simp[wOutVar]
  unfold TXV;rw[h]
 have hNl:=name_len hnm;have hVl:(⟨t.toArray⟩:ByteArray).size≤600000:=hJl;have hDl2:(⟨dt.toArray⟩:ByteArray).size≤20000:=hDl;have hnb:nameB (⟨nm.toArray⟩:ByteArray).data.toList=nameB nm:=rfl;rw[hnb]at HN;generalize (⟨nm.toArray⟩:ByteArray)=N at*;generalize (⟨t.toArray⟩:ByteArray)=V at*;generalize (⟨dt.toArray⟩:ByteArray)=D at*;have hz0:¬9223372036854775807<4+D.size:=by omega
 have hz1:¬9223372036854775807<4+D.size+2:=by omega
 have hz2:¬9223372036854775807<4+D.size+2+N.size:=by omega
 have hz3:¬9223372036854775807<4+D.size+2+N.size+14:=by omega
 have hz4:¬9223372036854775807<4+D.size+2+N.size+14+1:=by omega
 rw[show (vs.length==0)=true by simp[hv]]at hF;have HVS:=Lib.hid hv;clear hv;clear hNl hVl hDl hDl2 hJl hnm hnb hd hr hda ha;have HF:=Lib.hid hF;have HX:=Lib.hid hX;clear hF hX;generalize nameB nm=nb at*;have q0:=below_alloc1 w (.cells #[.int .i64 k,.string N,.bool b,.slice A3 dm.length n3,.int .i64 sz,.bool true,.slice A6 vs.length n6,.int .i64 ak] 97);have b0:Blk (w.alloc (.cells #[.int .i64 k,.string N,.bool b,.slice A3 dm.length n3,.int .i64 sz,.bool true,.slice A6 vs.length n6,.int .i64 ak] 97)) w.heap.size 97 #[.int .i64 k,.string N,.bool b,.slice A3 dm.length n3,.int .i64 sz,.bool true,.slice A6 vs.length n6,.int .i64 ak]:=Blk.new ..;go_enter Tryz.func74,Tryz.ntmps74;go_wp2_with fail;refine (HD.out _ q0).mono ?_;rintro e w1 ⟨rfl,q1⟩;have b1:=b0.below q1 (Nat.le_refl _);have q2:=below_trans q0 q1;clear q0 q1 b0 HD;obtain ⟨m1,m2,m3,m4,m5,m6,m7,m8⟩:=Blk.eight b1;go_wp2_with fail;refine (HJ.out _ q2).mono ?_;rintro e w3 ⟨rfl,q3⟩;have b3:=b1.below q3 (Nat.le_refl _);have q4:=below_trans q2 q3;clear q2 q3 b1 HJ m1 m2 m3 m4 m5 m6 m7 m8;obtain ⟨m1,m2,m3,m4,m5,m6,m7,m8⟩:=Blk.eight b3;generalize dm.length=d at*;have HL:=Lib.hid (show decide (vs.length≤1)=decide (vs.length≤1) from rfl);have hv:=HVS.out;clear HVS;generalize vs.length=vn at*;subst hv;cases db with
 |false=>
  go_wp2_with fail;refine bodyPost_ret (v:= .tuple #[.string ((⟨#[118,97,114,32]⟩:ByteArray)++D++⟨#[58,32]⟩++N++⟨#[32,58,58,32,111,117,116,112,117,116,95,118,97,114]⟩++⟨#[59]⟩),.bool false]) (by simp[results,Tryz.results74,go_sem]) rfl ⟨?_,q4⟩;rw[HX.out,HF.out];rfl
 |true=>
  cases jb with
  |false=>
   go_wp2_with fail;refine bodyPost_ret (v:= .tuple #[.string ((⟨#[118,97,114,32]⟩:ByteArray)++D++⟨#[58,32]⟩++N++⟨#[32,58,58,32,111,117,116,112,117,116,95,118,97,114]⟩++⟨#[59]⟩),.bool false]) (by simp[results,Tryz.results74,go_sem]) rfl ⟨?_,q4⟩;rw[HX.out,HF.out];rfl
  |true=>
   by_cases hs:sz=0
   ·subst hs;by_cases hk:ak=0
    ·subst hk;go_wp2_with fail;refine (HN.out _ (hE.below q4)).mono ?_;rintro e w5 ⟨rfl,q5⟩;go_wp2_with fail;refine bodyPost_ret (v:= .tuple #[.string ((⟨#[118,97,114,32]⟩:ByteArray)++D++⟨#[58,32]⟩++N++⟨#[32,58,58,32,111,117,116,112,117,116,95,118,97,114]⟩++⟨#[59]⟩),.bool nb]) (by simp[results,Tryz.results74,go_sem]) rfl ⟨?_,below_trans q4 q5⟩;rw[HX.out,HF.out];rfl
    ·have hk1:=int_ne0 hk;have HK:=Lib.hid hk1;go_wp2_with fail;refine bodyPost_ret (v:= .tuple #[.string ((⟨#[118,97,114,32]⟩:ByteArray)++D++⟨#[58,32]⟩++N++⟨#[32,58,58,32,111,117,116,112,117,116,95,118,97,114]⟩++⟨#[59]⟩),.bool false]) (by simp[results,Tryz.results74,go_sem]) rfl ⟨?_,q4⟩;rw[HX.out,HF.out,HK.out];rfl
   ·have hs1:=int_ne0 hs;have HS:=Lib.hid hs1;go_wp2_with fail;refine bodyPost_ret (v:= .tuple #[.string ((⟨#[118,97,114,32]⟩:ByteArray)++D++⟨#[58,32]⟩++N++⟨#[32,58,58,32,111,117,116,112,117,116,95,118,97,114]⟩++⟨#[59]⟩),.bool false]) (by simp[results,Tryz.results74,go_sem]) rfl ⟨?_,q4⟩;rw[HX.out,HF.out,HS.out];rfl
theorem vvar_ov {F G:Nat→Prop} (k:Int) (nm:List UInt8) (b:Bool) (dm:List (Int×Int)) (n3:Nat) (A3:Option Addr) (sz:Int) (vs:List Ex) (n6:Nat) (A6:Option Addr) (ak:Int) (w:World) (hE:Env w) (hnm:nm.length≤10000) (hd:∀r∈dm,I64 r.1∧I64 r.2) (hr:∀y∈vs,RngE y) (hda:layR.row.P G w (.slice A3 dm.length n3) dm) (ha:(layE 159).row.P F w (.slice A6 vs.length n6) vs) (hv:¬vs.length=0):Calls Tryz.prog 74 #[.agg #[.int .i64 k,.string ⟨nm.toArray⟩,.bool b,.slice A3 dm.length n3,.int .i64 sz,.bool true,.slice A6 vs.length n6,.int .i64 ak]] w fun e w'=>e= .returned (TXV (varS ⟨k,nm,b,dm,sz,true,vs,ak⟩))∧Below w.heap.size w w':=by
 have hF:=varS_eq k nm b dm sz true vs ak;have hJl:=joinS_len (g:=plainS) (l:=vs) (fun y hy h=>plain0_len (hr y hy).1 h);have HJ:=Lib.hid (fun (w':World) (q:Below w.heap.size w w')=>vjoin_ex (f:=105) (F:=F) plainS (fun _ _=>rfl) A6 n6 vs w' (Dt.below _ ha q (Nat.le_refl _)) (hE.below q) (fun y hy h=>Nat.le_trans (plain0_len (hr y hy).1 h) (by decide)) (fun y hy A' c' w' hE' _=>vplain_any y.k y.n y.s y.l.length c' A' (hr y hy).1 w' hE'));have hDl:=domS_len (x:=⟨k,nm,b,dm,sz,true,vs,ak⟩) hd;have HD:=Lib.hid (fun (w':World) (q:Below w.heap.size w w')=>vdom_any (F:=G) k ⟨nm.toArray⟩ b dm n3 A3 sz true vs.length n6 A6 ak w' (hE.below q) hd (Dt.below _ hda q (Nat.le_refl _)) ⟨k,nm,b,dm,sz,true,vs,ak⟩ rfl rfl);try dsimp only at hF
 generalize domS ⟨k,nm,b,dm,sz,true,vs,ak⟩=DS at*;generalize joinS (vs.map plainS)=J at*;obtain ⟨t,jb⟩:=J;obtain ⟨dt,db⟩:=DS;dsimp only[TXV]at hF hJl HJ hDl HD;have HN:=Lib.hid (vname_any ⟨nm.toArray⟩);have hX:∀B,(Value.tuple #[.string ((⟨#[118,97,114,32]⟩:ByteArray)++⟨dt.toArray⟩++⟨#[58,32]⟩++⟨nm.toArray⟩++⟨#[32,58,58,32,111,117,116,112,117,116,95,118,97,114]⟩++(⟨#[32,61,32]⟩++⟨t.toArray⟩)++⟨#[59]⟩),.bool B])=TXV ([118,97,114,32]++dt++[58,32]++nm++([32,58,58,32]++wOutVar)++([32,61,32]++t)++[59],B):=fun B=>by
  have h:((⟨#[118,97,114,32]⟩:ByteArray)++⟨dt.toArray⟩++⟨#[58,32]⟩++⟨nm.toArray⟩++⟨#[32,58,58,32,111,117,116,112,117,116,95,118,97,114]⟩++(⟨#[32,61,32]⟩++⟨t.toArray⟩)++⟨#[59]⟩)=⟨([118,97,114,32]++dt++[58,32]++nm++([32,58,58,32]++wOutVar)++([32,61,32]++t)++[59]).toArray⟩:=by
   apply ByteArray.ext;simp[wOutVar]
  unfold TXV;rw[h]
 have hNl:=name_len hnm;have hVl:(⟨t.toArray⟩:ByteArray).size≤600000:=hJl;have hDl2:(⟨dt.toArray⟩:ByteArray).size≤20000:=hDl;have hnb:nameB (⟨nm.toArray⟩:ByteArray).data.toList=nameB nm:=rfl;rw[hnb]at HN;generalize (⟨nm.toArray⟩:ByteArray)=N at*;generalize (⟨t.toArray⟩:ByteArray)=V at*;generalize (⟨dt.toArray⟩:ByteArray)=D at*;have hz0:¬9223372036854775807<4+D.size:=by omega
 have hz1:¬9223372036854775807<4+D.size+2:=by omega
 have hz2:¬9223372036854775807<4+D.size+2+N.size:=by omega
 have hz3:¬9223372036854775807<4+D.size+2+N.size+14:=by omega
 have hz4:¬9223372036854775807<3+V.size:=by omega
 have hz5:¬9223372036854775807<4+D.size+2+N.size+14+(3+V.size):=by omega
 have hz6:¬9223372036854775807<4+D.size+2+N.size+14+(3+V.size)+1:=by omega
 rw[show (vs.length==0)=false by simp[hv]]at hF;have HVS:=Lib.hid hv;clear hv;clear hNl hVl hDl hDl2 hJl hnm hnb hd hr hda ha;have HF:=Lib.hid hF;have HX:=Lib.hid hX;clear hF hX;generalize nameB nm=nb at*;have q0:=below_alloc1 w (.cells #[.int .i64 k,.string N,.bool b,.slice A3 dm.length n3,.int .i64 sz,.bool true,.slice A6 vs.length n6,.int .i64 ak] 97);have b0:Blk (w.alloc (.cells #[.int .i64 k,.string N,.bool b,.slice A3 dm.length n3,.int .i64 sz,.bool true,.slice A6 vs.length n6,.int .i64 ak] 97)) w.heap.size 97 #[.int .i64 k,.string N,.bool b,.slice A3 dm.length n3,.int .i64 sz,.bool true,.slice A6 vs.length n6,.int .i64 ak]:=Blk.new ..;go_enter Tryz.func74,Tryz.ntmps74;go_wp2_with fail;refine (HD.out _ q0).mono ?_;rintro e w1 ⟨rfl,q1⟩;have b1:=b0.below q1 (Nat.le_refl _);have q2:=below_trans q0 q1;clear q0 q1 b0 HD;obtain ⟨m1,m2,m3,m4,m5,m6,m7,m8⟩:=Blk.eight b1;go_wp2_with fail;refine (HJ.out _ q2).mono ?_;rintro e w3 ⟨rfl,q3⟩;have b3:=b1.below q3 (Nat.le_refl _);have q4:=below_trans q2 q3;clear q2 q3 b1 HJ m1 m2 m3 m4 m5 m6 m7 m8;obtain ⟨m1,m2,m3,m4,m5,m6,m7,m8⟩:=Blk.eight b3;generalize dm.length=d at*;have HL:=Lib.hid (show decide (vs.length≤1)=decide (vs.length≤1) from rfl);have hv:=HVS.out;clear HVS;generalize vs.length=vn at*;have hv1:decide ((0:Int)<(vn:Int))=true:=decide_eq_true (by omega);cases db with
 |false=>
  go_wp2_with fail;refine bodyPost_ret (v:= .tuple #[.string ((⟨#[118,97,114,32]⟩:ByteArray)++D++⟨#[58,32]⟩++N++⟨#[32,58,58,32,111,117,116,112,117,116,95,118,97,114]⟩++(⟨#[32,61,32]⟩++V)++⟨#[59]⟩),.bool false]) (by simp[results,Tryz.results74,go_sem]) rfl ⟨?_,q4⟩;rw[HX.out,HF.out];rfl
 |true=>
  cases jb with
  |false=>
   go_wp2_with fail;refine bodyPost_ret (v:= .tuple #[.string ((⟨#[118,97,114,32]⟩:ByteArray)++D++⟨#[58,32]⟩++N++⟨#[32,58,58,32,111,117,116,112,117,116,95,118,97,114]⟩++(⟨#[32,61,32]⟩++V)++⟨#[59]⟩),.bool false]) (by simp[results,Tryz.results74,go_sem]) rfl ⟨?_,q4⟩;rw[HX.out,HF.out];rfl
  |true=>
   by_cases hl:vn≤1
   ·have hl1:decide ((vn:Int)≤1)=true:=decide_eq_true (by omega);have HL1:=Lib.hid (show decide (vn≤1)=true from decide_eq_true hl);by_cases hs:sz=0
    ·subst hs;by_cases hk:ak=0
     ·subst hk;go_wp2_with fail;refine (HN.out _ (hE.below q4)).mono ?_;rintro e w5 ⟨rfl,q5⟩;go_wp2_with fail;refine bodyPost_ret (v:= .tuple #[.string ((⟨#[118,97,114,32]⟩:ByteArray)++D++⟨#[58,32]⟩++N++⟨#[32,58,58,32,111,117,116,112,117,116,95,118,97,114]⟩++(⟨#[32,61,32]⟩++V)++⟨#[59]⟩),.bool nb]) (by simp[results,Tryz.results74,go_sem]) rfl ⟨?_,below_trans q4 q5⟩;rw[HX.out,HF.out,HL1.out];rfl
     ·have hk1:=int_ne0 hk;have HK:=Lib.hid hk1;go_wp2_with fail;refine bodyPost_ret (v:= .tuple #[.string ((⟨#[118,97,114,32]⟩:ByteArray)++D++⟨#[58,32]⟩++N++⟨#[32,58,58,32,111,117,116,112,117,116,95,118,97,114]⟩++(⟨#[32,61,32]⟩++V)++⟨#[59]⟩),.bool false]) (by simp[results,Tryz.results74,go_sem]) rfl ⟨?_,q4⟩;rw[HX.out,HF.out,HL1.out,HK.out];rfl
    ·have hs1:=int_ne0 hs;have HS:=Lib.hid hs1;go_wp2_with fail;refine bodyPost_ret (v:= .tuple #[.string ((⟨#[118,97,114,32]⟩:ByteArray)++D++⟨#[58,32]⟩++N++⟨#[32,58,58,32,111,117,116,112,117,116,95,118,97,114]⟩++(⟨#[32,61,32]⟩++V)++⟨#[59]⟩),.bool false]) (by simp[results,Tryz.results74,go_sem]) rfl ⟨?_,q4⟩;rw[HX.out,HF.out,HL1.out,HS.out];rfl
   ·have hl1:=int_le1 hl;have HL1:=Lib.hid (show decide (vn≤1)=false from decide_eq_false hl);go_wp2_with fail;refine bodyPost_ret (v:= .tuple #[.string ((⟨#[118,97,114,32]⟩:ByteArray)++D++⟨#[58,32]⟩++N++⟨#[32,58,58,32,111,117,116,112,117,116,95,118,97,114]⟩++(⟨#[32,61,32]⟩++V)++⟨#[59]⟩),.bool false]) (by simp[results,Tryz.results74,go_sem]) rfl ⟨?_,q4⟩;rw[HX.out,HF.out,HL1.out];rfl
theorem vvar_ne {F G:Nat→Prop} (k:Int) (nm:List UInt8) (b:Bool) (dm:List (Int×Int)) (n3:Nat) (A3:Option Addr) (sz:Int) (vs:List Ex) (n6:Nat) (A6:Option Addr) (ak:Int) (w:World) (hE:Env w) (hnm:nm.length≤10000) (hd:∀r∈dm,I64 r.1∧I64 r.2) (hr:∀y∈vs,RngE y) (hda:layR.row.P G w (.slice A3 dm.length n3) dm) (ha:(layE 159).row.P F w (.slice A6 vs.length n6) vs) (hv:vs.length=0):Calls Tryz.prog 74 #[.agg #[.int .i64 k,.string ⟨nm.toArray⟩,.bool b,.slice A3 dm.length n3,.int .i64 sz,.bool false,.slice A6 vs.length n6,.int .i64 ak]] w fun e w'=>e= .returned (TXV (varS ⟨k,nm,b,dm,sz,false,vs,ak⟩))∧Below w.heap.size w w':=by
 have hF:=varS_eq k nm b dm sz false vs ak;have hJl:=joinS_len (g:=plainS) (l:=vs) (fun y hy h=>plain0_len (hr y hy).1 h);have HJ:=Lib.hid (fun (w':World) (q:Below w.heap.size w w')=>vjoin_ex (f:=105) (F:=F) plainS (fun _ _=>rfl) A6 n6 vs w' (Dt.below _ ha q (Nat.le_refl _)) (hE.below q) (fun y hy h=>Nat.le_trans (plain0_len (hr y hy).1 h) (by decide)) (fun y hy A' c' w' hE' _=>vplain_any y.k y.n y.s y.l.length c' A' (hr y hy).1 w' hE'));have hDl:=domS_len (x:=⟨k,nm,b,dm,sz,false,vs,ak⟩) hd;have HD:=Lib.hid (fun (w':World) (q:Below w.heap.size w w')=>vdom_any (F:=G) k ⟨nm.toArray⟩ b dm n3 A3 sz false vs.length n6 A6 ak w' (hE.below q) hd (Dt.below _ hda q (Nat.le_refl _)) ⟨k,nm,b,dm,sz,false,vs,ak⟩ rfl rfl);try dsimp only at hF
 generalize domS ⟨k,nm,b,dm,sz,false,vs,ak⟩=DS at*;generalize joinS (vs.map plainS)=J at*;obtain ⟨t,jb⟩:=J;obtain ⟨dt,db⟩:=DS;dsimp only[TXV]at hF hJl HJ hDl HD;have HN:=Lib.hid (vname_any ⟨nm.toArray⟩);have hX:∀B,(Value.tuple #[.string ((⟨#[118,97,114,32]⟩:ByteArray)++⟨dt.toArray⟩++⟨#[58,32]⟩++⟨nm.toArray⟩++⟨#[59]⟩),.bool B])=TXV ([118,97,114,32]++dt++[58,32]++nm++[]++[]++[59],B):=fun B=>by
  have h:((⟨#[118,97,114,32]⟩:ByteArray)++⟨dt.toArray⟩++⟨#[58,32]⟩++⟨nm.toArray⟩++⟨#[59]⟩)=⟨([118,97,114,32]++dt++[58,32]++nm++[]++[]++[59]).toArray⟩:=by
   apply ByteArray.ext;simp[wOutVar]
  unfold TXV;rw[h]
 have hNl:=name_len hnm;have hVl:(⟨t.toArray⟩:ByteArray).size≤600000:=hJl;have hDl2:(⟨dt.toArray⟩:ByteArray).size≤20000:=hDl;have hnb:nameB (⟨nm.toArray⟩:ByteArray).data.toList=nameB nm:=rfl;rw[hnb]at HN;generalize (⟨nm.toArray⟩:ByteArray)=N at*;generalize (⟨t.toArray⟩:ByteArray)=V at*;generalize (⟨dt.toArray⟩:ByteArray)=D at*;have hz0:¬9223372036854775807<4+D.size:=by omega
 have hz1:¬9223372036854775807<4+D.size+2:=by omega
 have hz2:¬9223372036854775807<4+D.size+2+N.size:=by omega
 have hz3:¬9223372036854775807<4+D.size+2+N.size+1:=by omega
 rw[show (vs.length==0)=true by simp[hv]]at hF;have HVS:=Lib.hid hv;clear hv;clear hNl hVl hDl hDl2 hJl hnm hnb hd hr hda ha;have HF:=Lib.hid hF;have HX:=Lib.hid hX;clear hF hX;generalize nameB nm=nb at*;have q0:=below_alloc1 w (.cells #[.int .i64 k,.string N,.bool b,.slice A3 dm.length n3,.int .i64 sz,.bool false,.slice A6 vs.length n6,.int .i64 ak] 97);have b0:Blk (w.alloc (.cells #[.int .i64 k,.string N,.bool b,.slice A3 dm.length n3,.int .i64 sz,.bool false,.slice A6 vs.length n6,.int .i64 ak] 97)) w.heap.size 97 #[.int .i64 k,.string N,.bool b,.slice A3 dm.length n3,.int .i64 sz,.bool false,.slice A6 vs.length n6,.int .i64 ak]:=Blk.new ..;go_enter Tryz.func74,Tryz.ntmps74;go_wp2_with fail;refine (HD.out _ q0).mono ?_;rintro e w1 ⟨rfl,q1⟩;have b1:=b0.below q1 (Nat.le_refl _);have q2:=below_trans q0 q1;clear q0 q1 b0 HD;obtain ⟨m1,m2,m3,m4,m5,m6,m7,m8⟩:=Blk.eight b1;go_wp2_with fail;refine (HJ.out _ q2).mono ?_;rintro e w3 ⟨rfl,q3⟩;have b3:=b1.below q3 (Nat.le_refl _);have q4:=below_trans q2 q3;clear q2 q3 b1 HJ m1 m2 m3 m4 m5 m6 m7 m8;obtain ⟨m1,m2,m3,m4,m5,m6,m7,m8⟩:=Blk.eight b3;generalize dm.length=d at*;have HL:=Lib.hid (show decide (vs.length≤1)=decide (vs.length≤1) from rfl);have hv:=HVS.out;clear HVS;generalize vs.length=vn at*;subst hv;cases db with
 |false=>
  go_wp2_with fail;refine bodyPost_ret (v:= .tuple #[.string ((⟨#[118,97,114,32]⟩:ByteArray)++D++⟨#[58,32]⟩++N++⟨#[59]⟩),.bool false]) (by simp[results,Tryz.results74,go_sem]) rfl ⟨?_,q4⟩;rw[HX.out,HF.out];rfl
 |true=>
  cases jb with
  |false=>
   go_wp2_with fail;refine bodyPost_ret (v:= .tuple #[.string ((⟨#[118,97,114,32]⟩:ByteArray)++D++⟨#[58,32]⟩++N++⟨#[59]⟩),.bool false]) (by simp[results,Tryz.results74,go_sem]) rfl ⟨?_,q4⟩;rw[HX.out,HF.out];rfl
  |true=>
   by_cases hs:sz=0
   ·subst hs;by_cases hk:ak=0
    ·subst hk;go_wp2_with fail;refine (HN.out _ (hE.below q4)).mono ?_;rintro e w5 ⟨rfl,q5⟩;go_wp2_with fail;refine bodyPost_ret (v:= .tuple #[.string ((⟨#[118,97,114,32]⟩:ByteArray)++D++⟨#[58,32]⟩++N++⟨#[59]⟩),.bool nb]) (by simp[results,Tryz.results74,go_sem]) rfl ⟨?_,below_trans q4 q5⟩;rw[HX.out,HF.out];rfl
    ·have hk1:=int_ne0 hk;have HK:=Lib.hid hk1;go_wp2_with fail;refine bodyPost_ret (v:= .tuple #[.string ((⟨#[118,97,114,32]⟩:ByteArray)++D++⟨#[58,32]⟩++N++⟨#[59]⟩),.bool false]) (by simp[results,Tryz.results74,go_sem]) rfl ⟨?_,q4⟩;rw[HX.out,HF.out,HK.out];rfl
   ·have hs1:=int_ne0 hs;have HS:=Lib.hid hs1;go_wp2_with fail;refine bodyPost_ret (v:= .tuple #[.string ((⟨#[118,97,114,32]⟩:ByteArray)++D++⟨#[58,32]⟩++N++⟨#[59]⟩),.bool false]) (by simp[results,Tryz.results74,go_sem]) rfl ⟨?_,q4⟩;rw[HX.out,HF.out,HS.out];rfl
theorem vvar_nv {F G:Nat→Prop} (k:Int) (nm:List UInt8) (b:Bool) (dm:List (Int×Int)) (n3:Nat) (A3:Option Addr) (sz:Int) (vs:List Ex) (n6:Nat) (A6:Option Addr) (ak:Int) (w:World) (hE:Env w) (hnm:nm.length≤10000) (hd:∀r∈dm,I64 r.1∧I64 r.2) (hr:∀y∈vs,RngE y) (hda:layR.row.P G w (.slice A3 dm.length n3) dm) (ha:(layE 159).row.P F w (.slice A6 vs.length n6) vs) (hv:¬vs.length=0):Calls Tryz.prog 74 #[.agg #[.int .i64 k,.string ⟨nm.toArray⟩,.bool b,.slice A3 dm.length n3,.int .i64 sz,.bool false,.slice A6 vs.length n6,.int .i64 ak]] w fun e w'=>e= .returned (TXV (varS ⟨k,nm,b,dm,sz,false,vs,ak⟩))∧Below w.heap.size w w':=by
 have hF:=varS_eq k nm b dm sz false vs ak;have hJl:=joinS_len (g:=plainS) (l:=vs) (fun y hy h=>plain0_len (hr y hy).1 h);have HJ:=Lib.hid (fun (w':World) (q:Below w.heap.size w w')=>vjoin_ex (f:=105) (F:=F) plainS (fun _ _=>rfl) A6 n6 vs w' (Dt.below _ ha q (Nat.le_refl _)) (hE.below q) (fun y hy h=>Nat.le_trans (plain0_len (hr y hy).1 h) (by decide)) (fun y hy A' c' w' hE' _=>vplain_any y.k y.n y.s y.l.length c' A' (hr y hy).1 w' hE'));have hDl:=domS_len (x:=⟨k,nm,b,dm,sz,false,vs,ak⟩) hd;have HD:=Lib.hid (fun (w':World) (q:Below w.heap.size w w')=>vdom_any (F:=G) k ⟨nm.toArray⟩ b dm n3 A3 sz false vs.length n6 A6 ak w' (hE.below q) hd (Dt.below _ hda q (Nat.le_refl _)) ⟨k,nm,b,dm,sz,false,vs,ak⟩ rfl rfl);try dsimp only at hF
 generalize domS ⟨k,nm,b,dm,sz,false,vs,ak⟩=DS at*;generalize joinS (vs.map plainS)=J at*;obtain ⟨t,jb⟩:=J;obtain ⟨dt,db⟩:=DS;dsimp only[TXV]at hF hJl HJ hDl HD;have HN:=Lib.hid (vname_any ⟨nm.toArray⟩);have hX:∀B,(Value.tuple #[.string ((⟨#[118,97,114,32]⟩:ByteArray)++⟨dt.toArray⟩++⟨#[58,32]⟩++⟨nm.toArray⟩++(⟨#[32,61,32]⟩++⟨t.toArray⟩)++⟨#[59]⟩),.bool B])=TXV ([118,97,114,32]++dt++[58,32]++nm++[]++([32,61,32]++t)++[59],B):=fun B=>by
  have h:((⟨#[118,97,114,32]⟩:ByteArray)++⟨dt.toArray⟩++⟨#[58,32]⟩++⟨nm.toArray⟩++(⟨#[32,61,32]⟩++⟨t.toArray⟩)++⟨#[59]⟩)=⟨([118,97,114,32]++dt++[58,32]++nm++[]++([32,61,32]++t)++[59]).toArray⟩:=by
   apply ByteArray.ext;simp[wOutVar]
  unfold TXV;rw[h]
 have hNl:=name_len hnm;have hVl:(⟨t.toArray⟩:ByteArray).size≤600000:=hJl;have hDl2:(⟨dt.toArray⟩:ByteArray).size≤20000:=hDl;have hnb:nameB (⟨nm.toArray⟩:ByteArray).data.toList=nameB nm:=rfl;rw[hnb]at HN;generalize (⟨nm.toArray⟩:ByteArray)=N at*;generalize (⟨t.toArray⟩:ByteArray)=V at*;generalize (⟨dt.toArray⟩:ByteArray)=D at*;have hz0:¬9223372036854775807<4+D.size:=by omega
 have hz1:¬9223372036854775807<4+D.size+2:=by omega
 have hz2:¬9223372036854775807<4+D.size+2+N.size:=by omega
 have hz3:¬9223372036854775807<3+V.size:=by omega
 have hz4:¬9223372036854775807<4+D.size+2+N.size+(3+V.size):=by omega
 have hz5:¬9223372036854775807<4+D.size+2+N.size+(3+V.size)+1:=by omega
 rw[show (vs.length==0)=false by simp[hv]]at hF;have HVS:=Lib.hid hv;clear hv;clear hNl hVl hDl hDl2 hJl hnm hnb hd hr hda ha;have HF:=Lib.hid hF;have HX:=Lib.hid hX;clear hF hX;generalize nameB nm=nb at*;have q0:=below_alloc1 w (.cells #[.int .i64 k,.string N,.bool b,.slice A3 dm.length n3,.int .i64 sz,.bool false,.slice A6 vs.length n6,.int .i64 ak] 97);have b0:Blk (w.alloc (.cells #[.int .i64 k,.string N,.bool b,.slice A3 dm.length n3,.int .i64 sz,.bool false,.slice A6 vs.length n6,.int .i64 ak] 97)) w.heap.size 97 #[.int .i64 k,.string N,.bool b,.slice A3 dm.length n3,.int .i64 sz,.bool false,.slice A6 vs.length n6,.int .i64 ak]:=Blk.new ..;go_enter Tryz.func74,Tryz.ntmps74;go_wp2_with fail;refine (HD.out _ q0).mono ?_;rintro e w1 ⟨rfl,q1⟩;have b1:=b0.below q1 (Nat.le_refl _);have q2:=below_trans q0 q1;clear q0 q1 b0 HD;obtain ⟨m1,m2,m3,m4,m5,m6,m7,m8⟩:=Blk.eight b1;go_wp2_with fail;refine (HJ.out _ q2).mono ?_;rintro e w3 ⟨rfl,q3⟩;have b3:=b1.below q3 (Nat.le_refl _);have q4:=below_trans q2 q3;clear q2 q3 b1 HJ m1 m2 m3 m4 m5 m6 m7 m8;obtain ⟨m1,m2,m3,m4,m5,m6,m7,m8⟩:=Blk.eight b3;generalize dm.length=d at*;have HL:=Lib.hid (show decide (vs.length≤1)=decide (vs.length≤1) from rfl);have hv:=HVS.out;clear HVS;generalize vs.length=vn at*;have hv1:decide ((0:Int)<(vn:Int))=true:=decide_eq_true (by omega);cases db with
 |false=>
  go_wp2_with fail;refine bodyPost_ret (v:= .tuple #[.string ((⟨#[118,97,114,32]⟩:ByteArray)++D++⟨#[58,32]⟩++N++(⟨#[32,61,32]⟩++V)++⟨#[59]⟩),.bool false]) (by simp[results,Tryz.results74,go_sem]) rfl ⟨?_,q4⟩;rw[HX.out,HF.out];rfl
 |true=>
  cases jb with
  |false=>
   go_wp2_with fail;refine bodyPost_ret (v:= .tuple #[.string ((⟨#[118,97,114,32]⟩:ByteArray)++D++⟨#[58,32]⟩++N++(⟨#[32,61,32]⟩++V)++⟨#[59]⟩),.bool false]) (by simp[results,Tryz.results74,go_sem]) rfl ⟨?_,q4⟩;rw[HX.out,HF.out];rfl
  |true=>
   by_cases hl:vn≤1
   ·have hl1:decide ((vn:Int)≤1)=true:=decide_eq_true (by omega);have HL1:=Lib.hid (show decide (vn≤1)=true from decide_eq_true hl);by_cases hs:sz=0
    ·subst hs;by_cases hk:ak=0
     ·subst hk;go_wp2_with fail;refine (HN.out _ (hE.below q4)).mono ?_;rintro e w5 ⟨rfl,q5⟩;go_wp2_with fail;refine bodyPost_ret (v:= .tuple #[.string ((⟨#[118,97,114,32]⟩:ByteArray)++D++⟨#[58,32]⟩++N++(⟨#[32,61,32]⟩++V)++⟨#[59]⟩),.bool nb]) (by simp[results,Tryz.results74,go_sem]) rfl ⟨?_,below_trans q4 q5⟩;rw[HX.out,HF.out,HL1.out];rfl
     ·have hk1:=int_ne0 hk;have HK:=Lib.hid hk1;go_wp2_with fail;refine bodyPost_ret (v:= .tuple #[.string ((⟨#[118,97,114,32]⟩:ByteArray)++D++⟨#[58,32]⟩++N++(⟨#[32,61,32]⟩++V)++⟨#[59]⟩),.bool false]) (by simp[results,Tryz.results74,go_sem]) rfl ⟨?_,q4⟩;rw[HX.out,HF.out,HL1.out,HK.out];rfl
    ·have hs1:=int_ne0 hs;have HS:=Lib.hid hs1;go_wp2_with fail;refine bodyPost_ret (v:= .tuple #[.string ((⟨#[118,97,114,32]⟩:ByteArray)++D++⟨#[58,32]⟩++N++(⟨#[32,61,32]⟩++V)++⟨#[59]⟩),.bool false]) (by simp[results,Tryz.results74,go_sem]) rfl ⟨?_,q4⟩;rw[HX.out,HF.out,HL1.out,HS.out];rfl
   ·have hl1:=int_le1 hl;have HL1:=Lib.hid (show decide (vn≤1)=false from decide_eq_false hl);go_wp2_with fail;refine bodyPost_ret (v:= .tuple #[.string ((⟨#[118,97,114,32]⟩:ByteArray)++D++⟨#[58,32]⟩++N++(⟨#[32,61,32]⟩++V)++⟨#[59]⟩),.bool false]) (by simp[results,Tryz.results74,go_sem]) rfl ⟨?_,q4⟩;rw[HX.out,HF.out,HL1.out];rfl
theorem vvar_any {F G:Nat→Prop} (k:Int) (nm:List UInt8) (b:Bool) (dm:List (Int×Int)) (n3:Nat) (A3:Option Addr) (sz:Int) (o:Bool) (vs:List Ex) (n6:Nat) (A6:Option Addr) (ak:Int) (w:World) (hE:Env w) (hnm:nm.length≤10000) (hd:∀r∈dm,I64 r.1∧I64 r.2) (hr:∀y∈vs,RngE y) (hda:layR.row.P G w (.slice A3 dm.length n3) dm) (ha:(layE 159).row.P F w (.slice A6 vs.length n6) vs):Calls Tryz.prog 74 #[.agg #[.int .i64 k,.string ⟨nm.toArray⟩,.bool b,.slice A3 dm.length n3,.int .i64 sz,.bool o,.slice A6 vs.length n6,.int .i64 ak]] w fun e w'=>e= .returned (TXV (varS ⟨k,nm,b,dm,sz,o,vs,ak⟩))∧Below w.heap.size w w':=by
 by_cases hv:vs.length=0
 ·cases o with
  |true=>exact vvar_oe k nm b dm n3 A3 sz vs n6 A6 ak w hE hnm hd hr hda ha hv
  |false=>exact vvar_ne k nm b dm n3 A3 sz vs n6 A6 ak w hE hnm hd hr hda ha hv
 ·cases o with
  |true=>exact vvar_ov k nm b dm n3 A3 sz vs n6 A6 ak w hE hnm hd hr hda ha hv
  |false=>exact vvar_nv k nm b dm n3 A3 sz vs n6 A6 ak w hE hnm hd hr hda ha hv
end Go.Proofs.YtjlhjabgclflcaaGreatDoor
