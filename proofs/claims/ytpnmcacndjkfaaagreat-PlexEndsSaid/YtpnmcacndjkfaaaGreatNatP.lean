/-
  Contract of nat.Text.
-/
import Derived.Test.YtpnmcacndjkfaaaGreatBytes
set_option maxHeartbeats 1000000
set_option maxRecDepth 100000
namespace Go.Proofs.YtpnmcacndjkfaaaGreat
open Go.RowKit Num
def textR (xs:List Nat):List UInt8×Int:=if rightB xs then(decS (val xs),0) else([],2)
def RetTE (w w':World)(e:Ending)(r:List UInt8×Int):Prop:=e= .returned (.tuple #[.string ⟨r.1.toArray⟩,.int .i64 r.2])∧Below w.heap.size w w'
theorem ofNat_toNat {n:Nat}(h:n<256):(UInt8.ofNat n).toNat=n:=by simp;omega
theorem OwnB.lenOf {w:World}{base:Nat}{v:Value}{xs:List UInt8}(h:OwnB w base v xs):lenOf v=xs.length:=by
 rcases h.form with ⟨rfl,rfl⟩|⟨g,cap,rfl,_⟩<;>rfl
theorem text_any (A:Option Addr)(c:Nat)(xs:List Nat)(w:World)(ha:Rd w A c xs):Calls Tryz.prog 89 #[.slice A xs.length c] w fun e w'=>RetTE w w' e (textR xs):=by
 by_cases h1:rightB xs=true
 ·by_cases hz:xs=[]
  ·have hz1:((xs.length:Int)==0)=true:=by simp[hz]
   have hE:textR xs=([48],0):=by simp[textR,rightB_nil,hz,val,decS]
   have HE:=ZH hE;clear hE hz;go_enter Tryz.func89,Tryz.ntmps89;go_wp2_with (go_at_call 113;refine(right_any _ _ _ _ ha).mono ?_;rintro e w' ⟨rfl,rfl⟩);go_ret2;rw[HE.out];exact⟨rfl,Below.refl _ _⟩
  ·have hz1:=len_zero_b hz;have hl1:=right_len h1;have hd1:=right_dig ha.ok h1;have hN:0<val xs:=val_pos_of_last (by rw[←hd1];exact fine_dig _) hz;have hE:textR xs=((decR (val xs)).reverse,0):=by
    unfold textR;rw[if_pos h1];unfold decS;rw[if_neg (by omega)]
   have HE:=ZH hE;have hlen:(decR (val xs)).length≤2560:=decR_len_dig (by rw[hd1];exact hl1);have hdl:(dig (val xs)).length≤256:=by rw[hd1];exact hl1
   have H0:Hid (xs=dig (val xs)):=hd1.symm;clear hE hd1 hz;generalize hv:val xs=N at*;clear hv;go_enter Tryz.func89,Tryz.ntmps89;go_wp2_with (go_at_call 113;refine(right_any _ _ _ _ ha).mono ?_;rintro e w' ⟨rfl,rfl⟩);go_loopw [0,4] (fun av v wr=>∃(A1:Option Addr)(c1 m:Nat)(outs:List UInt8),av= .slice A1 (dig m).length c1∧RdOff wr A1 c1 (dig m) v∧OwnB wr w.heap.size v outs∧Hid (decR N=outs++decR m)∧Hid (m≤N)∧Below w.heap.size w wr) (fun _ v _=>2560-lenOf v)
   case atStart=>exact⟨A,c,N,[],by rw[←H0.out],by rw[←H0.out];exact RdOff.old ha,OwnB.nil _ _,rfl,Nat.le_refl N,Below.refl _ _⟩
   case round=>
    obtain⟨A1,c1,m,outs,rfl,hr1,hown,hdec,hmN,hbel⟩:=hrel;have hml:(dig m).length≤256:=Nat.le_trans (dig_len_mono hmN.out) hdl;have hol:outs.length≤2560:=by
     have:=congrArg List.length hdec.out;rw[List.length_append]at this;omega
    have hlo:=hown.lenOf;by_cases hm:0<m
    ·have hml0:0<(dig m).length:=dig_len_pos.2 hm;have HLO:=ZH hlo;clear hlo;have hvm:=val_dig m;have hTS:=ZH (TextTo.start hdec.out);have hlt:m%1000000000<1000000000:=Nat.mod_lt _ (by decide);have hqm:m/1000000000≤m:=Nat.div_le_self _ _;have HQM:=ZH hqm;have hq256:(dig (m/1000000000)).length≤256:=Nat.le_trans (dig_len_mono hqm) hml;have hnz:Hid (¬(m/1000000000=0∧m%1000000000=0)):=by unfold Hid;omega
     clear hqm;go_wp2_with fail;refine(small_any A1 c1 (dig m) 1000000000 _ hr1.1 (by omega) (by decide) (by decide)).mono ?_;rintro e w1 ⟨⟨A2,c2,rfl,hr2,hf2⟩,hb1⟩;rw[hvm]at hr2⊢;have hr3:=RdOff.fresh hr2 hf2 hown;have hown1:=hown.below hb1 ZL;have hbel1:=hbel.trans (hb1.mono hbel.size);generalize m/1000000000=q at*;generalize m%1000000000=left at*;clear hown hbel hr1 hr2 hf2 hb1;go_wp2;go_loopw [4,5,6] (fun v lv iv wr=>∃(i left:Nat)(outs':List UInt8),iv= .int .i64 i∧lv= .int .u32 left∧i≤9∧left<1000000000∧OwnB wr w.heap.size v outs'∧Hid (TextTo N q left i outs')∧Hid (outs'.length=outs.length+i)∧Hid (i=0→¬(q=0∧left=0))∧Below w.heap.size w wr∧RdOff wr A2 c2 (dig q) v) (fun _ _ iv _=>9-(intOf iv).toNat)
     case atStart=>exact⟨0,left,outs,rfl,rfl,by omega,hlt,hown1,hTS,rfl,fun _=>hnz.out,hbel1,hr3⟩
     case round=>
      obtain⟨i,lf,outs',rfl,rfl,hi9,hl9,hown2,hT,hOL,hNZ,hbel2,hr4⟩:=hrel;clear hown1 hbel1 hr3;have hol2:outs'.length≤100000000:=by have:=hOL.out;omega
      have HF:Hid (decR N=outs'++decR q→i≠0→2560-outs'.length<2560-outs.length):=by
       intro h1 h2;have:=congrArg List.length h1;rw[List.length_append]at this;have:=hOL.out;omega
      by_cases hi:i<9
      ·rcases Nat.eq_zero_or_pos q with hq|hq
       ·have hq0:(dig q).length=0:=by rw[hq];rfl
        have hq0':¬0<(dig q).length:=by omega
        have HQ:=ZH hq;have hqc:q≤0:=by omega
        clear hq hq0;by_cases hl:0<lf
        ·have HS:=ZH (hT.out.step hi (.inr hl));go_wp2_with (at_builtin;refine wp_appb1 _ _ _ w.heap.size _ outs' (UInt8.ofNat (48+lf%10)) (by rw[ofNat_toNat (by omega)];omega) hown2 hbel2.size hol2 rfl rfl rfl rfl ?_;intro v' w' hown' hg' hbel' hat');go_roundw
         case rel=>exact⟨i+1,lf/10,_,by go_num,by go_num,by omega,by omega,hown',HS,by unfold Hid;rw[List.length_append,hOL.out];rfl,fun h=>by omega,hbel2.trans hbel',hr4.app hg' hat'⟩
         case measure=>simp[intOf];omega
        ·have HD:=ZH (hT.out.out0 HQ.out (by omega));have hi0:i≠0:=by
          intro h0;have:=hNZ.out h0;omega
         have hlo2:=hown2.lenOf;have HL2:=ZH hlo2;clear hlo2;go_wp2;go_roundw
         case rel=>exact⟨A2,c2,q,outs',rfl,hr4,hown2,HD,Nat.le_trans HQM.out hmN.out,hbel2⟩
         case measure=>
          have:=HF.out HD.out hi0;show 2560-lenOf _<2560-lenOf _;first
           |(rw[HL2.out,HLO.out];exact this)
           |(simp;rw[HL2.out,HLO.out];exact this)
       ·have hq0:0<(dig q).length:=dig_len_pos.2 hq;have HS:=ZH (hT.out.step hi (.inl hq));go_wp2_with (at_builtin;refine wp_appb1 _ _ _ w.heap.size _ outs' (UInt8.ofNat (48+lf%10)) (by rw[ofNat_toNat (by omega)];omega) hown2 hbel2.size hol2 rfl rfl rfl rfl ?_;intro v' w' hown' hg' hbel' hat');go_roundw
        case rel=>exact⟨i+1,lf/10,_,by go_num,by go_num,by omega,by omega,hown',HS,by unfold Hid;rw[List.length_append,hOL.out];rfl,fun h=>by omega,hbel2.trans hbel',hr4.app hg' hat'⟩
        case measure=>simp[intOf];omega
      ·have hi9':i=9:=by omega
       have HD:=ZH ((by have:=hT.out;rw[hi9']at this;exact this.out9));have hi0:i≠0:=by
        intro h0;have:=hNZ.out h0;omega
       have hlo2:=hown2.lenOf;have HL2:=ZH hlo2;clear hlo2;go_wp2;go_roundw
       case rel=>exact⟨A2,c2,q,outs',rfl,hr4,hown2,HD,Nat.le_trans HQM.out hmN.out,hbel2⟩
       case measure=>
        have:=HF.out HD.out hi0;show 2560-lenOf _<2560-lenOf _;first
         |(rw[HL2.out,HLO.out];exact this)
         |(simp;rw[HL2.out,HLO.out];exact this)
    ·have hm0:m=0:=by omega
     have hml0:(dig m).length=0:=by rw[hm0];rfl
     have hd0:decR N=outs:=by
      have:=hdec.out;rw[hm0,decR_zero,List.append_nil]at this;exact this
     have hne:outs≠[]:=by
      rw[←hd0,decR_pos N hN];simp
     have HD:=ZH hd0;clear hd0 hm0 hlo;rcases hown.form with ⟨_,h0⟩|⟨g,cap,rfl,hgb,hgc,_⟩
     ·exact absurd h0 hne
     ·go_wp2_with fail;refine(reverse_any w.heap.size g cap outs _ hown (by omega)).mono ?_;rintro e w2 ⟨⟨rfl,hown2⟩,hg2⟩;have htx:=hown2.text (by simpa using hne);have hbel2:=hbel.grown hg2 hbel.size (by intro k hk;injection hk with hk;omega);go_wp2;go_ret2;rw[HE.out,HD.out];exact⟨rfl,hbel2⟩
 ·have h1':rightB xs=false:=by simpa using h1
  have hE:textR xs=([],2):=by simp[textR,h1']
  have HE:=ZH hE;clear h1 hE;go_enter Tryz.func89,Tryz.ntmps89;go_wp2_with (go_at_call 113;refine(right_any _ _ _ _ ha).mono ?_;rintro e w' ⟨rfl,rfl⟩);go_ret2;rw[HE.out];exact⟨rfl,Below.refl _ _⟩
end Go.Proofs.YtpnmcacndjkfaaaGreat
