/-
  Joined texts: NatS, LawE, SgA.
-/
import Derived.Test.YtecfcjdgmpopjaaGreatNatP
import Derived.Test.YtecfcjdgmpopjaaGreatParP
import Derived.Lib.RabinKarpLaws
import Derived.Lib.Strings
import Derived.Test.YtecfcjdgmpopjaaGreatLawD
namespace Go.Proofs.YtecfcjdgmpopjaaGreat
open Go.RowKit Num
theorem Own.cell {w:World}{base g cap n:Nat}{xs:List Nat}(h:Own w base (.slice (some ⟨g,0,none⟩) n cap) xs)(hn:xs.length=n){j:Nat}(hj:j<xs.length):w.cell? ⟨g,j,none⟩=some (.int .u32 xs[j])∧w.frozen? ⟨g,j,none⟩=false:=by
 subst hn;refine⟨?_,World.ownsRow.frozenAt h j⟩;rw[World.ownsRow.cellAt h j (by omega)];simp[hj,dv]
end Go.Proofs.YtecfcjdgmpopjaaGreat
namespace Go.Proofs.YtecfcjdgmpopjaaGreat
open Go.RowKit Num
end Go.Proofs.YtecfcjdgmpopjaaGreat
set_option maxRecDepth 100000
set_option linter.unusedSimpArgs false
set_option linter.unusedVariables false
namespace Go.Proofs.YtecfcjdgmpopjaaGreat
open Go.RowKit Num
def sright (neg:Bool)(xs:List Nat):Bool:=rightB xs&&(!neg||decide (xs≠[]))
def sv (neg:Bool)(xs:List Nat):Int:=if neg then-(val xs:Int) else val xs
def sN (z:Int):Bool:=decide (z<0)
def sD (z:Int):List Nat:=dig z.natAbs
abbrev R3:=Bool×List Nat×Int
def sok (z:Int):R3:=(sN z,sD z,0)
def sbad (c:Int):R3:=(false,[],c)
def sfit (z:Int):R3:=if (sD z).length≤256 then sok z else sbad 3
theorem sRB {neg:Bool}{xs:List Nat}(h:sright neg xs=true):rightB xs=true:=by
 unfold sright at h;rw[Bool.and_eq_true]at h;exact h.1
theorem sright_ne {xs:List Nat}(h:sright true xs=true):xs≠[]:=by
 unfold sright at h;simp at h;exact h.2
theorem sright_of {neg:Bool}{xs:List Nat}(h:rightB xs=true)(h2:neg=true→xs≠[]):sright neg xs=true:=by
 unfold sright;rw[h];cases neg
 ·rfl
 ·simp[h2 rfl]
theorem val_pos_right {xs:List Nat}(ho:Ok xs)(h:rightB xs=true)(hne:xs≠[]):0<val xs:=by
 have:=right_dig ho h;rcases Nat.eq_zero_or_pos (val xs) with h0|h0
 ·rw[h0]at this;exact absurd this.symm hne
 ·exact h0
theorem sN_of (n:Bool)(m:Nat)(h:n=true→0<m):sN (if n then-(m:Int) else m)=n:=by
 unfold sN;cases n
 ·simp
 ·have:=h rfl;simp;omega
theorem sD_of (n:Bool)(m:Nat):sD (if n then-(m:Int) else m)=dig m:=by
 unfold sD;cases n<;>simp
theorem sv_neg {neg:Bool}{xs:List Nat}(ho:Ok xs)(h:sright neg xs=true):sN (sv neg xs)=neg:=
 sN_of neg (val xs) (fun e=>val_pos_right ho (sRB h) (by subst e;exact sright_ne h))
theorem sv_dig {neg:Bool}{xs:List Nat}(ho:Ok xs)(h:sright neg xs=true):sD (sv neg xs)=xs:=by
 unfold sv;rw[sD_of];exact right_dig ho (sRB h)
theorem sv_abs (neg:Bool)(xs:List Nat):(sv neg xs).natAbs=val xs:=by unfold sv;cases neg<;>simp
theorem sD_ok (z:Int):Ok (sD z):=dig_ok _
theorem sright_sd {z:Int}(h:(sD z).length≤256):sright (sN z) (sD z)=true:=by
 refine sright_of (right_dig' h) (fun e=> ?_);unfold sN at e;have hz:z<0:=of_decide_eq_true e;intro h0;have:=dig_eq_nil.1 h0;omega
theorem sv_sd (z:Int):sv (sN z) (sD z)=z:=by
 unfold sv sN sD;rw[val_dig];by_cases h:z<0<;>simp[h]<;>omega
theorem sD_nil {z:Int}:sD z=[]↔z=0:=by
 unfold sD;rw[dig_eq_nil];omega
theorem sD_neg (z:Int):sD (-z)=sD z:=by unfold sD;rw[Int.natAbs_neg]
def saddR (n:Bool)(xs:List Nat)(m:Bool)(ys:List Nat):R3:=if sright n xs&&sright m ys then sfit (sv n xs+sv m ys) else sbad 2
def smulR (n:Bool)(xs:List Nat)(m:Bool)(ys:List Nat):R3:=if sright n xs&&sright m ys then sfit (sv n xs*sv m ys) else sbad 2
def snegR (n:Bool)(xs:List Nat):R3:=if sright n xs then sok (-(sv n xs)) else sbad 2
def sgcdR (n:Bool)(xs:List Nat)(m:Bool)(ys:List Nat):R3:=if sright n xs&&sright m ys then sok (Nat.gcd (val xs) (val ys)) else sbad 2
def cmpZ (a b:Int):Int:=if a<b then-1 else if b<a then 1 else 0
def scmpR (n:Bool)(xs:List Nat)(m:Bool)(ys:List Nat):Int×Int:=if sright n xs&&sright m ys then(cmpZ (sv n xs) (sv m ys),0) else(0,2)
def ssmallR (n:Bool)(xs:List Nat):Int×Int:=if sright n xs then(if-9223372036854775808≤sv n xs∧sv n xs<9223372036854775808 then(sv n xs,0) else(0,4)) else(0,2)
abbrev R5:=Bool×List Nat×Bool×List Nat×Int
def dok (q r:Int):R5:=(sN q,sD q,sN r,sD r,0)
def dbad (c:Int):R5:=(false,[],false,[],c)
def sdivR (n:Bool)(xs:List Nat)(m:Bool)(ys:List Nat):R5:=
 if sright n xs&&sright m ys&&decide (ys≠[]) then(if (sD (Int.fdiv (sv n xs) (sv m ys))).length≤256 then dok (Int.fdiv (sv n xs) (sv m ys)) (Int.fmod (sv n xs) (sv m ys)) else dbad 3) else dbad 2
end Go.Proofs.YtecfcjdgmpopjaaGreat
namespace Go.Proofs.YtecfcjdgmpopjaaGreat
open Go.RowKit Num
def madeR (n:Bool)(r:List Nat×Int):R3:=if r.2=0 then(n&&decide (r.1≠[]),r.1,0) else sbad r.2
theorem madeR_dig (n:Bool)(k:Nat):madeR n (dig k,0)=sok (if n then-(k:Int) else k):=by
 unfold madeR sok;rw[if_pos rfl,sD_of];refine Prod.ext ?_ rfl;show(n&&decide (dig k≠[]))=sN (if n then-(k:Int) else k);unfold sN;cases n
 ·simp
 ·by_cases h:k=0
  ·subst h;rfl
  ·have:dig k≠[]:=fun e=>h (dig_eq_nil.1 e);simp[this];omega
theorem madeR_fit (n:Bool)(k:Nat):madeR n (fitR k)=sfit (if n then-(k:Int) else k):=by
 unfold fitR sfit;rw[sD_of];by_cases h:(dig k).length≤256
 ·rw[if_pos h,if_pos h,madeR_dig]
 ·rw[if_neg h,if_neg h];rfl
theorem sfit_of {z:Int}(h:(sD z).length≤256):sfit z=sok z:=by unfold sfit;rw[if_pos h]
theorem saddR_eq {n m:Bool}{xs ys:List Nat}(h1:sright n xs=true)(h2:sright m ys=true):saddR n xs m ys=sfit (sv n xs+sv m ys):=by unfold saddR;rw[h1,h2];rfl
theorem saddR_no {n m:Bool}{xs ys:List Nat}(h:(sright n xs&&sright m ys)=false):saddR n xs m ys=sbad 2:=by unfold saddR;rw[h];rfl
theorem smulR_eq {n m:Bool}{xs ys:List Nat}(h1:sright n xs=true)(h2:sright m ys=true):smulR n xs m ys=sfit (sv n xs*sv m ys):=by unfold smulR;rw[h1,h2];rfl
theorem smulR_no {n m:Bool}{xs ys:List Nat}(h:(sright n xs&&sright m ys)=false):smulR n xs m ys=sbad 2:=by unfold smulR;rw[h];rfl
theorem sgcdR_eq {n m:Bool}{xs ys:List Nat}(h1:sright n xs=true)(h2:sright m ys=true):sgcdR n xs m ys=sok (Nat.gcd (val xs) (val ys)):=by unfold sgcdR;rw[h1,h2];rfl
theorem sgcdR_no {n m:Bool}{xs ys:List Nat}(h:(sright n xs&&sright m ys)=false):sgcdR n xs m ys=sbad 2:=by unfold sgcdR;rw[h];rfl
theorem scmpR_eq {n m:Bool}{xs ys:List Nat}(h1:sright n xs=true)(h2:sright m ys=true):scmpR n xs m ys=(cmpZ (sv n xs) (sv m ys),0):=by unfold scmpR;rw[h1,h2];rfl
theorem scmpR_no {n m:Bool}{xs ys:List Nat}(h:(sright n xs&&sright m ys)=false):scmpR n xs m ys=(0,2):=by unfold scmpR;rw[h];rfl
theorem sadd_same {n:Bool}{xs ys:List Nat}(h1:sright n xs=true)(h2:sright n ys=true):saddR n xs n ys=madeR n (addR xs ys):=by
 rw[saddR_eq h1 h2,addR_eq (sRB h1) (sRB h2),madeR_fit];unfold sv;cases n<;>simp<;>congr 1<;>omega
theorem len_dig_sub {xs:List Nat}(ho:Ok xs)(h:rightB xs=true)(n:Nat)(hn:n≤val xs):(dig n).length≤256:=by
 have:=dig_len_mono hn;rw[right_dig ho h]at this;exact Nat.le_trans this (right_len h)
theorem sadd_sub {n m:Bool}{xs ys:List Nat}(ho:Ok xs)(hnm:(n==m)=false)(h1:sright n xs=true)(h2:sright m ys=true)(hle:val ys≤val xs):saddR n xs m ys=madeR n (subR xs ys):=by
 rw[saddR_eq h1 h2,subR_eq (sRB h1) (sRB h2) hle,madeR_dig];have e:sv n xs+sv m ys=if n then-((val xs-val ys:Nat):Int) else((val xs-val ys:Nat):Int):=by
  unfold sv;cases n<;>cases m<;>simp at hnm⊢ <;>omega
 rw[e,sfit_of];rw[sD_of];exact len_dig_sub ho (sRB h1) _ (Nat.sub_le _ _)
theorem saddR_comm (n m:Bool)(xs ys:List Nat):saddR n xs m ys=saddR m ys n xs:=by
 unfold saddR;rw[Bool.and_comm,Int.add_comm]
theorem smul_made {n m:Bool}{xs ys:List Nat}(h1:sright n xs=true)(h2:sright m ys=true):smulR n xs m ys=madeR (n !=m) (mulR xs ys):=by
 rw[smulR_eq h1 h2,mulR_eq (sRB h1) (sRB h2),madeR_fit];unfold sv;cases n<;>cases m<;>simp[Int.mul_neg,Int.neg_mul]
theorem cmpZ_pp (a b:Nat):cmpZ (a:Int) (b:Int)=cmpN a b:=by
 unfold cmpZ cmpN;by_cases h:a<b
 ·rw[if_pos h,if_pos (by omega)]
 ·rw[if_neg h,if_neg (by omega)];by_cases h2:b<a
  ·rw[if_pos h2,if_pos (by omega)]
  ·rw[if_neg h2,if_neg (by omega)]
theorem cmpN_flip (a b:Nat): -cmpN a b=cmpN b a:=by
 rcases Nat.lt_trichotomy a b with h|h|h
 ·rw[cmpN_lt h,cmpN_gt h];rfl
 ·rw[cmpN_eq h,cmpN_eq h.symm];rfl
 ·rw[cmpN_gt h,cmpN_lt h]
theorem cmpZ_nn (a b:Nat):cmpZ (-(a:Int)) (-(b:Int))= -cmpN a b:=by
 rw[cmpN_flip,←cmpZ_pp];unfold cmpZ;by_cases h:a<b
 ·rw[if_neg (by omega),if_pos (by omega),if_neg (by omega),if_pos (by omega)]
 ·by_cases h2:b<a
  ·rw[if_pos (by omega),if_pos (by omega)]
  ·rw[if_neg (by omega),if_neg (by omega),if_neg (by omega),if_neg (by omega)]
theorem scmp_pp (xs ys:List Nat):cmpZ (sv false xs) (sv false ys)=cmpN (val xs) (val ys):=cmpZ_pp _ _
theorem scmp_nn (xs ys:List Nat):cmpZ (sv true xs) (sv true ys)= -cmpN (val xs) (val ys):=cmpZ_nn _ _
theorem scmp_np {xs ys:List Nat}(ho:Ok xs)(h:sright true xs=true):cmpZ (sv true xs) (sv false ys)= -1:=by
 have:=val_pos_right ho (sRB h) (sright_ne h);unfold cmpZ sv;simp;omega
theorem scmp_pn {xs ys:List Nat}(ho:Ok ys)(h:sright true ys=true):cmpZ (sv false xs) (sv true ys)=1:=by
 have:=val_pos_right ho (sRB h) (sright_ne h);unfold cmpZ sv;simp;omega
theorem fdiv_same (n:Bool)(a b:Nat)(hb:0<b):Int.fdiv (if n then-(a:Int) else a) (if n then-(b:Int) else b)=((a/b:Nat):Int)∧Int.fmod (if n then-(a:Int) else a) (if n then-(b:Int) else b)=(if n then-((a%b:Nat):Int) else((a%b:Nat):Int)):=by
 have h1:=Nat.div_add_mod a b;have h2:=Nat.mod_lt a hb;have h3:(b:Int)*((a/b:Nat):Int)+((a%b:Nat):Int)=a:=by exact_mod_cast h1
 cases n
 ·simp only[Bool.false_eq_true,if_false];exact(Int.fdiv_fmod_unique (by omega)).2 ⟨by omega,by omega,by omega⟩
 ·simp only[if_true];refine(Int.fdiv_fmod_unique' (by omega)).2 ⟨?_,by omega,by omega⟩;rw[Int.neg_mul];omega
theorem fdiv_zero (n:Bool)(a b:Nat)(hb:0<b)(h:a%b=0):Int.fdiv (if n then-(a:Int) else a) (if !n then-(b:Int) else b)= -((a/b:Nat):Int)∧Int.fmod (if n then-(a:Int) else a) (if !n then-(b:Int) else b)=0:=by
 have h1:=Nat.div_add_mod a b;have h3:(b:Int)*((a/b:Nat):Int)=a:=by rw[h]at h1;exact_mod_cast h1
 cases n
 ·simp only[Bool.false_eq_true,if_false,Bool.not_false,if_true];refine(Int.fdiv_fmod_unique' (by omega)).2 ⟨?_,by omega,by omega⟩;rw[Int.neg_mul_neg];omega
 ·simp only[Bool.not_true,Bool.false_eq_true,if_false,if_true];refine(Int.fdiv_fmod_unique (by omega)).2 ⟨?_,by omega,by omega⟩;rw[Int.mul_neg];omega
theorem fdiv_down (n:Bool)(a b:Nat)(hb:0<b)(h:a%b≠0):Int.fdiv (if n then-(a:Int) else a) (if !n then-(b:Int) else b)= -((a/b+1:Nat):Int)∧Int.fmod (if n then-(a:Int) else a) (if !n then-(b:Int) else b)=(if !n then-((b-a%b:Nat):Int) else((b-a%b:Nat):Int)):=by
 have h1:=Nat.div_add_mod a b;have h2:=Nat.mod_lt a hb;have h3:(b:Int)*((a/b:Nat):Int)+((a%b:Nat):Int)=a:=by exact_mod_cast h1
 have h4:(b:Int)*((a/b+1:Nat):Int)=b*((a/b:Nat):Int)+b:=by rw[Int.natCast_add,Int.mul_add];simp
 cases n
 ·simp only[Bool.false_eq_true,if_false,Bool.not_false,if_true];refine(Int.fdiv_fmod_unique' (by omega)).2 ⟨?_,by omega,by omega⟩;rw[Int.neg_mul_neg,h4];omega
 ·simp only[Bool.not_true,Bool.false_eq_true,if_false,if_true];refine(Int.fdiv_fmod_unique (by omega)).2 ⟨?_,by omega,by omega⟩;rw[Int.mul_neg,h4];omega
end Go.Proofs.YtecfcjdgmpopjaaGreat
namespace Go.Proofs.YtecfcjdgmpopjaaGreat
open Go.RowKit Num
abbrev iv (neg:Bool)(A:Option Addr)(n c:Nat):Value:= .agg #[.bool neg,.slice A n c]
theorem bA1 (w:World)(o:Obj):Below w.heap.size w (w.alloc o):=(Below.refl w.heap.size w).alloc ZL o
theorem bcell {W w1:World}(hb:Below W.heap.size W w1):(∀b o,b<W.heap.size→w1.cell? ⟨b,o,none⟩=W.cell? ⟨b,o,none⟩)∧(∀b o,b<W.heap.size→w1.frozen? ⟨b,o,none⟩=W.frozen? ⟨b,o,none⟩):=
 ⟨fun b o h=>hb.cell (p:=⟨b,o,none⟩) h,fun b o h=>hb.frozen (p:=⟨b,o,none⟩) h⟩
def RetI (w w':World)(e:Ending)(r:R3):Prop:=(∃A c,e= .returned (.tuple #[iv r.1 A r.2.1.length c,.int .i64 r.2.2])∧Rd w' A c r.2.1)∧Below w.heap.size w w'
def RetN (w w':World)(e:Ending)(r:Bool×List Nat):Prop:=(∃A c,e= .returned (iv r.1 A r.2.length c)∧Rd w' A c r.2)∧Below w.heap.size w w'
def RetII (w w':World)(e:Ending)(r:R5):Prop:=
 (∃A c B d,e= .returned (.tuple #[iv r.1 A r.2.1.length c,iv r.2.2.1 B r.2.2.2.1.length d,.int .i64 r.2.2.2.2])∧Rd w' A c r.2.1∧Rd w' B d r.2.2.2.1)∧Below w.heap.size w w'
theorem sright_any (neg:Bool)(A:Option Addr)(c:Nat)(xs:List Nat)(w:World)(ha:Rd w A c xs):Calls Tryz.prog 126 #[iv neg A xs.length c] w fun e w'=>e= .returned (.bool (sright neg xs))∧Below w.heap.size w w':=by
 have hl:=ha.len;rcases Bool.eq_false_or_eq_true (rightB xs) with h1|h1
 ·have H1:=ZH h1;cases neg
  ·have HE:Hid (sright false xs=true):=by unfold Hid sright;rw[h1];rfl
   clear h1;go_enter Tryz.func126,Tryz.ntmps126;go_wp2_with fail;refine(right_any A c xs _ (ha.alloc _)).mono ?_;rintro e w2 ⟨rfl,rfl⟩;rw[H1.out];go_wp2;go_ret;rw[HE.out];exact⟨rfl,bA1 _ _⟩
  ·by_cases hx:xs=[]
   ·subst hx;have HE:Hid (sright true []=false):=by unfold Hid sright;simp
    clear h1;go_enter Tryz.func126,Tryz.ntmps126;go_wp2_with fail;refine(right_any A c [] _ (ha.alloc _)).mono ?_;rintro e w2 ⟨rfl,rfl⟩;rw[H1.out];go_wp2;go_ret;rw[HE.out];exact⟨rfl,bA1 _ _⟩
   ·have HE:Hid (sright true xs=true):=by unfold Hid sright;rw[h1];simpa using hx
    have h3:0<xs.length:=List.length_pos_iff.2 hx;have h4:((xs.length:Int)==0)=false:=beq_eq_false_iff_ne.2 (by omega);clear h1 hx;go_enter Tryz.func126,Tryz.ntmps126;go_wp2_with fail;refine(right_any A c xs _ (ha.alloc _)).mono ?_;rintro e w2 ⟨rfl,rfl⟩;rw[H1.out];go_wp2;go_ret;rw[HE.out];exact⟨rfl,bA1 _ _⟩
 ·have HE:Hid (sright neg xs=false):=by unfold Hid sright;rw[h1];rfl
  have H1:=ZH h1;clear h1;go_enter Tryz.func126,Tryz.ntmps126;go_wp2_with fail;refine(right_any A c xs _ (ha.alloc _)).mono ?_;rintro e w2 ⟨rfl,rfl⟩;rw[H1.out];go_wp2;go_ret;rw[HE.out];exact⟨rfl,bA1 _ _⟩
theorem both_any (n m:Bool)(A B:Option Addr)(c d:Nat)(xs ys:List Nat)(w:World)(ha:Rd w A c xs)(hb:Rd w B d ys):Calls Tryz.prog 128 #[iv n A xs.length c,iv m B ys.length d] w fun e w'=>e= .returned (.bool (sright n xs&&sright m ys))∧Below w.heap.size w w':=by
 have hb1:=(bA1 w (.cells #[.bool n,.slice A xs.length c] 70)).alloc (by simp) (.cells #[.bool m,.slice B ys.length d] 70);rcases Bool.eq_false_or_eq_true (sright n xs) with h1|h1
 ·rw[h1];have H1:=ZH h1;clear h1;go_enter Tryz.func128,Tryz.ntmps128;go_wp2_with fail;refine(sright_any n A c xs _ ((ha.alloc _).alloc _)).mono ?_;rintro e w2 ⟨rfl,hb2⟩;rw[H1.out];obtain⟨hc,hf⟩:=bcell hb2;go_wp2_with fail;refine(sright_any m B d ys _ (((hb.alloc _).alloc _).below hb2 ZL)).mono ?_;rintro e w3 ⟨rfl,hb3⟩;go_wp2;go_ret;exact⟨by simp,hb1.trans ((hb2.mono hb1.size).trans (hb3.mono (Nat.le_trans hb1.size hb2.size)))⟩
 ·rw[h1];have H1:=ZH h1;clear h1;go_enter Tryz.func128,Tryz.ntmps128;go_wp2_with fail;refine(sright_any n A c xs _ ((ha.alloc _).alloc _)).mono ?_;rintro e w2 ⟨rfl,hb2⟩;rw[H1.out];go_wp2;go_ret;exact⟨by simp,hb1.trans (hb2.mono hb1.size)⟩
end Go.Proofs.YtecfcjdgmpopjaaGreat
namespace Go.Proofs.YtecfcjdgmpopjaaGreat
open Go.RowKit Num
theorem Rd.of_none {w:World}{c:Nat}{xs:List Nat}(h:Rd w none c xs):xs=[]:=by
 rcases xs with _|⟨x,xs⟩
 ·rfl
 ·obtain⟨b,o,h,_⟩:=h.at_ (by simp);cases h
theorem wp_app00 {ops:Array Oper}{rest:List Oper}{o:Oper}{a:Act}{Q:Exit→Act→World→Prop}(s x:Operand)(w:World)(c:Nat)(hgd:o.guard=none)(ho:o.op= .call {callee:= .builtin .append,args:= #[s,x],argTypes:= #[53,53]})(hs:a.eval s= .slice none 0 0)(hx:a.eval x= .slice none 0 c)(h:wpList Tryz.prog ops Q rest (a.put o.dst (.slice none 0 0)) w):wpList Tryz.prog ops Q (o::rest) a w:=by
 refine wpList_plain hgd fun K hK=> ?_;obtain⟨i0,hi,_,_,_⟩:=info_parts info_u32;have hrun:(Builtin.append_ #[53,53] o.type #[.slice none 0 0,.slice none 0 c]).run Tryz.prog w= .ok (.slice none 0 0) w:=by
  simp[Builtin.append_,run_underlying Tryz.underlying53,sizeOf,typeInfo,hi,Builtin.lenOf,Builtin.firstCells]
 unfold Oper.wp;simp[execOp,ho,resolve,invoke,builtin,hs,hx,hrun,Result.andThen];exact hK _ _ h
theorem wp_copy {ops:Array Oper}{rest:List Oper}{o:Oper}{a:Act}{Q:Exit→Act→World→Prop}(s x:Operand)(w:World)(A:Option Addr)(c:Nat)(ys:List Nat)(hr:Rd w A c ys)(hlen:ys.length≤1000000)(hgd:o.guard=none)(ho:o.op= .call {callee:= .builtin .append,args:= #[s,x],argTypes:= #[53,53]})(hs:a.eval s= .slice none 0 0)(hx:a.eval x= .slice A ys.length c)(K:∀A' c' w',Rd w' A' c' ys→Below w.heap.size w w'→wpList Tryz.prog ops Q rest (a.put o.dst (.slice A' ys.length c')) w'):wpList Tryz.prog ops Q (o::rest) a w:=by
 rcases A with _|ad
 ·have:=hr.of_none;subst this;exact wp_app00 s x w c hgd ho hs hx (K none 0 w Rd.nil (Below.refl _ _))
 ·refine wp_appN s x w w.heap.size _ [] ad c ys (Own.nil _ _) hr ZL (by simp) hlen hgd ho hs hx ?_;intro v' w' hown _ hbel;obtain⟨A',c',rfl,hr'⟩:=hown.rd hr.ok;exact K A' c' w' hr' hbel
def Blk (w:World)(g:Nat)(t:TypeId)(cs:Array Value):Prop:=w.heap[g]? =some (.cells cs t (0,0))
theorem Blk.lt {w:World}{g:Nat}{t:TypeId}{cs:Array Value}(h:Blk w g t cs):g<w.heap.size:=(Array.getElem?_eq_some_iff.1 h).1
theorem Blk.cell {w:World}{g:Nat}{t:TypeId}{cs:Array Value}(h:Blk w g t cs)(i:Nat):w.cell? ⟨g,i,none⟩=cs[i]? :=cell_of_row w g i cs t (0,0) h
theorem Blk.frozen {w:World}{g:Nat}{t:TypeId}{cs:Array Value}(h:Blk w g t cs)(i:Nat):w.frozen? ⟨g,i,none⟩=false:=by
 unfold Blk at h;simp[World.frozen?,h]
theorem Blk.new (w:World)(t:TypeId)(cs:Array Value):Blk (w.alloc (.cells cs t)) w.heap.size t cs:=heap_alloc_new w _
theorem Blk.at_ {w:World}{g:Nat}{t:TypeId}{cs:Array Value}(h:g=w.heap.size):Blk (w.alloc (.cells cs t)) g t cs:=by subst h;exact Blk.new ..
theorem Blk.drewN {w:World}{g:Nat}{t:TypeId}{cs:Array Value}(h:Blk w g t cs)(n:Nat):Blk (w.drewN n) g t cs:=h
theorem Blk.drew {w:World}{g:Nat}{t:TypeId}{cs:Array Value}(h:Blk w g t cs):Blk w.drew g t cs:=h
theorem Blk.alloc {w:World}{g:Nat}{t:TypeId}{cs:Array Value}(h:Blk w g t cs)(o:Obj):Blk (w.alloc o) g t cs:=(Below.heap_alloc w o g h.lt).trans h
theorem Blk.set_ {w:World}{g:Nat}{t:TypeId}{cs:Array Value}(h:Blk w g t cs)(i:Nat)(u:Value):Blk (w.setCell ⟨g,i,none⟩ u) g t (cs.setIfInBounds i u):=by
 unfold Blk at h⊢;simp[World.setCell,Array.getElem?_modify,h]
theorem Blk.far {w:World}{g:Nat}{t:TypeId}{cs:Array Value}(h:Blk w g t cs){p:Addr}(hp:g≠p.block)(u:Value):Blk (w.setCell p u) g t cs:=(Below.heap_setCell w p u g hp).trans h
theorem Blk.below {w w':World}{g B:Nat}{t:TypeId}{cs:Array Value}(h:Blk w g t cs)(hb:Below B w w')(hB:w.heap.size≤B):Blk w' g t cs:=(hb.block g (Nat.lt_of_lt_of_le h.lt hB)).trans h
theorem Blk.put {w:World}{g:Nat}{t:TypeId}{u v:Value}(h:Blk w g t #[u,v])(a b:Value):Blk ((w.setCell ⟨g,0,none⟩ a).setCell ⟨g,1,none⟩ b) g t #[a,b]:=(h.set_ 0 a).set_ 1 b
theorem Blk.away {w:World}{g k:Nat}{t:TypeId}{cs:Array Value}(h:Blk w g t cs)(hne:g≠k)(a b:Value):Blk ((w.setCell ⟨k,0,none⟩ a).setCell ⟨k,1,none⟩ b) g t cs:=(h.far hne a).far hne b
def IB (w:World)(g:Nat):Prop:=∃n A l c t,w.heap[g]? =some (.cells #[.bool n,.slice A l c] t (0,0))
theorem IB.lt {w:World}{g:Nat}(h:IB w g):g<w.heap.size:=by
 obtain⟨n,A,l,c,t,h⟩:=h;exact(Array.getElem?_eq_some_iff.1 h).1
theorem Blk.ib {w:World}{g:Nat}{t:TypeId}{n:Bool}{A:Option Addr}{l c:Nat}(h:Blk w g t #[.bool n,.slice A l c]):IB w g:=⟨n,A,l,c,t,h⟩
theorem IB.new (w:World)(n:Bool)(A:Option Addr)(l c t:Nat):IB (w.alloc (.cells #[.bool n,.slice A l c] t)) w.heap.size:=⟨n,A,l,c,t,heap_alloc_new w _⟩
theorem IB.below {w w':World}{g B:Nat}(h:IB w g)(hb:Below B w w')(hB:w.heap.size≤B):IB w' g:=by
 have hl:=h.lt;obtain⟨n,A,l,c,t,h⟩:=h;exact⟨n,A,l,c,t,(hb.block g (Nat.lt_of_lt_of_le hl hB)).trans h⟩
theorem IB.cell {w:World}{g o d:Nat}(h:IB w g)(hc:w.cell? ⟨g,o,none⟩=some (.int .u32 d)):False:=by
 obtain⟨n,A,l,c,t,h⟩:=h;rw[cell_of_row w g o _ t (0,0) h]at hc;match o,hc with
 |0,hc=>simp at hc
 |1,hc=>simp at hc
 |o+2,hc=>simp at hc
theorem IB.set0 {w:World}{g:Nat}(h:IB w g)(m:Bool):IB (w.setCell ⟨g,0,none⟩ (.bool m)) g:=by
 obtain⟨n,A,l,c,t,h⟩:=h;exact⟨m,A,l,c,t,by simp[World.setCell,Array.getElem?_modify,h]⟩
theorem Rd.box {w:World}{A:Option Addr}{c g:Nat}{xs:List Nat}(h:Rd w A c xs)(hg:IB w g)(i:Nat)(u:Value):Rd (w.setCell ⟨g,i,none⟩ u) A c xs:=by
 refine⟨h.room,h.cap,h.ok,fun hn=> ?_⟩;obtain⟨b,o,hA,hlt,hc⟩:=h.at_ hn;refine⟨b,o,hA,by simpa[World.setCell]using hlt,fun j hj=> ?_⟩;have hne:b≠g:=by
  rintro rfl;exact hg.cell (hc 0 (List.length_pos_iff.2 hn))
 rw[World.cell?_of_block (Below.heap_setCell w ⟨g,i,none⟩ u b hne)];exact hc j hj
theorem Rd.put {w:World}{A:Option Addr}{c g:Nat}{xs:List Nat}(h:Rd w A c xs)(hg:IB w g)(n:Bool)(u:Value):Rd ((w.setCell ⟨g,0,none⟩ (.bool n)).setCell ⟨g,1,none⟩ u) A c xs:=(h.box hg 0 _).box (hg.set0 n) 1 u
theorem below_put {w0 w:World}{B g:Nat}(h:Below B w0 w)(hg:B≤g)(u v:Value):Below B w0 ((w.setCell ⟨g,0,none⟩ u).setCell ⟨g,1,none⟩ v):=(h.setCell hg _).setCell hg _
theorem Rd.turn {w w':World}{A:Option Addr}{c g:Nat}{xs:List Nat}(h:Rd w A c xs)(hg:w.grownBy w' (some g))(hi:IB w g):Rd w' A c xs:=by
 refine⟨h.room,h.cap,h.ok,fun hn=> ?_⟩;obtain⟨b,o,hA,hlt,hc⟩:=h.at_ hn;refine⟨b,o,hA,Nat.lt_of_lt_of_le hlt hg.size,fun j hj=> ?_⟩;have hne:b≠g:=by
  rintro rfl;exact hi.cell (hc 0 (List.length_pos_iff.2 hn))
 rw[World.cell?_of_block (hg.block b hlt (fun e=>hne (by injection e)))];exact hc j hj
theorem Blk.turn {w w':World}{g k:Nat}{t:TypeId}{cs:Array Value}(h:Blk w g t cs)(hg:w.grownBy w' (some k))(hne:g≠k):Blk w' g t cs:=(hg.block g h.lt (fun e=>hne (by injection e))).trans h
theorem sRG (w:World)(g:Nat)(cs:Array Value):w.grownBy (w.setRow g cs) (some g):=
 ⟨rfl,rfl,rfl,by simp[World.setRow],fun k _ hne=>by
  have hk:g≠k:=fun e=>hne (by rw[e]);simp[World.setRow,Array.getElem?_modify,hk]⟩
theorem Blk.row {w:World}{g:Nat}{t:TypeId}{cs:Array Value}(h:Blk w g t cs)(ds:Array Value):Blk (w.setRow g ds) g t ds:=by
 unfold Blk at h⊢;simp[World.setRow,Array.getElem?_modify,h]
theorem wp_put {ops:Array Oper}{rest:List Oper}{o:Oper}{a:Act}{Q:Exit→Act→World→Prop}{ty:TypeId}(x y:Operand){w:World}{g:Nat}{t:TypeId}{old cs:Array Value}(hb:Blk w g t old)(hgd:o.guard=none)(ho:o.op= .store ty x y)(hx:a.eval x= .pointer (some ⟨g,0,none⟩))(hy:a.eval y= .agg cs)(hi:(Tryz.prog.info? ty).map (·.size)=some cs.size)(hs:old.size=cs.size)(h1:cs.toList.all (·.oneCell')=true)(K:∀w',Blk w' g t cs→w.grownBy w' (some g)→wpList Tryz.prog ops Q rest (a.put o.dst undef) w'):wpList Tryz.prog ops Q (o::rest) a w:=
 wpList_store_row hgd ty x y ho g cs hx hy t old hb hi hs (by rw[←Array.all_toList];exact h1) (K _ (hb.row cs) (sRG w g cs))
theorem wP2 {ops:Array Oper}{rest:List Oper}{a:Act}{Q:Exit→Act→World→Prop}{ty ty2:TypeId}{pos:String}{aft:Array Edge}{gd:Option (Nat×Bool)}(x y:Operand){w:World}{g:Nat}{t:TypeId}{old cs:Array Value}(hb:Blk w g t old)(hgd:gd=none)(ho:ty=ty)(hx:a.eval x= .pointer (some ⟨g,0,none⟩))(hy:a.eval y= .agg cs)(hi:(Tryz.prog.info? ty).map (·.size)=some cs.size)(hs:old.size=cs.size)(h1:cs.toList.all (·.oneCell')=true)(K:∀w',Blk w' g t cs→w.grownBy w' (some g)→wpList Tryz.prog ops Q rest (a.put none undef) w'):wpList Tryz.prog ops Q (⟨none,.store ty x y,ty2,pos,aft,gd⟩::rest) a w:=
 wp_put (o:=⟨none,.store ty x y,ty2,pos,aft,gd⟩) x y hb hgd rfl hx hy hi hs h1 K
theorem st_ {P:Program}{ops:Array Oper}{rest:List Oper}{a:Act}{Q:Exit→Act→World→Prop}{ty ty2:TypeId}{pos:String}{aft:Array Edge}{gd:Option (Nat×Bool)}{x y:Operand}{w:World}
 (h:wpList P ops Q (⟨none,.store ty x y,ty2,pos,aft,gd⟩::rest) a w):wpList P ops Q (⟨none,.store ty x y,ty2,pos,aft,gd⟩::rest) a w:=h
theorem info_int:(Tryz.prog.info? 70).map (·.size)=some 2:=by kernel_rfl
theorem Blk.both {w:World}{g:Nat}{t:TypeId}{u v:Value}(h:Blk w g t #[u,v]):w.cell? ⟨g,0,none⟩=some u∧w.cell? ⟨g,1,none⟩=some v∧w.frozen? ⟨g,0,none⟩=false∧w.frozen? ⟨g,1,none⟩=false:=
 ⟨(h.cell 0).trans rfl,(h.cell 1).trans rfl,h.frozen 0,h.frozen 1⟩
theorem made_ok (neg:Bool)(A:Option Addr)(c:Nat)(xs:List Nat)(w:World)(ha:Rd w A c xs)(hs:xs.length≤100000):Calls Tryz.prog 127 #[.bool neg,.slice A xs.length c,.int .i64 0] w fun e w'=>RetI w w' e (neg&&decide (xs≠[]),xs,0):=by
 have hra:=ha.alloc (.cells #[.bool false,.slice none 0 0] 70);have hbel:=bA1 w (.cells #[.bool false,.slice none 0 0] 70);have hib:=IB.new w false none 0 0 70;by_cases hx:xs=[]
 ·subst hx;go_enter Tryz.func127,Tryz.ntmps127;cases neg;all_goals
   go_wp2_with (at_builtin;refine wp_copy _ _ _ A c [] hra (by simp) rfl rfl rfl rfl ?_;intro A' c' w' hr' hbel';obtain⟨hc,hf⟩:=bcell hbel');refine bodyPost_ret (v:= .tuple #[iv false A' 0 c',.int .i64 0]) (by simp[results,Tryz.results127,go_sem,hc,hf]) rfl ⟨⟨A',c',rfl,hr'.put (hib.below hbel' ZL) _ _⟩,below_put (hbel.trans (hbel'.mono hbel.size)) ZL _ _⟩
 ·have h1:0<xs.length:=List.length_pos_iff.2 hx;have h4:((xs.length:Int)==0)=false:=beq_eq_false_iff_ne.2 (by omega);have HE:=ZH (dT hx);clear hx;go_enter Tryz.func127,Tryz.ntmps127;cases neg
  ·go_wp2_with (at_builtin;refine wp_copy _ _ _ A c xs hra (by omega) rfl rfl rfl rfl ?_;intro A' c' w' hr' hbel';obtain⟨hc,hf⟩:=bcell hbel');rw[HE.out];refine bodyPost_ret (v:= .tuple #[iv false A' xs.length c',.int .i64 0]) (by simp[results,Tryz.results127,go_sem,hc,hf]) rfl ⟨⟨A',c',rfl,hr'.put (hib.below hbel' ZL) _ _⟩,below_put (hbel.trans (hbel'.mono hbel.size)) ZL _ _⟩
  ·go_wp2_with (at_builtin;refine wp_copy _ _ _ A c xs hra (by omega) rfl rfl rfl rfl ?_;intro A' c' w' hr' hbel';obtain⟨hc,hf⟩:=bcell hbel');rw[HE.out];refine bodyPost_ret (v:= .tuple #[iv true A' xs.length c',.int .i64 0]) (by simp[results,Tryz.results127,go_sem,hc,hf]) rfl ⟨⟨A',c',rfl,hr'.put (hib.below hbel' ZL) _ _⟩,below_put (hbel.trans (hbel'.mono hbel.size)) ZL _ _⟩
theorem made_no (neg:Bool)(A:Option Addr)(n c:Nat)(k:Int)(w:World)(hk:(k==0)=false):Calls Tryz.prog 127 #[.bool neg,.slice A n c,.int .i64 k] w fun e w'=>RetI w w' e (false,[],k):=by
 go_enter Tryz.func127,Tryz.ntmps127;go_wp2;exact bodyPost_ret (v:= .tuple #[iv false none 0 0,.int .i64 k]) (by simp[results,Tryz.results127,go_sem]) rfl ⟨⟨none,0,rfl,Rd.nil⟩,bA1 _ _⟩
end Go.Proofs.YtecfcjdgmpopjaaGreat
namespace Go.Proofs.YtecfcjdgmpopjaaGreat
open Go.RowKit Num
theorem bT {w w1 w2:World}(h:Below w.heap.size w w1)(h2:Below w1.heap.size w1 w2):Below w.heap.size w w2:=h.trans (h2.mono h.size)
theorem IB.at_ {w:World}{g:Nat}{n:Bool}{A:Option Addr}{l c t:Nat}(h:g=w.heap.size):IB (w.alloc (.cells #[.bool n,.slice A l c] t)) g:=by subst h;exact IB.new ..
theorem snegR_eq {n:Bool}{xs:List Nat}(ho:Ok xs)(h:sright n xs=true):snegR n xs=(!n&&decide (xs≠[]),xs,0):=by
 unfold snegR;rw[if_pos h];unfold sok;rw[sD_neg,sv_dig ho h];refine Prod.ext ?_ rfl;show sN (-(sv n xs))=_;cases n
 ·by_cases hx:xs=[]
  ·subst hx;simp[sv,sN,val]
  ·have:=val_pos_right ho (sRB h) hx;simp[sv,sN,hx];omega
 ·simp[sv,sN]
theorem snegR_no {n:Bool}{xs:List Nat}(h:sright n xs=false):snegR n xs=(false,[],2):=by unfold snegR;rw[h];rfl
theorem RetI.put {w w1 w2:World}{e:Ending}{r:R3}{g:Nat}(h:RetI w1 w2 e r)(hb:Below w.heap.size w w1)(hg:w.heap.size≤g)(hi:IB w1 g):∃A c,e= .returned (.tuple #[iv r.1 A r.2.1.length c,.int .i64 r.2.2])∧(∀u v,Rd ((w2.setCell ⟨g,0,none⟩ (.bool u)).setCell ⟨g,1,none⟩ v) A c r.2.1)∧∀u v,Below w.heap.size w ((w2.setCell ⟨g,0,none⟩ u).setCell ⟨g,1,none⟩ v):=by
 obtain⟨⟨A,c,rfl,hr⟩,hb2⟩:=h;exact⟨A,c,rfl,fun u v=>hr.put (hi.below hb2 ZL) u v,fun u v=>below_put (bT hb hb2) hg u v⟩
theorem made_any (n:Bool)(A:Option Addr)(c:Nat)(r:List Nat×Int)(w:World)(ha:Rd w A c r.1)(hs:r.1.length≤100000):Calls Tryz.prog 127 #[.bool n,.slice A r.1.length c,.int .i64 r.2] w fun e w'=>RetI w w' e (madeR n r):=by
 obtain⟨xs,k⟩:=r;by_cases hk:k=0
 ·subst hk;exact made_ok n A c xs w ha hs
 ·have:madeR n (xs,k)=sbad k:=by unfold madeR;rw[if_neg hk]
  rw[this];exact made_no n A xs.length c k w (by simpa using hk)
theorem sneg_any (n:Bool)(A:Option Addr)(c:Nat)(xs:List Nat)(w:World)(ha:Rd w A c xs):Calls Tryz.prog 77 #[iv n A xs.length c] w fun e w'=>RetI w w' e (snegR n xs):=by
 have ha0:=(ha.alloc (.cells #[.bool n,.slice A xs.length c] 70)).alloc (.cells #[.bool false,.slice none 0 0] 70);have hb0:=(bA1 w (.cells #[.bool n,.slice A xs.length c] 70)).alloc (by simp) (.cells #[.bool false,.slice none 0 0] 70);have hi0:IB ((w.alloc (.cells #[.bool n,.slice A xs.length c] 70)).alloc (.cells #[.bool false,.slice none 0 0] 70)) (w.heap.size+1):=IB.at_ (by simp);rcases Bool.eq_false_or_eq_true (sright n xs) with h1|h1
 ·have HE:=ZH (snegR_eq ha.ok h1);have H1:=ZH h1;clear h1;go_enter Tryz.func77,Tryz.ntmps77;go_wp2_with fail;refine(sright_any n A c xs _ ha0).mono ?_;rintro e w2 ⟨rfl,hb2⟩;rw[H1.out];obtain⟨hc,hf⟩:=bcell hb2;have ha2:=ha0.below hb2 ZL;have hi2:=hi0.below hb2 ZL;have hbel:=bT hb0 hb2;have hs2:w.heap.size+1<w2.heap.size:=by have:=hb2.size;simp at this;omega
  go_wp2_with fail;refine(made_ok (!n) A c xs w2 ha2 (by have:=right_len (sRB H1.out);omega)).mono ?_;rintro e w3 h3;obtain⟨hc3,hf3⟩:=bcell h3.2;obtain⟨A3,c3,rfl,hr3,hb3⟩:=h3.put hbel (by simp) hi2;clear h3;go_wp2;rw[HE.out];exact bodyPost_ret (v:= .tuple #[iv (!n&&decide (xs≠[])) A3 xs.length c3,.int .i64 0]) (by simp[results,Tryz.results77,go_sem,hc,hf,hc3,hf3,hs2]) rfl ⟨⟨A3,c3,rfl,hr3 _ _⟩,hb3 _ _⟩
 ·have HE:=ZH (snegR_no h1);have H1:=ZH h1;clear h1;go_enter Tryz.func77,Tryz.ntmps77;go_wp2_with fail;refine(sright_any n A c xs _ ha0).mono ?_;rintro e w2 ⟨rfl,hb2⟩;rw[H1.out];obtain⟨hc,hf⟩:=bcell hb2;have ha2:=ha0.below hb2 ZL;have hi2:=hi0.below hb2 ZL;have hbel:=bT hb0 hb2;have hs2:w.heap.size+1<w2.heap.size:=by have:=hb2.size;simp at this;omega
  go_wp2;rw[HE.out];exact bodyPost_ret (v:= .tuple #[iv false none 0 0,.int .i64 2]) (by simp[results,Tryz.results77,go_sem,hc,hf]) rfl ⟨⟨none,0,rfl,Rd.nil.put hi2 _ _⟩,below_put hbel (by omega) _ _⟩
theorem and_true {a b:Bool}(h1:a=true)(h2:b=true):(a&&b)=true:=by rw[h1,h2];rfl
theorem mulR_len' (xs ys:List Nat):(mulR xs ys).1.length≤100000:=Nat.le_trans (mulR_len xs ys) (by omega)
theorem addR_len' (xs ys:List Nat):(addR xs ys).1.length≤100000:=Nat.le_trans (addR_len xs ys) (by omega)
theorem smul_any (n m:Bool)(A B:Option Addr)(c d:Nat)(xs ys:List Nat)(w:World)(ha:Rd w A c xs)(hb:Rd w B d ys):Calls Tryz.prog 122 #[iv n A xs.length c,iv m B ys.length d] w fun e w'=>RetI w w' e (smulR n xs m ys):=by
 have ha0:=((ha.alloc (.cells #[.bool n,.slice A xs.length c] 70)).alloc (.cells #[.bool m,.slice B ys.length d] 70)).alloc (.cells #[.bool false,.slice none 0 0] 70);have hy0:=((hb.alloc (.cells #[.bool n,.slice A xs.length c] 70)).alloc (.cells #[.bool m,.slice B ys.length d] 70)).alloc (.cells #[.bool false,.slice none 0 0] 70);have hb0:=below_alloc (below_alloc (bA1 w (.cells #[.bool n,.slice A xs.length c] 70)) ZL (.cells #[.bool m,.slice B ys.length d] 70)) ZL (.cells #[.bool false,.slice none 0 0] 70);have hi0:IB (((w.alloc (.cells #[.bool n,.slice A xs.length c] 70)).alloc (.cells #[.bool m,.slice B ys.length d] 70)).alloc (.cells #[.bool false,.slice none 0 0] 70)) (w.heap.size+1+1):=IB.at_ (by simp);rcases Bool.eq_false_or_eq_true (sright n xs&&sright m ys) with h0|h0
 case inr=>
  have HE:=ZH (smulR_no h0);have H1:=ZH h0;clear h0;go_enter Tryz.func122,Tryz.ntmps122;go_wp2_with fail;refine(both_any _ _ A B c d xs ys _ ha0 hy0).mono ?_;rintro e w2 ⟨rfl,hb2⟩;rw[H1.out];obtain⟨hc,hf⟩:=bcell hb2;have ha2:=ha0.below hb2 ZL;have hy2:=hy0.below hb2 ZL;have hi2:=hi0.below hb2 ZL;have hbel:=bT hb0 hb2;have hs2:w.heap.size<w2.heap.size∧w.heap.size+1<w2.heap.size∧w.heap.size+1+1<w2.heap.size:=by have:=hb2.size;simp at this;omega
  go_wp2;rw[HE.out];exact bodyPost_ret (v:= .tuple #[iv false none 0 0,.int .i64 2]) (by simp[results,Tryz.results122,go_sem,hc,hf]) rfl ⟨⟨none,0,rfl,Rd.nil.put hi2 _ _⟩,below_put hbel (by omega) _ _⟩
 have H1:=ZH h0;rw[Bool.and_eq_true]at h0;obtain⟨h1,h2⟩:=h0;have HE:=ZH (smul_made h1 h2);clear h1 h2;go_enter Tryz.func122,Tryz.ntmps122;go_wp2_with fail;refine(both_any _ _ A B c d xs ys _ ha0 hy0).mono ?_;rintro e w2 ⟨rfl,hb2⟩;rw[H1.out];obtain⟨hc,hf⟩:=bcell hb2;have ha2:=ha0.below hb2 ZL;have hy2:=hy0.below hb2 ZL;have hi2:=hi0.below hb2 ZL;have hbel:=bT hb0 hb2;have hs2:w.heap.size<w2.heap.size∧w.heap.size+1<w2.heap.size∧w.heap.size+1+1<w2.heap.size:=by have:=hb2.size;simp at this;omega
 go_wp2_with fail;refine(mul_any A B c d xs ys w2 ha2 hy2).mono ?_;rintro e w3 ⟨⟨A3,c3,rfl,hr3⟩,hb3⟩;have hs3:w.heap.size<w3.heap.size∧w.heap.size+1<w3.heap.size∧w.heap.size+1+1<w3.heap.size:=⟨Nat.lt_of_lt_of_le hs2.1 hb3.size,Nat.lt_of_lt_of_le hs2.2.1 hb3.size,Nat.lt_of_lt_of_le hs2.2.2 hb3.size⟩;obtain⟨hc3,hf3⟩:=bcell hb3;have hi3:=hi2.below hb3 ZL;have hbel3:=bT hbel hb3;go_wp2_with fail;refine(made_any (n !=m) A3 c3 (mulR xs ys) w3 hr3 (by first|exact mulR_len' _ _|exact addR_len' _ _|exact Nat.le_trans HL.out (by omega))).mono ?_;rintro e w4 h4;obtain⟨hc4,hf4⟩:=bcell h4.2;obtain⟨A4,c4,rfl,hr4,hb4⟩:=h4.put hbel3 (by omega) hi3;clear h4;go_wp2;rw[HE.out];exact bodyPost_ret (v:= .tuple #[iv (madeR (n !=m) (mulR xs ys)).1 A4 (madeR (n !=m) (mulR xs ys)).2.1.length c4,.int .i64 (madeR (n !=m) (mulR xs ys)).2.2]) (by simp[results,Tryz.results122,go_sem,hc,hf,hc3,hf3,hc4,hf4,hs2,hs3]) rfl ⟨⟨A4,c4,rfl,hr4 _ _⟩,hb4 _ _⟩
end Go.Proofs.YtecfcjdgmpopjaaGreat
