import Derived.Test.YtjlhjabgclflcaaGreatDoorTa
import Derived.Test.YtjlhjabgclflcaaGreatDoorShelf
import Derived.Test.YtjlhjabgclflcaaGreatDoorBase
import Derived.Deep.DeepCutAuto
set_option maxHeartbeats 1000000
set_option maxRecDepth 100000
set_option linter.unusedSimpArgs false
set_option linter.unusedVariables false
namespace Go.Proofs.YtjlhjabgclflcaaGreatDoor
open Go.RowKit
theorem forall_u8 {p:UInt8→Bool} (h:(List.range 256).all (fun n=>p (UInt8.ofNat n))=true) (c:UInt8):p c=true:=by
 have:=List.all_eq_true.1 h c.toNat (List.mem_range.2 (UInt8.toNat_lt c));simpa using this
theorem ib_ws (c:UInt8):decide (0≤Lib.indexByte [32,9,13,10] c)=isWs c:=by
 have:=forall_u8 (p:=fun c=>decide (0≤Lib.indexByte [32,9,13,10] c)==isWs c) (by decide+kernel) c;simpa using this
theorem ib_sign (c:UInt8):decide (0≤Lib.indexByte [58,123,125,91,93,40,41,44,59,61] c)=isSign c:=by
 have:=forall_u8 (p:=fun c=>decide (0≤Lib.indexByte [58,123,125,91,93,40,41,44,59,61] c)==isSign c) (by decide+kernel) c;simpa using this
theorem ws_any (c:UInt8) (w:World):Calls Tryz.prog 133 #[.int .u8 c.toNat] w fun e w'=>e= .returned (.bool (isWs c))∧w'=w:=by
 have HI:=Lib.hid (ib_ws c);go_enter Tryz.func133,Tryz.ntmps133;go_wp2_with (go_at_call 134;refine (Tryz.strings_IndexByte _ _ _).mono ?_;rintro e w' ⟨rfl,rfl⟩);go_ret;exact ⟨by rw[←HI.out];rfl,rfl⟩
theorem nolf_any (c:UInt8) (w:World):Calls Tryz.prog 136 #[.int .u8 c.toNat] w fun e w'=>e= .returned (.bool (noLf c))∧w'=w:=by
 have hI:noLf c=((c.toNat:Int) !=10):=by
  have:=forall_u8 (p:=fun c=>noLf c==((c.toNat:Int) !=10)) (by decide+kernel) c;simpa using this
 rw[hI];clear hI;go_enter Tryz.func136,Tryz.ntmps136;go_wp2;go_ret;exact ⟨rfl,rfl⟩
theorem class_eq {c:UInt8} {n:Nat} (hn:c.toNat=n):(isLetter c=true↔n=95∨(97≤n∧n≤122)∨(65≤n∧n≤90))∧(isDigit c=true↔48≤n∧n≤57):=by
 subst hn;have h95:c=95↔c.toNat=95:=⟨fun h=>by rw[h];rfl,fun h=>UInt8.toNat_inj.1 h⟩;constructor
 ·unfold isLetter;simp only[Bool.or_eq_true,Bool.and_eq_true,decide_eq_true_eq,beq_iff_eq,h95,or_assoc]
 ·unfold isDigit;simp only[Bool.and_eq_true,decide_eq_true_eq]
theorem class_1 {c:UInt8} {n:Nat} (hn:c.toNat=n) (h:n=95∨(97≤n∧n≤122)∨(65≤n∧n≤90)):classN c=1:=by
 unfold classN;rw[if_pos ((class_eq hn).1.2 h)]
theorem class_2 {c:UInt8} {n:Nat} (hn:c.toNat=n) (h:48≤n∧n≤57):classN c=2:=by
 unfold classN;rw[if_neg (fun e=>by have:=(class_eq hn).1.1 e;omega),if_pos ((class_eq hn).2.2 h)]
theorem class_3 {c:UInt8} {n:Nat} (hn:c.toNat=n) (h:¬(n=95∨(97≤n∧n≤122)∨(65≤n∧n≤90))) (h2:¬(48≤n∧n≤57)) (h3:0≤Lib.indexByte [58,123,125,91,93,40,41,44,59,61] c):classN c=3:=by
 unfold classN;rw[if_neg (fun e=>h ((class_eq hn).1.1 e)),if_neg (fun e=>h2 ((class_eq hn).2.1 e)),←ib_sign,decide_eq_true h3,if_pos rfl]
theorem class_0 {c:UInt8} {n:Nat} (hn:c.toNat=n) (h:¬(n=95∨(97≤n∧n≤122)∨(65≤n∧n≤90))) (h2:¬(48≤n∧n≤57)) (h3:Lib.indexByte [58,123,125,91,93,40,41,44,59,61] c<0):classN c=0:=by
 unfold classN;rw[if_neg (fun e=>h ((class_eq hn).1.1 e)),if_neg (fun e=>h2 ((class_eq hn).2.1 e)),←ib_sign,decide_eq_false (by omega),if_neg (by simp)]
theorem class_any (c:UInt8) (w:World):Calls Tryz.prog 137 #[.int .u8 c.toNat] w fun e w'=>e= .returned (.int .i64 (classN c))∧w'=w:=by
 have hlt:=UInt8.toNat_lt c;generalize hn:c.toNat=n at*;have HN:=Lib.hid hn;clear hn;go_enter Tryz.func137,Tryz.ntmps137;go_wp2_with (go_at_call 134;refine (Tryz.strings_IndexByte _ _ _).mono ?_;rintro e w' ⟨rfl,rfl⟩);all_goals
  go_ret;refine ⟨?_,rfl⟩;simp only[beq_iff_eq,beq_eq_false_iff_ne,ne_eq]at*;have hc:UInt8.ofNat n=c:=by rw[←HN.out];simp
  first
   |(rw[class_1 HN.out (by omega)];rfl)
   |(rw[class_2 HN.out (by omega)];rfl)
   |(rw[class_3 HN.out (by omega) (by omega) (by rw[←hc];assumption)];rfl)
   |(rw[class_0 HN.out (by omega) (by omega) (by rw[←hc];assumption)];rfl)
theorem num_class (c:UInt8):((classN c)==2)=isDigit c:=by
 have:=forall_u8 (p:=fun c=>((classN c)==2)==isDigit c) (by decide+kernel) c;simpa using this
theorem name_class (c:UInt8):((classN c)==1)=isLetter c:=by
 have:=forall_u8 (p:=fun c=>((classN c)==1)==isLetter c) (by decide+kernel) c;simpa using this
theorem digitc_any (c:UInt8) (w:World):Calls Tryz.prog 146 #[.int .u8 c.toNat] w fun e w'=>e= .returned (.bool (isDigit c))∧w'=w:=by
 have HI:=Lib.hid (num_class c);have hc:∀w,Calls Tryz.prog 137 #[.int .u8 c.toNat] w fun e w'=>e= .returned (.int .i64 (classN c))∧w'=w:=class_any c;have HC:=Lib.hid hc;clear hc;generalize isDigit c=b at*;generalize classN c=k at*;go_enter Tryz.func146,Tryz.ntmps146;go_wp2_with (go_at_call 137;refine (HC.out _).mono ?_;rintro e w' ⟨rfl,rfl⟩);go_ret;exact ⟨by rw[←HI.out];rfl,rfl⟩
theorem word1_any (c:UInt8) (w:World):Calls Tryz.prog 138 #[.int .u8 c.toNat] w fun e w'=>e= .returned (.bool (isWord c))∧w'=w:=by
 have hI:isWord c=((classN c==1)||(classN c==2)):=by rw[num_class,name_class];rfl
 rw[hI];have hc:∀w,Calls Tryz.prog 137 #[.int .u8 c.toNat] w fun e w'=>e= .returned (.int .i64 (classN c))∧w'=w:=class_any c;have HC:=Lib.hid hc;clear hc hI;generalize classN c=k at*;by_cases h1:k=1
 ·subst h1;go_enter Tryz.func138,Tryz.ntmps138;go_wp2_with (go_at_call 137;refine (HC.out _).mono ?_;rintro e w' ⟨rfl,rfl⟩);go_ret;exact ⟨rfl,rfl⟩
 ·have b1:(k==1)=false:=by simpa using h1
  rw[b1];go_enter Tryz.func138,Tryz.ntmps138;go_wp2_with (go_at_call 137;refine (HC.out _).mono ?_;rintro e w' ⟨rfl,rfl⟩);go_ret;exact ⟨by simp,rfl⟩
end Go.Proofs.YtjlhjabgclflcaaGreatDoor
