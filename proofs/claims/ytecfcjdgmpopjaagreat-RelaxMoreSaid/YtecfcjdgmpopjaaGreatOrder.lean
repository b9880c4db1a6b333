import Derived.Test.YtecfcjdgmpopjaaGreatRows
import Derived.JoinedOf
import Derived.KernelRfl
namespace Go.Proofs.YtecfcjdgmpopjaaGreat
theorem ws_word (a:List Char)(h:∀c∈a,c≠Char.ofNat 32)(r:List Char):wordsSigns (a++Char.ofNat 32::r)=a::wordsSigns r:=by
 induction a with
 |nil=>rfl
 |cons c a ih=>
  have h1:=ih (fun x hx=>h x (List.mem_cons_of_mem _ hx));have hc:c≠Char.ofNat 32:=h c List.mem_cons_self;show wordsSigns (c::(a++Char.ofNat 32::r))=_;generalize wordsSigns r=W at*;unfold wordsSigns;split
  ·rename_i heq;cases heq
  ·rename_i heq;injection heq with h2 _;exact absurd h2 hc
  ·rename_i heq;injection heq with h2 h3;subst h2 h3;rw[h1]
def ohw:List Char:=([104,97,114,110,101,115,115]:List Nat).map Char.ofNat
def osw:List Char:=([102,56,99,56,53,98,52,101,52,101,56,56,49,54,49,102,97,55,48,100,98,98,54,54,50,57,48,99,50,53,53,100,57,57,98,56,100,50,48,97,97,56,49,101,97,49,102,49,102,53,50,53,51,52,53,52,50,98,50,57,56,55,102,52]:List Nat).map Char.ofNat
def ocw:List Char:=([99,117,116]:List Nat).map Char.ofNat
def otw:List Char:=([97,116,32,116,111,117,99,104,115,116,111,110,101,47,116,111,117,99,104,115,116,111,110,101,108,97,119,50,49,46,82,101,108,97,120,80,114,111,103,114,97,109,115,32,116,111,117,99,104,115,116,111,110,101,47,116,111,117,99,104,115,116,111,110,101,108,97,119,50,49,46,82,101,108,97,120,75,101,101,112,115,32,116,111,117,99,104,115,116,111,110,101,47,116,111,117,99,104,115,116,111,110,101,108,97,119,50,49,46,82,101,108,97,120,80,114,117,110,101,115,32,116,111,117,99,104,115,116,111,110,101,47,116,111,117,99,104,115,116,111,110,101,108,97,119,50,49,46,82,101,108,97,120,82,111,119,115,32,116,111,117,99,104,115,116,111,110,101,47,116,111,117,99,104,115,116,111,110,101,108,97,119,50,49,46,82,101,108,97,120,77,111,114,101]:List Nat).map Char.ofNat
theorem order_is:Tryz.prog.initOrder=String.ofList (ohw++Char.ofNat 32::(osw++Char.ofNat 32::(ocw++Char.ofNat 32::otw))):=by kernel_rfl
theorem ohw_ok:∀c∈ohw,c≠Char.ofNat 32:=by decide
theorem osw_ok:∀c∈osw,c≠Char.ofNat 32:=by decide+kernel
theorem ocw_ok:∀c∈ocw,c≠Char.ofNat 32:=by decide
theorem hdWords:wordsSigns Tryz.prog.initOrder.toList=ohw::osw::ocw::wordsSigns otw:=by
 rw[order_is,String.toList_ofList,ws_word _ ohw_ok,ws_word _ osw_ok,ws_word _ ocw_ok]
theorem behind (R:List (List Char)):behindMainWord (ohw::osw::R)=R:=by
 have h:((ohw== "harness".toList||ohw== "ownmain".toList)&&isSumSigns osw)=true:=by kernel_rfl
 simp only[behindMainWord];rw[if_pos h]
theorem head_is:behindMainWord (wordsSigns Tryz.prog.initOrder.toList)=ocw::wordsSigns otw:=by rw[hdWords,behind]
theorem strip_is (R:List (List Char)):stripLifts liftWords (ocw::R)=([],ocw::R):=by kernel_rfl
theorem mayEnter_of (P:Program)(R:List (List Char))(h:behindMainWord (wordsSigns P.initOrder.toList)=ocw::R)(h1:P.laysLater=false)(h2:P.bearsReflect=false)(h3:P.doorFits []=true):P.mayEnter=true:=by
 have ec:ocw= "cut".toList:=by kernel_rfl
 unfold Program.mayEnter;rw[h];simp[strip_is R,h1,h2,h3];right;simpa using ec
theorem headLifts_of (P:Program)(R:List (List Char))(h:behindMainWord (wordsSigns P.initOrder.toList)=ocw::R):P.headLifts=[]:=by
 unfold Program.headLifts;rw[h];simp only[strip_is R];split<;>rfl
theorem liftsFinal_of (P:Program)(R:List (List Char))(h:behindMainWord (wordsSigns P.initOrder.toList)=ocw::R):P.liftsFinal=false:=by
 have e2:((some ocw:Option (List Char))==some "carried".toList)=false:=by kernel_rfl
 unfold Program.liftsFinal;rw[h,headLifts_of P R h];show((some ocw==some "carried".toList)&&_||_)=false;rw[e2];rfl
theorem make_of (P:Program)(R:List (List Char))(h:behindMainWord (wordsSigns P.initOrder.toList)=ocw::R):P.make=some .cut:=by
 have e1:(ocw== "gc".toList||ocw== "spec".toList)=false:=by kernel_rfl
 have e2:(ocw== "cut".toList)=true:=by kernel_rfl
 unfold Program.make;rw[h];show(if (ocw== "gc".toList||ocw== "spec".toList)=true then _ else if (ocw== "cut".toList||_)=true then _ else _)=_;rw[if_neg (by rw[e1];decide),if_pos (by rw[e2];rfl)]
theorem laysLater_is:Tryz.prog.laysLater=false:=by kernel_rfl
theorem bearsReflect_is:Tryz.prog.bearsReflect=false:=by kernel_rfl
theorem doorFits_is:Tryz.prog.doorFits []=true:=by kernel_rfl
theorem mayEnter_is:Tryz.prog.mayEnter=true:=mayEnter_of _ _ head_is laysLater_is bearsReflect_is doorFits_is
theorem liftsFinal_is:Tryz.prog.liftsFinal=false:=liftsFinal_of _ _ head_is
theorem make_is:Tryz.prog.make=some .cut:=make_of _ _ head_is
end Go.Proofs.YtecfcjdgmpopjaaGreat
