import Derived.Test.YtecfcjdgmpopjaaGreatRows
import Derived.Test.YtecfcjdgmpopjaaGreatBase
import Derived.ProofKit
import Derived.OpenShut
import Derived.ShutString
import Derived.ChangeOld
namespace Go.Proofs.YtecfcjdgmpopjaaGreat
open Go.ChangeShapes Go.WideShapes Go.ChangeAt Go.RowKit Num
theorem own:ownKnob Tryz.prog.godebug=none:=by kernel_rfl
theorem laidOut:laidOutB Tryz.prog=true:=by kernel_rfl
def IsRow (k:IntKind)(w:World)(a:Option Addr)(len cap:Nat)(zs:List Int):Prop:=
 (a=none∧len=0∧cap=0∧zs=[])∨
 ∃x,a=some x∧len≤cap∧cap≤maxLen∧zs.length=cap∧(∀i,i<zs.length→w.cell? (x.add i)=some (.int k (zs.getD i 0))∧x.block<w.heap.size)∧∀n∈zs,(Lit.int k n).wf=true
theorem IsRow.of_cells {k:IntKind}{w:World}{x:Addr}{l c:Nat}{zs:List Int}(hl:l≤c)(hm:c≤maxLen)(hz:zs.length=c)(hcell:∀i,i<zs.length→w.cell? (x.add i)=some (.int k (zs.getD i 0)))(hwz:∀n∈zs,(Lit.int k n).wf=true):IsRow k w (some x) l c zs:=
 .inr ⟨x,rfl,hl,hm,hz,fun i hi=>⟨hcell i hi,by
  have h:=World.block_lt_of_cell? w _ (hcell i hi);unfold Addr.add at h;split at h<;>exact h⟩,hwz⟩
theorem IsRow.rd {w:World}{a:Option Addr}{len cap:Nat}{zs:List Int}(h:IsRow .u32 w a len cap zs):∃xs:List Nat,xs.length=len∧Rd w a cap xs:=by
 rcases h with ⟨rfl,rfl,rfl,rfl⟩|⟨x,rfl,hl,hm,hz,hcell,hwz⟩
 ·exact⟨[],rfl,Rd.nil⟩
 ·refine⟨(zs.take len).map Int.toNat,by simp;omega,⟨by simp;omega,hm,?_,fun hn=> ?_⟩⟩
  ·intro d hd;rw[List.mem_map]at hd;obtain⟨n,hn,rfl⟩:=hd;have hb:=bounds_u32 (hwz n (List.mem_of_mem_take hn));omega
  ·have hlen:0<len:=by
    rcases Nat.eq_zero_or_pos len with h0|h0
    ·subst h0;simp at hn
    ·exact h0
   obtain⟨b,o,spot⟩:=x;have hc0:=(hcell 0 (by omega)).1;have hspot:spot=none:=by simpa[Addr.add]using World.cell?_spot hc0
   subst hspot;refine⟨b,o,rfl,(hcell 0 (by omega)).2,fun j hj=> ?_⟩;have hj':j<zs.length:=by simp at hj;omega
   have h1:=(hcell j hj').1;have e:(⟨b,o,none⟩:Addr).add j=⟨b,o+j,none⟩:=by unfold Addr.add;split<;>simp_all
   rw[e]at h1;rw[h1];have hb:=bounds_u32 (hwz zs[j] (List.getElem_mem hj'));simp[List.getD,hj'];omega
end Go.Proofs.YtecfcjdgmpopjaaGreat
