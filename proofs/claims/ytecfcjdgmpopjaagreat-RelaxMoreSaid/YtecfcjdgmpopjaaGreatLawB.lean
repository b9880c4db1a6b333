/-
  Joined texts: NatQ, NatR, LawA, LawB.
-/
import Derived.Test.YtecfcjdgmpopjaaGreatNatP
namespace Go.Proofs.YtecfcjdgmpopjaaGreat
open Go.RowKit Num
theorem below_alloc {w0 w:World}{B:Nat}(h:Below B w0 w)(hB:B≤w0.heap.size)(o:Obj):Below B w0 (w.alloc o):=h.alloc (Nat.le_trans hB h.size) o
theorem Rd.len {w:World}{A:Option Addr}{c:Nat}{xs:List Nat}(h:Rd w A c xs):xs.length≤9223372036854775807:=by
 have h1:=h.room;have h2:=h.cap;unfold maxLen at h2;omega
theorem fitR_len (n:Nat):(fitR n).1.length≤256:=by
 unfold fitR;split
 ·assumption
 ·exact Nat.zero_le _
theorem addR_len (xs ys:List Nat):(addR xs ys).1.length≤256:=by
 unfold addR;split
 ·exact fitR_len _
 ·exact Nat.zero_le _
theorem mulR_len (xs ys:List Nat):(mulR xs ys).1.length≤256:=by
 unfold mulR;split
 ·exact fitR_len _
 ·exact Nat.zero_le _
theorem subR_len {xs ys:List Nat}(ho:Ok xs)(h:xs.length≤256):(subR xs ys).1.length≤256:=by
 unfold subR;split
 ·exact Nat.le_trans (dig_len_mono (Nat.sub_le _ _)) (Nat.le_trans (dig_len_le xs ho) h)
 ·exact Nat.zero_le _
theorem fitR_le {n:Nat}(h:(dig n).length≤256):fitR n=(dig n,0):=by simp[fitR,h]
theorem right_dig' {n:Nat}(h:(dig n).length≤256):rightB (dig n)=true:=by
 unfold rightB;exact dT ⟨h,fine_dig n⟩
end Go.Proofs.YtecfcjdgmpopjaaGreat
