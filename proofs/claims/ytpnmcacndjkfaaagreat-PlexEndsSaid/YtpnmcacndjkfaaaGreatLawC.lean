import Derived.Test.YtpnmcacndjkfaaaGreatLawB
namespace Go.Proofs.YtpnmcacndjkfaaaGreat
open Go.RowKit Num
theorem mul_dig {m n k l:Nat}(h1:(dig m).length≤k)(h2:(dig n).length≤l)(_hk:k≤256)(_hl:l≤256)(hs:k+l≤256):mulR (dig m) (dig n)=(dig (m*n),0)∧(dig (m*n)).length≤k+l:=by
 have:=prod_len (le_of_dig_length h1) (le_of_dig_length h2);refine⟨?_,this⟩;rw[mulR_eq (right_dig' (by omega)) (right_dig' (by omega)),val_dig,val_dig,fitR_le (by omega)]
theorem add_dig {m n k:Nat}(h1:(dig m).length≤k)(h2:(dig n).length≤k)(hk:k≤255):addR (dig m) (dig n)=(dig (m+n),0)∧(dig (m+n)).length≤k+1:=by
 have:=sum_len_le h1 h2;refine⟨?_,this⟩;rw[addR_eq (right_dig' (by omega)) (right_dig' (by omega)),val_dig,val_dig,fitR_le (by omega)]
end Go.Proofs.YtpnmcacndjkfaaaGreat
