namespace Go.Proofs.YtecfcjdgmpopjaaGreat.Num
theorem dT {p:Prop}[h:Decidable p](hp:p):decide p=true:=decide_eq_true hp
theorem dF {p:Prop}[h:Decidable p](hp:¬p):decide p=false:=decide_eq_false hp
theorem gE {α:Type}{l:List α}{i:Nat}{a:α}:l.getD i a=l[i]?.getD a:=List.getD_eq_getElem?_getD
theorem gG {α:Type}{l:List α}{i:Nat}(h:i<l.length):l[i]?=some l[i]:=List.getElem?_eq_getElem h
theorem ZL {n:Nat}:n≤n:=n.le_refl
theorem zA {α:Type}{k l:List α}:List.append k l=k++l:=rfl
theorem zB {α:Type}{a:α}{k l:List α}:a::k++l=a::(k++l):=rfl
theorem zC {α:Type}(l:List α):[]++l=l:=rfl
theorem zD {α:Type}{l:List α}{i:Nat}{a:α}:l.toArray.setIfInBounds i a=(l.set i a).toArray:=by simp
theorem zE {α:Type}{x a:α}{xs:List α}:(x::xs).set 0 a=a::xs:=rfl
theorem zF {α:Type}{x a:α}{n:Nat}{xs:List α}:(x::xs).set (n+1) a=x::xs.set n a:=rfl
def val:List Nat→Nat
 |[]=>0
 |d::ds=>d+4294967296*val ds
def digF:Nat→Nat→List Nat
 |0,_=>[]
 |f+1,n=>if n=0 then[] else n%4294967296::digF f (n/4294967296)
def dig (n:Nat):List Nat:=digF n n
def Ok (ds:List Nat):Prop:=∀d∈ds,d<4294967296
theorem Ok.nil:Ok []:=by intro d h;cases h
theorem Ok.cons {d:Nat}{ds:List Nat}(h:d<4294967296)(hs:Ok ds):Ok (d::ds):=by
 intro x hx;rcases List.mem_cons.1 hx with rfl|hx
 ·exact h
 ·exact hs x hx
theorem Ok.head {d:Nat}{ds:List Nat}(h:Ok (d::ds)):d<4294967296:=h d (List.mem_cons_self)
theorem Ok.tail {d:Nat}{ds:List Nat}(h:Ok (d::ds)):Ok ds:=fun x hx=>h x (List.mem_cons_of_mem _ hx)
theorem Ok.append {a b:List Nat}(ha:Ok a)(hb:Ok b):Ok (a++b):=by
 intro x hx;rcases List.mem_append.1 hx with h|h
 ·exact ha x h
 ·exact hb x h
theorem Ok.take {a:List Nat}(h:Ok a)(k:Nat):Ok (a.take k):=fun x hx=>h x (List.mem_of_mem_take hx)
theorem Ok.get {a:List Nat}(h:Ok a){k:Nat}(hk:k<a.length):a[k]<4294967296:=h _ (List.getElem_mem hk)
theorem Ok.getD {a:List Nat}(h:Ok a)(k:Nat):a.getD k 0<4294967296:=by
 by_cases hk:k<a.length
 ·simp[List.getD,hk];exact h.get hk
 ·simp[List.getD,hk]
theorem Ok.replicate (n:Nat):Ok (List.replicate n 0):=by
 intro x hx;rw[List.mem_replicate]at hx;omega
theorem digF_lt (f n:Nat):Ok (digF f n):=by
 induction f generalizing n with
 |zero=>exact Ok.nil
 |succ f ih=>
  unfold digF;split
  ·exact Ok.nil
  ·exact Ok.cons (Nat.mod_lt _ (by decide)) (ih _)
theorem dig_ok (n:Nat):Ok (dig n):=digF_lt n n
theorem val_digF (f n : Nat) (h : n ≤ f) : val (digF f n) = n := by
  induction f generalizing n with
  | zero => have : n = 0 := by omega
            subst this; rfl
  | succ f ih =>
    unfold digF
    split
    · subst_vars; rfl
    · have := ih (n / 4294967296) (by omega)
      simp only [val, this]
      omega
theorem val_dig (n:Nat):val (dig n)=n:=val_digF n n ZL
theorem digF_eq (f g n : Nat) (hf : n ≤ f) (hg : n ≤ g) : digF f n = digF g n := by
  induction f generalizing n g with
  | zero => have : n = 0 := by omega
            subst this
            cases g <;> simp [digF]
  | succ f ih =>
    cases g with
    | zero => have : n = 0 := by omega
              subst this; simp [digF]
    | succ g =>
      unfold digF
      split
      · rfl
      · rw [ih g (n / 4294967296) (by omega) (by omega)]
theorem dig_zero:dig 0=[]:=rfl
theorem dig_pos (n:Nat)(h:0<n):dig n=n%4294967296::dig (n/4294967296):=by
 show digF n n=_;obtain⟨m,rfl⟩:∃m,n=m+1:=⟨n-1,by omega⟩;rw[digF,if_neg (by omega)];rw[digF_eq m ((m+1)/4294967296) _ (by omega) ZL];rfl
theorem dig_cons (d m:Nat)(h:d<4294967296)(h0:0<d+4294967296*m):dig (d+4294967296*m)=d::dig m:=by
 rw[dig_pos _ h0];congr 2<;>omega
def Fine (ds:List Nat):Prop:=ds.getLast?≠some 0
theorem val_pos_of_last {ds:List Nat}(h:Fine ds)(hne:ds≠[]):0<val ds:=by
 induction ds with
 |nil=>exact absurd rfl hne
 |cons d ds ih=>
  simp only[val];cases ds with
  |nil=>simp[Fine]at h;omega
  |cons e es=>
   have:Fine (e::es):=by simpa[Fine]using h
   have:=ih this (by simp);omega
theorem dig_val {ds:List Nat}(ho:Ok ds)(h:Fine ds):dig (val ds)=ds:=by
 induction ds with
 |nil=>rfl
 |cons d ds ih=>
  have hp:=val_pos_of_last h (by simp);simp only[val]at hp⊢;rw[dig_cons _ _ ho.head hp];congr 1;cases ds with
  |nil=>rfl
  |cons e es=>exact ih ho.tail (by simpa[Fine]using h)
theorem fine_dig (n:Nat):Fine (dig n):=by
 induction n using Nat.strongRecOn with
 |_ n ih=>
  by_cases h:n=0
  ·subst h;simp[Fine,dig_zero]
  ·rw[dig_pos n (by omega)];have h2:=ih (n/4294967296) (by omega);unfold Fine at h2⊢;by_cases h3:n/4294967296=0
   ·rw[h3,dig_zero];simp;omega
   ·rw[dig_pos (n/4294967296) (by omega)]at h2⊢;simpa using h2
theorem val_append (a b:List Nat):val (a++b)=val a+4294967296^a.length*val b:=by
 induction a with
 |nil=>simp[val]
 |cons d ds ih=>
  simp only[zB,val,ih,List.length_cons,Nat.pow_succ];rw[Nat.mul_add,←Nat.mul_assoc,Nat.mul_comm 4294967296 (4294967296^_)];omega
theorem val_snoc (a:List Nat)(d:Nat):val (a++[d])=val a+4294967296^a.length*d:=by
 rw[val_append];simp[val]
theorem val_replicate (n:Nat):val (List.replicate n 0)=0:=by
 induction n with
 |zero=>rfl
 |succ n ih=>rw[List.replicate_succ];simp[val,ih]
theorem val_lt {ds:List Nat}(h:Ok ds):val ds<4294967296^ds.length:=by
 induction ds with
 |nil=>simp[val]
 |cons d ds ih=>
  have h1:=h.head;have h2:=ih h.tail;simp only[val,List.length_cons,Nat.pow_succ];have:(val ds+1)*4294967296≤4294967296^ds.length*4294967296:=Nat.mul_le_mul_right _ h2;omega
theorem pow_pos' (n:Nat):0<4294967296^n:=Nat.pow_pos (by decide)
theorem dig_length_le {n k : Nat} (h : n < 4294967296 ^ k) : (dig n).length ≤ k := by
  induction k generalizing n with
  | zero => have : n = 0 := by simpa using h
            subst this; simp [dig_zero]
  | succ k ih =>
    by_cases h0 : n = 0
    · subst h0; simp [dig_zero]
    · rw [dig_pos n (by omega)]
      have : n / 4294967296 < 4294967296 ^ k := by
        rw [Nat.div_lt_iff_lt_mul (by decide)]
        rwa [Nat.pow_succ] at h
      have := ih this
      simp; omega
theorem le_of_dig_length {n k:Nat}(h:(dig n).length≤k):n<4294967296^k:=by
 have:=val_lt (dig_ok n);rw[val_dig]at this;exact Nat.lt_of_lt_of_le this (Nat.pow_le_pow_right (by decide) h)
theorem dig_inj {m n:Nat}(h:dig m=dig n):m=n:=by rw[←val_dig m,h,val_dig]
theorem dig_eq_nil {n:Nat}:dig n=[]↔n=0:=⟨fun h=>dig_inj (h.trans dig_zero.symm),fun h=>by subst h;rfl⟩
theorem dig_len_pos {n:Nat}:0<(dig n).length↔0<n:=by
 have:= @dig_eq_nil n;rw[←List.length_eq_zero_iff]at this;omega
theorem val_take_drop (a:List Nat)(k:Nat)(h:k≤a.length):val a=val (a.take k)+4294967296^k*val (a.drop k):=by
 have h1:=val_append (a.take k) (a.drop k);rw[List.take_append_drop,List.length_take,Nat.min_eq_left h]at h1;exact h1
theorem val_take_succ (a:List Nat)(k:Nat)(h:k<a.length):val (a.take (k+1))=val (a.take k)+4294967296^k*a[k]:=by
 rw[List.take_succ_eq_append_getElem h,val_snoc,List.length_take,Nat.min_eq_left (by omega)]
theorem val_drop (a:List Nat)(k:Nat)(h:k<a.length):val (a.drop k)=a[k]+4294967296*val (a.drop (k+1)):=by
 rw[List.drop_eq_getElem_cons h];rfl
theorem val_cmp_top {a b:List Nat}(k:Nat)(ha:Ok a)(hl:a.length=b.length)(hk:k<a.length)(hs:a.drop (k+1)=b.drop (k+1))(hlt:a[k]<b[k]'(by omega)):val a<val b:=by
 rw[val_take_drop a (k+1) (by omega),val_take_drop b (k+1) (by omega),hs,val_take_succ a k hk,val_take_succ b k (by omega)];have h1:=val_lt (ha.take k);rw[List.length_take,Nat.min_eq_left (by omega)]at h1;have:4294967296^k*(a[k]+1)≤4294967296^k*b[k]'(by omega):=Nat.mul_le_mul_left _ hlt;rw[Nat.mul_add]at this;omega
theorem val_lt_of_length {a b:List Nat}(ha:Ok a)(hb:Ok b)(hf:Fine b)(hl:a.length<b.length):val a<val b:=by
 have h1:=val_lt ha;have h2:¬val b<4294967296^a.length:=by
  intro h;have:=dig_length_le h;rw[dig_val hb hf]at this;omega
 omega
end Go.Proofs.YtecfcjdgmpopjaaGreat.Num
