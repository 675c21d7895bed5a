
import Derived.Test.YtllbdfllngpkaaaGreatLibD
set_option linter.all false
namespace Go.Abs
theorem w6 {α:Type}{l:List α}{i:Nat}(h:i<l.length):nth l (i:Int)=some l[i]:=by rw [nth_nat,List.getElem?_eq_getElem h]
theorem nth_int {α:Type}{l:List α}{i:Int}(h:0<=i)(h2:i<l.length):nth l i=some (l[i.toNat]'(by omega)):=by
 unfold nth;rw [if_pos h,List.getElem?_eq_getElem]
theorem itr_run {σ R:Type}{L:(σ->Option R)->σ->Option R}(f:σ->Option R)(P:σ->Prop)(μ:σ->Nat)
 (step:∀ go v,P v->(∀ v',P v'->μ v'<μ v->go v'=f v')->L go v=f v):∀ n v,P v->μ v<n->itr L n v=f v
 |0,v,_,h=>by omega
 |n+1,v,hp,h=>step (itr L n) v hp fun v' hp' hm=>itr_run f P μ step n v' hp' (by omega)
theorem wN {σ R:Type}{L:(σ->Option R)->σ->Option R}(f:σ->Option R)(P:σ->Prop)(μ:σ->Nat)
 (step:∀ go v,P v->(∀ v',P v'->μ v'<μ v->go v'=f v')->L go v=f v) (v:σ) (hp:P v) (h:μ v<18446744073709551616):itr L LF v=f v:=by
 rw [LF_eq];exact itr_run f P μ step _ v hp h
theorem lA {R:Type}{L:(Int->Option R)->Int->Option R}(n:Nat)(f:Nat->Option R)(hn:n<=9223372036854775807)
 (step:∀ go (i:Nat),i<n->go ((i:Int)+1)=f (i+1)->L go (i:Int)=f i) (fin:∀ go,L go (n:Int)=f n):itr L LF 0=f 0:=by
 refine wN (fun i:Int=>f i.toNat) (fun i=>0<=i/\i<=n) (fun i=>n-i.toNat) (fun go v hv hgo=>?_) 0 ⟨by omega,by omega⟩ (by omega);obtain ⟨i,rfl⟩:=Int.eq_ofNat_of_zero_le hv.1;show L go (i:Int)=f i;by_cases h:i<n
 .exact step go i h (hgo ((i:Int)+1) ⟨by omega,by omega⟩ (by omega))
 .have:i=n:=by omega
  subst this;exact fin go
theorem I3 {A R:Type}{L:(Int×A->Option R)->Int×A->Option R}(n:Nat)(I:Nat->A->Prop)(f:Nat->A->Option R)(hn:n<=9223372036854775807)
 (step:∀ go (i:Nat) a,i<n->I i a->(∀ a',I (i+1) a'->go ((i:Int)+1,a')=f (i+1) a')->L go ((i:Int),a)=f i a) (fin:∀ go a,I n a->L go ((n:Int),a)=f n a) {a:A} (h0:I 0 a):itr L LF (0,a)=f 0 a:=by
 refine wN (fun v:Int×A=>f v.1.toNat v.2) (fun v=>(0<=v.1/\v.1<=n)/\I v.1.toNat v.2) (fun v=>n-v.1.toNat) (fun go v hv hgo=>?_) (0,a) ⟨⟨by omega,by omega⟩,h0⟩ (by simp;omega);obtain ⟨v1,v2⟩:=v;obtain ⟨i,rfl⟩:=Int.eq_ofNat_of_zero_le hv.1.1;show L go ((i:Int),v2)=f i v2;have h1:(i:Int)<=n:=hv.1.2;by_cases h:i<n
 .exact step go i v2 h hv.2 fun a' ha=>hgo ((i:Int)+1,a') ⟨⟨by show 0<=(i:Int)+1;omega,by show(i:Int)+1<=n;omega⟩,ha⟩ (by show n-((i:Int)+1).toNat<n-(i:Int).toNat;omega)
 .have:i=n:=by omega
  subst this;exact fin go v2 hv.2
theorem at9 {A R:Type}{L:(A×Int->Option R)->A×Int->Option R}(n:Nat)(I:Nat->A->Prop)(f:Nat->A->Option R)(hn:n<=9223372036854775807)
 (step:∀ go (i:Nat) a,i<n->I i a->(∀ a',I (i+1) a'->go (a',(i:Int)+1)=f (i+1) a')->L go (a,(i:Int))=f i a) (fin:∀ go a,I n a->L go (a,(n:Int))=f n a) {a:A} (h0:I 0 a):itr L LF (a,0)=f 0 a:=by
 refine wN (fun v:A×Int=>f v.2.toNat v.1) (fun v=>(0<=v.2/\v.2<=n)/\I v.2.toNat v.1) (fun v=>n-v.2.toNat) (fun go v hv hgo=>?_) (a,0) ⟨⟨by omega,by omega⟩,h0⟩ (by simp;omega);obtain ⟨v1,v2⟩:=v;obtain ⟨i,rfl⟩:=Int.eq_ofNat_of_zero_le hv.1.1;show L go (v1,(i:Int))=f i v1;have h1:(i:Int)<=n:=hv.1.2;by_cases h:i<n
 .exact step go i v1 h hv.2 fun a' ha=>hgo (a',(i:Int)+1) ⟨⟨by show 0<=(i:Int)+1;omega,by show(i:Int)+1<=n;omega⟩,ha⟩ (by show n-((i:Int)+1).toNat<n-(i:Int).toNat;omega)
 .have:i=n:=by omega
  subst this;exact fin go v1 hv.2
theorem oA {α:Type}{R:Type}{L:(Int->Option R)->Int->Option R}(xs:List α)(p:α->Bool)(y z:Option R)(hn:xs.length<=9223372036854775807)
 (step:∀ go (i:Nat) (h:i<xs.length),L go (i:Int)=if p xs[i]then go ((i:Int)+1)else z) (fin:∀ go,L go (xs.length:Int)=y):itr L LF 0=if xs.all p then y else z:=by
 have:=lA (L:=L) xs.length (fun i=>if(xs.drop i).all p then y else z) hn (fun go i hi hgo=>?_) (fun go=>?_)
 .simpa using this
 .rw [step go i hi,hgo,List.drop_eq_getElem_cons hi,List.all_cons];cases p xs[i]<;>simp
 .rw [fin];simp
end Go.Abs

namespace Go.Abs
def szw (w:Nat)(n:Int):Int:=if n-w<0 then -1 else n-w
theorem uX {v w:Nat}{n:Int}:szw w (szw v n)=szw (v+w) n:=by
 unfold szw;by_cases h:n-v<0
 .rw [if_pos h,if_pos (by omega),if_pos (by omega)]
 .rw [if_neg h];by_cases h2:n-v-w<0
  .rw [if_pos h2,if_pos (by omega)]
  .rw [if_neg h2,if_neg (by omega)];omega
theorem rE {w:Nat}{n:Int}(h:szw w n<0):szw w n= -1:=by unfold szw at h |-;split<;>simp_all
theorem ax9 {w:Nat}{n:Int}(h:¬ szw w n<0):szw w n=n-w/\(w:Int)<=n:=by unfold szw at h |-;split<;>rename_i hh<;>simp_all<;>omega
theorem szw_0 {n:Int}(h:0<=n):szw 0 n=n:=by unfold szw;rw [if_neg (by omega)];omega
theorem szw_if {w:Nat}{n:Int}:(if szw w n<0 then some (-1)else some (szw w n))=some (szw w n):=by
 split
 .rename_i h;rw [rE h]
 .rfl
theorem szw_le {w:Nat}{n:Int}(h:0<=n): -1<=szw w n/\szw w n<=n:=by unfold szw;split<;>omega
def wts {α:Type}(wt:α->Nat)(xs:List α):Nat:=xs.length+(xs.map wt).sum
def wsum {α:Type}(wt:α->Nat)(xs:List α):Nat:=(xs.map wt).sum
theorem xV {α:Type}{wt:α->Nat}:∀{xs:List α} {x:α},x∈xs->wt x<=wsum wt xs
 |y::r,x,h=>by
  unfold wsum;simp only [List.map_cons,List.sum_cons];rcases List.mem_cons.1 h with rfl|h
  .omega
  .have:=xV (wt:=wt) h;unfold wsum at this;omega
theorem sz_loop {α:Type}{L:(Int×Int->Option Int)->Int×Int->Option Int}{E:α->Int->Option Int}(wt:α->Nat)(xs:List α)(B:Int)(hn:xs.length<=1048576)(hE:∀ x∈xs,∀ n,0<=n->n<=B->E x n=some (szw (wt x) n))
 (hL:∀ go (left i:Int),L go (left,i)=if i<(xs.length:Int)then bnd (nth xs i) fun x=>bnd (E x left) fun r=>if r<0 then some (-1)else chk (I64 (i+1)) (go (r,i+1))else some left) (left:Int) (h0:0<=left/\left<=B):
 itr L LF (left,0)=some (szw (wsum wt xs) left):=by
 rw [at9 (L:=L) xs.length (fun i a=>0<=a/\a<=B) (fun i a=>some (szw (wsum wt (xs.drop i)) a)) (by omega) (fun go i a hi ha hgo=>?_) (fun go a ha=>?_) h0]
 .rw [List.drop_zero]
 .rw [hL,if_pos (by omega),w6 hi,g8,hE _ (List.getElem_mem hi) _ ha.1 ha.2,g8,p0 (by omega),List.drop_eq_getElem_cons hi];unfold wsum;rw [List.map_cons,List.sum_cons,<- uX];have hb:=szw_le (w:=wt xs[i]) ha.1;by_cases h:szw (wt xs[i]) a<0
  .rw [if_pos h,rE h];unfold szw;rw [if_pos (by omega)]
  .rw [if_neg h,hgo _ (by omega)];rfl
 .rw [hL,if_neg (by omega),List.drop_length];unfold wsum;rw [List.map_nil,List.sum_nil,szw_0 ha.1]
theorem szS_eq {α:Type}{L:(Int×Int->Option Int)->Int×Int->Option Int}{E:α->Int->Option Int}(wt:α->Nat)(xs:List α)(left:Int)(hE:∀ x∈xs,∀ n,0<=n->n+xs.length<=left->E x n=some (szw (wt x) n))
 (hL:∀ go (left i:Int),L go (left,i)=if i<(xs.length:Int)then bnd (nth xs i) fun x=>bnd (E x left) fun r=>if r<0 then some (-1)else chk (I64 (i+1)) (go (r,i+1))else some left) (h0:0<=left/\left<=1048576) (hlen:xs.length<=9223372036854775807):
 (chk (I64 (left-(xs.length:Int)))<|if(left-(xs.length:Int))<0 then some (-1)else itr L LF ((left-(xs.length:Int)),0))=some (szw (wts wt xs) left):=by
 rw [p0 (by omega)];unfold wts;rw [<- uX];by_cases h:left-(xs.length:Int)<0
 .rw [if_pos h];have:szw xs.length left= -1:=by unfold szw;rw [if_pos h]
  rw [this];unfold szw;rw [if_pos (by omega)]
 .rw [if_neg h,sz_loop wt xs (left-xs.length) (by omega) (fun x hx n a b=>hE x hx n a (by omega)) hL _ (by omega)];have:szw xs.length left=left-xs.length:=by unfold szw;rw [if_neg h]
  rw [this];rfl
theorem set_copy {α:Type}{xs:List α}{z:α}{i:Nat}(h:i<xs.length):(xs.take i++List.replicate (xs.length-i) z).set i xs[i]=xs.take (i+1)++List.replicate (xs.length-(i+1)) z:=by
 rw [List.set_append_right _ _ (by simp;omega)];have e:xs.length-i=(xs.length-(i+1))+1:=by omega
 have e2:i-(xs.take i).length=0:=by simp;omega
 rw [e2,e,List.replicate_succ,List.set_cons_zero,List.take_add_one,List.append_assoc];simp [List.getElem?_eq_getElem h]
theorem toS_loop {α:Type}{L:(Int×List α->Option (List α))->Int×List α->Option (List α)}{T:α->Option α}(z:α)(xs:List α)(hn:xs.length<=1048576)(hT:∀ x∈xs,T x=some x)
 (hL:∀ go (i:Int) out,L go (i,out)=if i<(xs.length:Int)then bnd (nth xs i) fun x=>bnd (T x) fun y=>bnd (nth out i) fun _=>chk (I64 (i+1)) (go (i+1,out.set i.toNat y))else some out):itr L LF (0,List.replicate xs.length z)=some xs:=by
 rw [I3 (L:=L) xs.length (fun i o=>o=xs.take i++List.replicate (xs.length-i) z) (fun _ _=>some xs) (by omega) (fun go i o hi ho hgo=>?_) (fun go o ho=>?_) (by simp)]
 .subst ho;rw [hL,if_pos (by omega),w6 hi,g8,hT _ (List.getElem_mem hi),g8,w6 (by simp;omega),g8,p0 (by omega),Int.toNat_natCast,set_copy hi,hgo _ rfl]
 .subst ho;rw [hL,if_neg (by omega)];simp
theorem toS_eq {α:Type}{L:(Int×List α->Option (List α))->Int×List α->Option (List α)}{T:α->Option α}(z:α)(xs:List α)(b:Nat)(hb:b<=1000)(hn:xs.length<=1048576)(hT:∀ x∈xs,T x=some x)
 (hL:∀ go (i:Int) out,L go (i,out)=if i<(xs.length:Int)then bnd (nth xs i) fun x=>bnd (T x) fun y=>bnd (nth out i) fun _=>chk (I64 (i+1)) (go (i+1,out.set i.toNat y))else some out):
 (chk (0<=(xs.length:Int)/\(b:Nat) * (xs.length:Int)<=281474976710656/\(xs.length:Int)<=281474976710656)<|itr L LF (0,(List.replicate (xs.length:Int).toNat z)))=some xs:=by
 have h1:b * xs.length<=1000 * 1048576:=Nat.mul_le_mul hb hn;have h2:((b:Nat):Int) * (xs.length:Int)=((b * xs.length:Nat):Int):=by simp
 rw [p0 ⟨by omega,by rw [h2];omega,by omega⟩,Int.toNat_natCast];exact toS_loop z xs hn hT hL
theorem toS_eq' {α:Type}{L:(Int×List α->Option (List α))->Int×List α->Option (List α)}(z:α)(xs:List α)(b:Nat)(hb:b<=1000)(hn:xs.length<=1048576)
 (hL:∀ go (i:Int) out,L go (i,out)=if i<(xs.length:Int)then bnd (nth xs i) fun x=>bnd (nth out i) fun _=>chk (I64 (i+1)) (go (i+1,out.set i.toNat x))else some out):
 (chk (0<=(xs.length:Int)/\(b:Nat) * (xs.length:Int)<=281474976710656/\(xs.length:Int)<=281474976710656)<|itr L LF (0,(List.replicate (xs.length:Int).toNat z)))=some xs:=
 toS_eq (T:=some) z xs b hb hn (fun _ _=>rfl) hL
theorem ac1 {α:Type}{L:(Int->Option Bool)->Int->Option Bool}{E:α->α->Option Bool}(xs:List α)(hn:xs.length<=1048576)(hE:∀ x∈xs,E x x=some true)
 (hL:∀ go (i:Int),L go i=if i<(xs.length:Int)then bnd (nth xs i) fun x=>bnd (nth xs i) fun y=>bnd (E x y) fun r=>if r=true then chk (I64 (i+1)) (go (i+1))else some false else some true):
 (if (xs.length:Int)=(xs.length:Int)then itr L LF 0 else some false)=some true:=by
 rw [if_pos rfl,lA (L:=L) xs.length (fun _=>some true) (by omega) (fun go i hi hgo=>?_) (fun go=>?_)]
 .rw [hL,if_pos (by omega),w6 hi,g8,g8,hE _ (List.getElem_mem hi),g8,if_pos rfl,p0 (by omega),hgo]
 .rw [hL,if_neg (by omega)]
theorem eqS_refl' {α:Type} [DecidableEq α] {L:(Int->Option Bool)->Int->Option Bool}(xs:List α)(hn:xs.length<=1048576)
 (hL:∀ go (i:Int),L go i=if i<(xs.length:Int)then bnd (nth xs i) fun x=>bnd (nth xs i) fun y=>if x=y then chk (I64 (i+1)) (go (i+1))else some false else some true):
 (if (xs.length:Int)=(xs.length:Int)then itr L LF 0 else some false)=some true:=by
 rw [if_pos rfl,lA (L:=L) xs.length (fun _=>some true) (by omega) (fun go i hi hgo=>?_) (fun go=>?_)]
 .rw [hL,if_pos (by omega),w6 hi,g8,g8,if_pos rfl,p0 (by omega),hgo]
 .rw [hL,if_neg (by omega)]
end Go.Abs
