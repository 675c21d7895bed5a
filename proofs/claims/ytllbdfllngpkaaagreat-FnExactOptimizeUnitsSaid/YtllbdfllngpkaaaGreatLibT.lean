
import Derived.Test.YtllbdfllngpkaaaGreatLibS
set_option linter.unusedVariables false
set_option linter.unusedSimpArgs false
namespace Go.Abs
open PC
def putAll (m:MI)(l:LI):MI:=l.foldl (fun m n=>mput m n 1) m
theorem mget_put (m:MI)(n v k:Int):mget (mput m n v) k=if k=n then v else mget m k:=by
 unfold mget;induction m with
 |nil=>
  by_cases h:k=n
  ·simp [mput,mlook,h]
  ·simp [mput,mlook,h]
 |cons p r ih=>
  by_cases h:n=p.1
  ·by_cases h2:k=n
   ·simp [mput,mlook,h,h2]
   ·have:¬ k=p.1:=fun e=>h2 (e.trans h.symm);simp [mput,mlook,h,this]
  ·simp only [mput,if_neg h,mlook];by_cases h2:k=p.1
   ·have:¬ k=n:=fun e=>h (e.symm.trans h2);simp [h2,Ne.symm h]
   ·simp only [if_neg h2];exact ih
theorem ah4:∀(l:LI) (m:MI) (k:Int),mget (putAll m l) k=if l.contains k=true then 1 else mget m k
 | [],m,k=>rfl
 |n::l,m,k=>by
  show mget (putAll (mput m n 1) l) k=_;rw [ah4 l,mget_put,List.contains_cons];by_cases h1:l.contains k=true
  ·rw [if_pos h1,if_pos (by rw [h1,Bool.or_true])]
  ·by_cases h2:k=n
   ·simp [h2]
   ·have:¬ (k == n)=true:=by simpa using h2
    rw [if_neg h1,if_neg h2,if_neg (by simp only [Bool.or_eq_true,not_or];exact⟨this,h1⟩)]
theorem putAll_app (m:MI)(a b:LI):putAll m (a++b)=putAll (putAll m a) b:=by unfold putAll;rw [List.foldl_append]
theorem i_setOf_eq (ls:List (LI))(h:ls.length≤1048576)(hl:∀ l∈ls,l.length≤1000000000000):af8 ls=some (putAll [] ls.flatten):=by
 unfold af8;rw [F3 (L:=xZ ls) ls.length (fun i m=>m=putAll [] (ls.take i).flatten) (fun _ _=>some (putAll [] ls.flatten)) (by omega) (fun go i m hi hm hgo=>?_) (fun go m hm=>?_) (by simp [putAll])]
 ·show bD ls go i m=_;unfold bD;subst hm;rw [if_pos (by omega),t0 hi,f9];have hli:=hl _ (List.getElem_mem hi);rw [F3 (L:=yA (i:Int) go ls[i]) ls[i].length (fun j m=>m=putAll [] ((ls.take i).flatten++ls[i].take j)) (fun _ _=>some (putAll [] ls.flatten)) (by omega) (fun go2 j m hj hm hgo2=>?_) (fun go2 m hm=>?_) (by simp)]
  ·show bE (i:Int) go ls[i] go2 j m=_;unfold bE;subst hm;rw [if_pos (by omega),t0 hj,f9,l8 (by omega)];refine hgo2 _ ?_;rw [List.take_add_one,List.getElem?_eq_getElem hj,← List.append_assoc];exact (putAll_app [] _ [ls[i][j]]).symm
  ·show bE (i:Int) go ls[i] go2 _ m=_;unfold bE;subst hm;rw [if_neg (by omega),l8 (by omega)];refine hgo _ ?_;rw [List.take_add_one,List.getElem?_eq_getElem hi,List.take_length,List.flatten_append];simp
 ·show bD ls go _ m=_;unfold bD;subst hm;rw [if_neg (by omega),List.take_length]
def simpleIn (b:LI)(c:PC):Bool:=isAt c||(decide (c.kind=3)||(decide (c.kind=2)&&!b.contains c.number))
theorem ag0 (c:PC)(b:LI)(m:MI)(hm:∀ k,mget m k=if b.contains k=true then 1 else 0):bU c m=some (simpleIn b c):=by
 unfold bU simpleIn;rw [tC,f9,hm];cases isAt c<;>by_cases h3:c.kind=3<;>by_cases h2:c.kind=2<;>cases b.contains c.number<;>simp [h2,h3]
theorem av3 (c:PC)(b:LI)(hb:b.length≤1000000000000):fT c b=some (simpleIn b c):=by
 unfold fT simpleIn;rw [uI,f9,J1 _ _ (by omega),f9];cases isAt c<;>by_cases h3:c.kind=3<;>by_cases h2:c.kind=2<;>cases b.contains c.number<;>simp [h2,h3]
theorem uQ {b:LI}{c:PC}(hv:okAll c=true)(h:simpleIn b c=true):c.kids=[]:=by
 have hs:=cZ hv;unfold shapeOK at hs;have hl:(c.kids.length:Int)=0:=by
  by_cases k1:c.kind=1
  ·rw [if_pos k1]at hs;simp only [Bool.and_eq_true,decide_eq_true_eq]at hs;exact hs.2.2.2.1
  ·by_cases k2:c.kind=2
   ·rw [if_neg k1,if_pos k2]at hs;simp only [Bool.and_eq_true,decide_eq_true_eq]at hs;exact hs.2.2.2
   ·have k3:c.kind=3:=by
     unfold simpleIn isAt at h;simpa [k1,k2]using h
    rw [if_neg k1,if_neg k2,if_pos k3]at hs;simp only [Bool.and_eq_true,decide_eq_true_eq]at hs;exact hs.2.2.2.1
 exact List.length_eq_zero_iff.1 (by omega)
theorem av7 {b:LI}{c:PC}(hv:okAll c=true)(h:simpleIn b c=true):wK c≤64:=by
 have hk:=uQ hv h;have hs:=cZ hv;have hd:=shape_dat hs;unfold shapeOK at hs;rw [fL,hk];have e0:wKs []=0:=rfl;rw [e0];by_cases k1:c.kind=1
 ·rw [if_pos k1]at hs;simp only [Bool.and_eq_true,decide_eq_true_eq]at hs;have hv:=hs.2.2.2.2;unfold PD.valid at hv;simp only [Bool.and_eq_true]at hv;have ho:=hv.2.2;rw [PD.okAll_eq,Bool.and_eq_true]at ho;have ht:=ah5 ho.1;have hi:isAt c=true:=by
   unfold simpleIn at h;simpa [k1]using h
  have hp:=hs.2.2.1;rw [yW,wB hi];have e1:wDs []=0:=rfl;omega
 ·have hd:=hd k1;by_cases k2:c.kind=2
  ·rw [if_neg k1,if_pos k2]at hs;simp only [Bool.and_eq_true,decide_eq_true_eq]at hs;have:=hs.2.2.1;omega
  ·have k3:c.kind=3:=by
    unfold simpleIn isAt at h;simpa [k1,k2]using h
   rw [if_neg k1,if_neg k2,if_pos k3]at hs;simp only [Bool.and_eq_true,decide_eq_true_eq]at hs;have:=hs.2.2.1;omega
def betaB (b:PC)(ps:LI)(ks:List PC):PC:=(ps.zip ks).foldl (fun b p=>subst p.1 p.2 b) b
def betaOK (bx:LI)(ps:LI)(ks:List PC):Bool:=(ps.zip ks).all fun p=>!bx.contains p.1&&simpleIn bx p.2
def betaR (c:PC)(bx:LI):PC×Bool:=match c.kids with
 | []=>failR
 |f::ks=>if f.kind=5∧f.params.length=ks.length then(if betaOK bx f.params ks=true then(match f.kids with | []=>failR|b::_=>(betaB b f.params ks,true))else failR)else failR
theorem zip_take {α β:Type}:∀(a:List α) (b:List β) (i:Nat) (ha:i<a.length) (hb:i<b.length),(a.zip b).take (i+1)=(a.zip b).take i++[(a[i],b[i])]
 |a,b,i,ha,hb=>by
  have h:i<(a.zip b).length:=by simp;omega
  rw [List.take_add_one,List.getElem?_eq_getElem h];simp
theorem zip_drop {α β:Type}(a:List α)(b:List β)(i:Nat)(ha:i<a.length)(hb:i<b.length):(a.zip b).drop i=(a[i],b[i])::(a.zip b).drop (i+1):=by
 have h:i<(a.zip b).length:=by simp;omega
 rw [List.drop_eq_getElem_cons h];simp
theorem iA {α β:Type}:∀(i:Nat) (a:List α) (b:List β),(a.zip b).take i=(a.take i).zip (b.take i)
 |0,_,_=>rfl
 |i+1,[],b=>by simp
 |i+1,a::as,[]=>by simp
 |i+1,a::as,b::bs=>by simp [iA i as bs]
structure Fine (n:Nat) (b:PC):Prop where
 nice:b.nice
 cnt:b.cnt≤3000
 w:wK b≤40000000+n * 192064
theorem beta_fine {b s:PC}{n:Nat}(x:Int)(hb:Fine n b)(hs:s.nice)(hk:s.kids=[])(hw:wK s≤64):Fine (n+1) (subst x s b):=by
 have hc:s.cnt=0:=by rw [cnt_eq,hk];rfl
 have h1:=(subst_nice x s hs).1 b hb.nice;have h2:=(subst_cnt x s hc).1 b;have h3:=(subst_wK x s).1 b;have h4:(1+b.cnt) * wK s≤3001 * 64:=Nat.mul_le_mul (by have:=hb.cnt;omega) hw;have h5:=hb.cnt;have h6:=hb.w;exact ⟨h1,by omega,by omega⟩
structure Arg (x:PC):Prop where
 nice:x.nice
 ok:okAll x=true
theorem xP {bx:LI}:∀(ps:LI) (ks:List PC) (b:PC) (n:Nat),Fine n b→(∀ x∈ks,Arg x)→betaOK bx ps ks=true→Fine (n+ps.length) (betaB b ps ks)
 | [],_,b,n,h,_,_=>h
 |p::ps,[],b,n,h,_,_=>by
  have:betaB b (p::ps) []=b:=rfl;rw [this];exact ⟨h.nice,h.cnt,Nat.le_trans h.w (Nat.add_le_add_left (Nat.mul_le_mul_right _ (Nat.le_add_right _ _)) _)⟩
 |p::ps,k::ks,b,n,h,ha,ho=>by
  have ho':(!bx.contains p&&simpleIn bx k)=true∧betaOK bx ps ks=true:=by simpa [betaOK]using ho
  have ak:=ha k (by simp);have hs:simpleIn bx k=true:=by have:=ho'.1;rw [Bool.and_eq_true]at this;exact this.2
  have:=xP ps ks (subst p k b) (n+1) (beta_fine p h ak.nice (uQ ak.ok hs) (av7 ak.ok hs)) (fun x hx=>ha x (by simp [hx])) ho'.2;rw [show n+1+ps.length=n+(p::ps).length by simp;omega]at this;exact this
theorem shape5 {f:PC}(hv:okAll f=true)(h5:f.kind=5):f.params.length≤8∧∃ b,f.kids=[b]:=by
 have hs:=cZ hv;unfold shapeOK at hs;rw [if_neg (by omega),if_neg (by omega),if_neg (by omega),if_neg (by omega),if_pos h5]at hs;simp only [Bool.and_eq_true,decide_eq_true_eq]at hs;have h1:(f.params.length:Int)≤8:=by first|exact hs.2.2.1|exact hs.2.2.2
 have h2:(f.kids.length:Int)=1:=by first|exact hs.2.2.2|exact hs.2.2.1
 exact⟨by omega,List.length_eq_one_iff.1 (by omega)⟩
theorem args_loop {R:Type}{L:(Int→Option R)→Int→Option R}(c:PC)(f:PC)(ks:List PC)(hk:c.kids=f::ks)(hl:f.params.length=ks.length)(h8:f.params.length≤8)(bx:LI)(B:Int→Option Bool)(S:PC→Option Bool)(fl:R)(E:Option R)
 (hB:∀ n,B n=some (bx.contains n)) (hS:∀ x,S x=some (simpleIn bx x))
 (hL:∀ go (i:Int),L go i=if i<(f.params.length:Int)then bnd (nth f.params i) fun n=>bnd (B n) fun t=>if t=true then some fl else chk (I64 (i+1))<|bnd (nth c.kids (i+1)) fun x=>bnd (S x) fun t=>if t=true then chk (I64 (i+1))<|go (i+1)else some fl else E):
 itr L LF 0=if betaOK bx f.params ks=true then E else some fl:=by
 rw [fG (L:=L) f.params.length (fun i=>if((f.params.zip ks).drop i).all (fun p=>!bx.contains p.1&&simpleIn bx p.2)=true then E else some fl) (by omega) (fun go i hi hgo=>?_) (fun go=>?_)]
 ·rfl
 ·have hi2:i<ks.length:=by omega
  have hn:nth c.kids ((i:Int)+1)=some ks[i]:=by
   rw [hk,show((i:Int)+1)=((i+1:Nat):Int)by omega,t0 (by simp;omega)];simp
  rw [hL,if_pos (by omega),t0 hi,f9,hB,f9,zip_drop _ _ _ hi hi2,List.all_cons];cases h1:bx.contains f.params[i]
  ·rw [if_neg (by simp),l8 (by omega),hn,f9,hS,f9];cases h2:simpleIn bx ks[i]
   ·simp
   ·rw [if_pos rfl,l8 (by omega),hgo];rfl
  ·simp
 ·rw [hL,if_neg (by omega),List.drop_eq_nil_of_le (by simp;omega)];rfl
theorem s_l9Beta_eq (c:PC)(bx:LI)(hc:c.nice)(hw:wK c≤40000000)(hcc:c.cnt≤3000)(hv:okAll c=true)(hb:bx.length≤1000000000000)(h6:c.kind=6):nR c bx=some (betaR c bx):=by
 unfold nR betaR;obtain ⟨f,ks,hk⟩:=yG hv h6;have hn:=((A4 c).1 hc).2.2.1;have n0:nth c.kids 0=some f:=by rw [hk];rfl
 have hlen:c.kids.length=ks.length+1:=by rw [hk];rfl
 rw [if_pos h6,n0,f9];simp only [hk];by_cases h5:f.kind=5
 ·have hf:okAll f=true:=Y7 (ks:=c.kids) (by rw [okAll_eq,Bool.and_eq_true]at hv;exact hv.2) (by rw [hk];simp);obtain ⟨p8,b,hfk⟩:=shape5 hf h5;rw [if_pos h5,f9,l8 (by simp;omega)];by_cases hl:f.params.length=ks.length
  ·rw [if_pos (by simp;omega),f9,if_pos ⟨h5,hl⟩];rw [args_loop (L:=uK c bx f) c f ks hk hl p8 bx (fun n=>I8 bx n) (fun x=>fT x bx) failR (bnd (nth f.kids 0) fun x8=>bnd (B5 RF x8) fun x9=>itr (nS c f) LF (0,x9)) (fun n=>J1 _ _ (by omega)) (fun x=>av3 x bx hb) (fun go i=>rfl)];by_cases ho:betaOK bx f.params ks=true
   ·rw [if_pos ho,if_pos ho,hfk];have hfin:f∈c.kids:=by rw [hk];simp
    have hbm:b∈f.kids:=by rw [hfk];simp
    have nf:=B8 hc hfin;have nb:=B8 nf hbm;have c1:=X5 hfin;have c2:=X5 hbm;have w1:=nV hfin;have w2:=nV hbm;have w3:=fL c;have w4:=fL f;have fb:Fine 0 b:=⟨nb,by omega,by omega⟩
    have ha:∀ x∈ks,Arg x:=fun x hx=>by
     have hm:x∈c.kids:=by rw [hk];simp [hx]
     exact⟨B8 hc hm,Y7 (ks:=c.kids) (by rw [okAll_eq,Bool.and_eq_true]at hv;exact hv.2) hm⟩
    have n00:nth [b] 0=some b:=rfl;rw [n00,f9,Z5 RF b (RF_cntK (by omega)) nb,f9];dsimp only;rw [F3 (L:=nS c f) f.params.length (fun i o=>o=betaB b (f.params.take i) (ks.take i)) (fun _ _=>some (betaB b f.params ks,true)) (by omega) (fun go i o hi hi2 hgo=>?_) (fun go o ho2=>?_) (by simp [betaB])]
    ·show aA c f go i o=_;unfold aA;have hik:i<ks.length:=by omega
     have hnx:nth c.kids ((i:Int)+1)=some ks[i]:=by
      rw [hk,show((i:Int)+1)=((i+1:Nat):Int)by omega,t0 (by simp;omega)];simp
     have hok:betaOK bx (f.params.take i) (ks.take i)=true:=by
      unfold betaOK at ho ⊢;rw [← iA];rw [List.all_eq_true]at ho ⊢;exact fun p hp=>ho p (List.mem_of_mem_take hp)
     have fi:=xP (bx:=bx) (f.params.take i) (ks.take i) b 0 fb (fun x hx=>ha x (List.mem_of_mem_take hx)) hok;have ak:=ha ks[i] (List.getElem_mem hik);have hsk:simpleIn bx ks[i]=true:=by
      unfold betaOK at ho;rw [List.all_eq_true]at ho;have:=ho (f.params[i],ks[i]) (by rw [List.mem_iff_getElem];exact⟨i,by simp;omega,by simp⟩);rw [Bool.and_eq_true]at this;exact this.2
     have hkc:(ks[i]).cnt≤1048576:=by have:=kS.1 ks[i];have:=av7 ak.ok hsk;omega
     subst hi2;rw [if_pos (by omega),t0 hi,f9,l8 (by omega),hnx,f9,lP _ _ ak.nice hkc RF _ (RF_cntK (by have:=fi.cnt;omega)) fi.nice (by have:=fi.cnt;omega),f9,l8 (by omega)];refine hgo _ ?_;unfold betaB;rw [← iA,← iA,zip_take _ _ _ hi hik,List.foldl_append];rfl
    ·show aA c f go _ o=_;unfold aA;subst ho2;rw [if_neg (by omega),List.take_length,show ks.take f.params.length=ks by rw [hl,List.take_length]]
   ·rw [if_neg ho,if_neg ho]
  ·rw [if_neg (by simp;omega),if_neg (fun h=>hl h.2)];rfl
 ·rw [if_neg h5,if_neg (fun h=>h5 h.1)];rfl
def pk (a:Int×Int×Int×Int×LB×LI×List PD×List PC):PC:=match a with
 |(k,n,dk,dn,dt,p,di,ks)=>PC.mk k n p (PD.mk dk dn dt di) ks
def upk (c:PC):Int×Int×Int×Int×LB×LI×List PD×List PC:=(c.kind,c.number,c.datum.kind,c.datum.number,c.datum.text,c.params,c.datum.items,c.kids)
theorem pk_upk (c:PC):pk (upk c)=c:=by obtain⟨k,n,p,d,ks⟩:=c;obtain⟨a,b,t,i⟩:=d;rfl
theorem i_beta_eq (c:PC)(bx:LI)(m:MI)(hm:∀ k,mget m k=if bx.contains k=true then 1 else 0)(hc:c.nice)(hw:wK c≤40000000)(hcc:c.cnt≤3000)(hv:okAll c=true)(f:PC)(ks:List PC)(hk:c.kids=f::ks)(h5:f.kind=5)(hl:f.params.length=ks.length):
 itr (cP c m f) LF 0=some (betaR c bx):=by
 unfold betaR;simp only [hk];have hn:=((A4 c).1 hc).2.2.1;have hkl:ks.length+1≤1048576:=by rw [hk]at hn;simpa using hn
 have hf:okAll f=true:=Y7 (ks:=c.kids) (by rw [okAll_eq,Bool.and_eq_true]at hv;exact hv.2) (by rw [hk];simp);obtain ⟨p8,b,hfk⟩:=shape5 hf h5;rw [if_pos ⟨h5,hl⟩];rw [args_loop (L:=cP c m f) c f ks hk hl p8 bx (fun n=>some (bx.contains n)) (fun x=>bU x m) failR (bnd (nth f.kids 0) fun x7=>bnd (r7 RF x7) fun x8=>itr (cQ c f) LF (0,upk x8)) (fun n=>rfl) (fun x=>ag0 x bx m hm) (fun go i=>by
  show V6 c m f go i=_;unfold V6;by_cases hi:i<(f.params.length:Int)
  ·rw [if_pos hi,if_pos hi];congr 1;funext n;rw [hm,f9];cases bx.contains n<;>rfl
  ·rw [if_neg hi,if_neg hi];rfl)]
 by_cases ho:betaOK bx f.params ks=true
 ·rw [if_pos ho,if_pos ho,hfk];have hfin:f∈c.kids:=by rw [hk];simp
  have hbm:b∈f.kids:=by rw [hfk];simp
  have nf:=B8 hc hfin;have nb:=B8 nf hbm;have c1:=X5 hfin;have c2:=X5 hbm;have w1:=nV hfin;have w2:=nV hbm;have w3:=fL c;have w4:=fL f;have fb:Fine 0 b:=⟨nb,by omega,by omega⟩
  have ha:∀ x∈ks,Arg x:=fun x hx=>by
   have hm:x∈c.kids:=by rw [hk];simp [hx]
   exact⟨B8 hc hm,Y7 (ks:=c.kids) (by rw [okAll_eq,Bool.and_eq_true]at hv;exact hv.2) hm⟩
  have n00:nth [b] 0=some b:=rfl;rw [n00,f9,L4 RF b (RF_cntK (by omega)) nb,f9];dsimp only;rw [F3 (L:=cQ c f) f.params.length (fun i o=>pk o=betaB b (f.params.take i) (ks.take i)) (fun _ _=>some (betaB b f.params ks,true)) (by omega) (fun go i o hi hi2 hgo=>?_) (fun go o ho2=>?_) (by rw [pk_upk];rfl)]
  ·obtain ⟨k,n,dk,dn,dt,p,di,kk⟩:=o;show K1 c f go i k n dk dn dt p di kk=_;unfold K1;have hik:i<ks.length:=by omega
   have hnx:nth c.kids ((i:Int)+1)=some ks[i]:=by
    rw [hk,show((i:Int)+1)=((i+1:Nat):Int)by omega,t0 (by simp;omega)];simp
   have hok:betaOK bx (f.params.take i) (ks.take i)=true:=by
    unfold betaOK at ho ⊢;rw [← iA];rw [List.all_eq_true]at ho ⊢;exact fun p hp=>ho p (List.mem_of_mem_take hp)
   have fi:=xP (bx:=bx) (f.params.take i) (ks.take i) b 0 fb (fun x hx=>ha x (List.mem_of_mem_take hx)) hok;have ak:=ha ks[i] (List.getElem_mem hik);have hsk:simpleIn bx ks[i]=true:=by
    unfold betaOK at ho;rw [List.all_eq_true]at ho;have:=ho (f.params[i],ks[i]) (by rw [List.mem_iff_getElem];exact⟨i,by simp;omega,by simp⟩);rw [Bool.and_eq_true]at this;exact this.2
   have hkc:(ks[i]).cnt≤1048576:=by have:=kS.1 ks[i];have:=av7 ak.ok hsk;omega
   have hi2':PC.mk k n p (PD.mk dk dn dt di) kk=betaB b (f.params.take i) (ks.take i):=hi2;rw [if_pos (by omega),t0 hi,f9,l8 (by omega),hnx,f9,hi2',oS _ _ ak.nice hkc RF _ (RF_cntK (by have:=fi.cnt;omega)) fi.nice,f9,l8 (by omega)];refine hgo (upk _) ?_;rw [pk_upk];unfold betaB;rw [← iA,← iA,zip_take _ _ _ hi hik,List.foldl_append];rfl
  ·obtain ⟨k,n,dk,dn,dt,p,di,kk⟩:=o;show K1 c f go _ k n dk dn dt p di kk=_;unfold K1;have ho2':PC.mk k n p (PD.mk dk dn dt di) kk=betaB b (f.params.take f.params.length) (ks.take f.params.length):=ho2;rw [if_neg (by omega),ho2',List.take_length,show ks.take f.params.length=ks by rw [hl,List.take_length]]
 ·rw [if_neg ho,if_neg ho]
def idle (x:PC):Bool:=decide (x.kind=1)||(decide (x.kind=3)||decide (x.kind=5))
theorem idle1 {x:PC}(h:x.kind=1):idle x=true:=by unfold idle;rw [h];rfl
theorem idle3 {x:PC}(h:x.kind=3):idle x=true:=by unfold idle;rw [h];rfl
theorem idle5 {x:PC}(h:x.kind=5):idle x=true:=by unfold idle;rw [h];rfl
theorem idle0 {x:PC}(h1:¬ x.kind=1)(h3:¬ x.kind=3)(h5:¬ x.kind=5):idle x=false:=by unfold idle;rw [decide_eq_false h1,decide_eq_false h3,decide_eq_false h5];rfl
def keeps (n:Nat)(l:List PC):List PC:=(l.zipIdx.filter fun p=>decide (p.2+1=n)||!idle p.1).map (·.1)
theorem yF (n:Nat)(l:List PC)(i:Nat)(h:i<l.length):keeps n (l.take (i+1))=keeps n (l.take i)++(if (decide (i+1=n)||!idle l[i])=true then [l[i]]else []):=by
 unfold keeps;rw [List.take_add_one,List.getElem?_eq_getElem h,List.zipIdx_append,List.filter_append,List.map_append];congr 1;have e:(l.take i).length=i:=by simp;omega
 simp only [Option.toList_some,List.zipIdx_cons,List.zipIdx_nil,e,Nat.zero_add];by_cases hc:(decide (i+1=n)||!idle l[i])=true
 ·rw [if_pos hc,List.filter_cons_of_pos (by simpa using hc)];rfl
 ·rw [if_neg hc,List.filter_cons_of_neg (by simpa using hc)];rfl
theorem ag9 {n:Nat}{l:List PC}{x:PC}(h:x∈keeps n l):x∈l:=by
 unfold keeps at h;obtain ⟨p,hp,rfl⟩:=List.mem_map.1 h;exact List.fst_mem_of_mem_zipIdx (List.mem_filter.1 hp).1
theorem wC (n:Nat)(l:List PC):(keeps n l).length≤l.length:=by
 unfold keeps;rw [List.length_map];exact Nat.le_trans (List.length_filter_le _ _) (by simp)
def seqR (ks:List PC):PC:=match ks with
 | [x]=>x
 |ks=>PC.mk 8 0 [] (PD.mk 0 0 ([]:LB) []) ks
theorem av5 {ks:List PC}(h:ks.length=1):nth ks 0=some (seqR ks):=by
 obtain⟨x,rfl⟩:=List.length_eq_one_iff.1 h;rfl
theorem xM {ks:List PC}(h:ks.length≠1):seqR ks=PC.mk 8 0 [] (PD.mk 0 0 ([]:LB) []) ks:=by
 match ks,h with
 | [],_=>rfl
 | [x],h=>exact absurd rfl h
 |_::_::_,_=>rfl
def dropR (c:PC):PC×Bool:=if(keeps c.kids.length c.kids).length=c.kids.length then failR else(seqR (keeps c.kids.length c.kids),true)
def flat (ks:List PC):List PC:=ks.flatMap fun x=>if x.kind=8 then x.kids else [x]
theorem flat_take (ks:List PC)(i:Nat)(h:i<ks.length):flat (ks.take (i+1))=flat (ks.take i)++(if (ks[i]).kind=8 then(ks[i]).kids else [ks[i]]):=by
 unfold flat;rw [List.take_add_one,List.getElem?_eq_getElem h,List.flatMap_append];simp
theorem flat_id:∀(ks:List PC),(∀ x∈ks,x.kind≠8)→flat ks=ks
 | [],_=>rfl
 |x::r,h=>by
  have ih:=flat_id r fun y hy=>h y (by simp [hy]);unfold flat at ih ⊢;rw [List.flatMap_cons,ih,if_neg (h x (by simp))];rfl
theorem xC (ks:List PC)(h:ks.length≤1048576)(hk:∀ x∈ks,x.kids.length≤1048576):nK ks=some (seqR (flat ks)):=by
 unfold nK;rw [F3 (L:=uD ks) ks.length (fun i o=>o=flat (ks.take i)∧o.length≤1048576 * i) (fun _ _=>some (seqR (flat ks))) (by omega) (a:=[]) (fun go i o hi ho hgo=>?_) (fun go o ho=>?_) ⟨rfl,by simp⟩]
 ·show Z6 ks go i o=_;unfold Z6 dS;obtain ⟨h1,h2⟩:=ho;have hki:=hk _ (List.getElem_mem hi);have hft:=flat_take ks i hi;rw [if_pos (by omega),t0 hi,f9];by_cases h8:(ks[i]).kind=8
  ·rw [if_pos h8]at hft;rw [if_pos h8,l8 (by omega),l8 (by omega)];exact hgo _ ⟨by rw [hft,h1],by rw [List.length_append];omega⟩
  ·rw [if_neg h8]at hft;rw [if_neg h8,l8 (by simp;omega),l8 (by omega)];exact hgo _ ⟨by rw [hft,h1],by rw [List.length_append];simp;omega⟩
 ·show Z6 ks go _ o=_;unfold Z6;obtain ⟨h1,h2⟩:=ho;rw [List.take_length]at h1;rw [if_neg (by omega),← h1];by_cases h1:o.length=1
  ·rw [if_pos (by omega),av5 h1,f9]
  ·rw [if_neg (by omega),xM h1]
theorem s_l5Flat_eq (ks:List PC)(h:ks.length≤1048576)(hk:∀ x∈ks,x.kids.length≤1048576)(h8:∀ x∈ks,x.kind≠8):nK ks=some (seqR ks):=by
 rw [xC ks h hk,flat_id ks h8]
theorem s_l9Drop_eq (c:PC)(hc:c.nice)(hcc:c.cnt≤3000)(hv:okAll c=true)(h8:c.kind=8):jI c=some (seqR (keeps c.kids.length c.kids),decide ((keeps c.kids.length c.kids).length<c.kids.length)):=by
 unfold jI;have hn:=((A4 c).1 hc).2.2.1;have hq:∀ x∈c.kids,x.kind≠8:=by
  rw [okAll_eq,Bool.and_eq_true,Bool.and_eq_true]at hv;have:=hv.1.2;unfold seqOK at this;rw [h8]at this;simp only [decide_true,Bool.not_true,Bool.false_or,List.all_eq_true]at this;exact fun x hx=>by simpa using this x hx
 rw [if_pos h8];rw [F3 (L:=uL c) c.kids.length (fun i o=>o=keeps c.kids.length (c.kids.take i)) (fun _ _=>some (seqR (keeps c.kids.length c.kids),decide ((keeps c.kids.length c.kids).length<c.kids.length))) (by omega) (fun go i o hi ho hgo=>?_) (fun go o ho=>?_) (by simp [keeps])]
 ·show aC c go i o=_;unfold aC aB dV;have nk:=B8 hc (List.getElem_mem hi);have ck:=R4 hi;have hol:o.length≤i:=by subst ho;exact Nat.le_trans (wC _ _) (by simp;omega)
  have hI:∀ x:Option (PC×Bool),chk (I64 ((i:Int)+1)) x=x:=fun x=>l8 (by omega);rw [if_pos (by omega),t0 hi,f9,l8 (by omega),Z5 RF _ (RF_cntK (by omega)) nk,f9,l8 (by simp;omega),hI,hI];have hg:=hgo _ (yF c.kids.length c.kids i hi).symm;rw [← ho]at hg;by_cases hl:i+1=c.kids.length
  ·rw [if_pos (by omega),if_pos rfl];rw [decide_eq_true hl,Bool.true_or,if_pos rfl]at hg;exact hg
  ·rw [if_neg (by omega)];rw [decide_eq_false hl,Bool.false_or]at hg;by_cases k1:(c.kids[i]).kind=1
   ·rw [if_pos k1,if_neg (by decide)];rw [idle1 k1,if_neg (by decide),List.append_nil]at hg;exact hg
   ·by_cases k3:(c.kids[i]).kind=3
    ·rw [if_neg k1,if_pos k3,if_neg (by decide)];rw [idle3 k3,if_neg (by decide),List.append_nil]at hg;exact hg
    ·rw [if_neg k1,if_neg k3];by_cases k5:(c.kids[i]).kind=5
     ·rw [decide_eq_true k5,if_neg (by decide)];rw [idle5 k5,if_neg (by decide),List.append_nil]at hg;exact hg
     ·rw [decide_eq_false k5,if_pos (by decide)];rw [idle0 k1 k3 k5,if_pos (by decide)]at hg;exact hg
 ·show aC c go _ o=_;unfold aC;rw [List.take_length]at ho;subst ho;have hkl:=wC c.kids.length c.kids;rw [if_neg (by omega),s_l5Flat_eq _ (by omega) (fun x hx=>((A4 x).1 (B8 hc (ag9 hx))).2.2.1) (fun x hx=>hq x (ag9 hx)),f9];congr 2;rw [decide_eq_decide];omega
theorem i_drop_eq (c:PC)(hc:c.nice)(hcc:c.cnt≤3000):itr (cR c) LF (0,[])=some (dropR c):=by
 have hn:=((A4 c).1 hc).2.2.1;rw [F3 (L:=cR c) c.kids.length (fun i o=>o=keeps c.kids.length (c.kids.take i)) (fun _ _=>some (dropR c)) (by omega) (fun go i o hi ho hgo=>?_) (fun go o ho=>?_) (by simp [keeps])]
 ·show K2 c go i o=_;unfold K2 M8 R2 R1;have nk:=B8 hc (List.getElem_mem hi);have ck:=R4 hi;have hol:o.length≤i:=by subst ho;exact Nat.le_trans (wC _ _) (by simp;omega)
  rw [if_pos (by omega),t0 hi,f9,l8 (by omega),L4 RF _ (RF_cntK (by omega)) nk,f9,l8 (by simp;omega)];have hg:=hgo _ (yF c.kids.length c.kids i hi).symm;rw [← ho]at hg;have hdl:decide (((i:Int)+1)=(c.kids.length:Int))=decide (i+1=c.kids.length):=by rw [decide_eq_decide];omega
  have hI:∀ x:Option (PC×Bool),chk (I64 ((i:Int)+1)) x=x:=fun x=>l8 (by omega);simp only [hdl,hI];by_cases hl:i+1=c.kids.length
  ·rw [decide_eq_true hl,Bool.true_or,if_pos rfl]at hg;simp [hl,hg]
  ·rw [decide_eq_false hl,Bool.false_or]at hg;by_cases k1:(c.kids[i]).kind=1
   ·rw [idle1 k1,if_neg (by decide),List.append_nil]at hg;simp [hl,k1,hg]
   ·by_cases k3:(c.kids[i]).kind=3
    ·rw [idle3 k3,if_neg (by decide),List.append_nil]at hg;simp [hl,k3,hg]
    ·by_cases k5:(c.kids[i]).kind=5
     ·rw [idle5 k5,if_neg (by decide),List.append_nil]at hg;simp [hl,k5,hg]
     ·rw [idle0 k1 k3 k5,if_pos (by decide)]at hg;simp [k1,k3,k5,hg]
 ·show K2 c go _ o=_;unfold K2 dropR;rw [List.take_length]at ho;subst ho;rw [if_neg (by omega)];by_cases h1:(keeps c.kids.length c.kids).length=c.kids.length
  ·rw [if_pos (by omega),if_pos h1];rfl
  ·rw [if_neg (by omega),if_neg h1];by_cases h2:(keeps c.kids.length c.kids).length=1
   ·rw [if_pos (by omega),av5 h2,f9]
   ·rw [if_neg (by omega),xM h2]
def offD (d:PD):Bool:=decide (d.kind=3)&&decide (d.number=0)
def ifR (c:PC):PC×Bool:=match c.kids with
 |a::b::d::_=>if isAt a=true then(if offD a.datum=true then(d,true)else(b,true))else failR
 |_=>failR
theorem shape7 {c:PC}(hv:okAll c=true)(h7:c.kind=7):∃ a b d,c.kids=[a,b,d]:=by
 have hs:=cZ hv;unfold shapeOK at hs;rw [if_neg (by omega),if_neg (by omega),if_neg (by omega),if_neg (by omega),if_neg (by omega),if_neg (by omega),if_pos h7]at hs;simp only [Bool.and_eq_true,decide_eq_true_eq]at hs;have h:(c.kids.length:Int)=3:=by first|exact hs.2.2.2|exact hs.2.2.1
 match hk:c.kids,h with
 | [a,b,d],_=>exact⟨a,b,d,rfl⟩
 | [],h=>simp at h
 | [_],h=>simp at h
 | [_,_],h=>simp at h
 |_::_::_::_::_,h=>simp at h;omega
theorem atomV_off (d:PD):(decide ((atomV d).kind=2)&&decide ((atomV d).number=0))=offD d:=by
 unfold atomV offD;by_cases k1:d.kind=1
 ·rw [if_pos k1,k1];rfl
 ·by_cases k2:d.kind=2
  ·rw [if_neg k1,if_pos k2,k2];rfl
  ·by_cases k3:d.kind=3
   ·rw [if_neg k1,if_neg k2,if_pos k3,k3];rfl
   ·rw [if_neg k1,if_neg k2,if_neg k3,decide_eq_false k3];by_cases k4:d.kind=4
    ·rw [if_pos k4];rfl
    ·rw [if_neg k4];rfl
def nodeR (c:PC)(bx:LI):PC×Bool:=if c.kind=6 then(if (foldR c).2=true then((foldR c).1,true)else betaR c bx)else if c.kind=7 then ifR c else if c.kind=8 then dropR c else failR
theorem fail_2 {r:PC×Bool}(h:r.2=true):r=(r.1,true):=by rw [← h]
theorem ag2 (c:PC)(bx:LI)(m:MI)(hm:∀ k,mget m k=if bx.contains k=true then 1 else 0)(hc:c.nice)(hw:wK c≤40000000)(hcc:c.cnt≤3000)(hv:okAll c=true):bV c m=some (nodeR c bx):=by
 unfold bV nodeR;have hn:=((A4 c).1 hc).2.2.1;by_cases h6:c.kind=6
 ·obtain ⟨f,ks,hk⟩:=yG hv h6;have n0:nth c.kids 0=some f:=by rw [hk];rfl
  have hlen:c.kids.length=ks.length+1:=by rw [hk];rfl
  rw [if_pos h6,if_pos h6,i_folded_eq c hc hv,f9];by_cases hf:(foldR c).2=true
  ·rw [if_pos hf,if_pos hf]
  ·rw [if_neg hf,if_neg hf,n0,f9,l8 (by omega)];by_cases h5:f.kind=5
   ·rw [if_pos h5];by_cases hl:f.params.length=ks.length
    ·rw [if_pos (by omega),i_beta_eq c bx m hm hc hw hcc hv f ks hk h5 hl]
    ·rw [if_neg (by omega)];unfold betaR;simp only [hk];rw [if_neg (fun h=>hl h.2)];rfl
   ·rw [if_neg h5];unfold betaR;simp only [hk];rw [if_neg (fun h=>h5 h.1)];rfl
 ·rw [if_neg h6,if_neg h6];by_cases h7:c.kind=7
  ·rw [if_pos h7,if_pos h7];obtain ⟨a,b,d,hk⟩:=shape7 hv h7;have e0:nth c.kids 0=some a:=by rw [hk];rfl
   have e1:nth c.kids 1=some b:=by rw [hk];rfl
   have e2:nth c.kids 2=some d:=by rw [hk];rfl
   have ma:b∈c.kids:=by rw [hk];simp
   have mb:d∈c.kids:=by rw [hk];simp
   have ca:=X5 ma;have cb:=X5 mb;unfold R0 ifR;rw [e0,e1,e2,f9,tC,f9,f9,f9,f9,L4 RF b (RF_cntK (by omega)) (B8 hc ma),L4 RF d (RF_cntK (by omega)) (B8 hc mb),f9,f9];simp only [hk];unfold offD;cases isAt a
   ·rfl
   ·rw [if_pos rfl,if_pos rfl];by_cases k3:a.datum.kind=3
    ·rw [if_pos k3,decide_eq_true k3,Bool.true_and];cases decide (a.datum.number=0)<;>rfl
    ·rw [if_neg k3,decide_eq_false k3,Bool.false_and];rfl
  ·rw [if_neg h7,if_neg h7];by_cases h8:c.kind=8
   ·rw [if_pos h8,if_pos h8,i_drop_eq c hc hcc]
   ·rw [if_neg h8,if_neg h8];rfl
theorem foldR_not {c:PC}(h:¬ c.kind=6):foldR c=failR:=by unfold foldR;rw [if_neg h]
theorem s_l9Node_eq (c:PC)(bx:LI)(hc:c.nice)(hw:wK c≤40000000)(hcc:c.cnt≤3000)(hv:okAll c=true)(hb:bx.length≤1000000000000):
 ∃ r,xI c bx=some r∧r.2=(nodeR c bx).2∧(r.2=true→r=nodeR c bx)∧(r.2=false→nodeR c bx=failR):=by
 unfold xI nodeR;rw [s_l9Fold_eq c hc hv,f9];by_cases h6:c.kind=6
 ·rw [if_pos h6];by_cases hf:(foldR c).2=true
  ·rw [if_pos hf,if_pos hf];exact ⟨_,rfl,rfl,fun _=>rfl,fun h=>by cases h⟩
  ·rw [if_neg hf,if_neg hf,s_l9Beta_eq c bx hc hw hcc hv hb h6,f9,if_neg (show ¬ c.kind=7 by omega)];unfold aD jI;rw [if_neg (show ¬ false=true by decide),if_neg (show ¬ c.kind=8 by omega)];by_cases hbt:(betaR c bx).2=true
   ·rw [if_pos hbt];exact ⟨_,rfl,hbt.symm,fun _=>(fail_2 hbt).symm,fun h=>by cases h⟩
   ·rw [if_neg hbt];have e:betaR c bx=failR:=by
     unfold betaR at hbt ⊢;split
     ·rfl
     ·rename_i f ks hk;rw [hk]at hbt;dsimp only at hbt;split
      ·rename_i h1;rw [if_pos h1]at hbt;split
       ·rename_i h2;rw [if_pos h2]at hbt;split
        ·rfl
        ·rename_i hfk;rw [hfk]at hbt;exact absurd rfl hbt
       ·rfl
      ·rfl
    rw [e];exact ⟨_,rfl,rfl,fun h=>(by cases h),fun _=>rfl⟩
 ·have hfl:¬ failR.2=true:=by decide
  have hbeta:nR c bx=some failR:=by unfold nR;rw [if_neg h6];rfl
  rw [foldR_not h6,if_neg hfl,hbeta,f9,if_neg hfl,if_neg h6];by_cases h7:c.kind=7
  ·rw [if_pos h7,if_pos h7];obtain ⟨a,b,d,hk⟩:=shape7 hv h7;have e0:nth c.kids 0=some a:=by rw [hk];rfl
   have e1:nth c.kids 1=some b:=by rw [hk];rfl
   have e2:nth c.kids 2=some d:=by rw [hk];rfl
   have ma:b∈c.kids:=by rw [hk];simp
   have mb:d∈c.kids:=by rw [hk];simp
   have ca:=X5 ma;have cb:=X5 mb;unfold aD jI ifR;rw [e0,f9,uI,f9];simp only [hk];by_cases ha:isAt a=true
   ·rw [if_pos ha,if_pos ha];rw [f9,RF_succ,sQ _ _ (wB ha),f9,jE,f9,atomV_off,← RF_succ];rw [← hk,e1,e2,f9,f9,Z5 RF b (RF_cntK (by omega)) (B8 hc ma),Z5 RF d (RF_cntK (by omega)) (B8 hc mb),f9,f9];cases offD a.datum
    ·exact ⟨_,rfl,rfl,fun _=>rfl,fun h=>by cases h⟩
    ·exact ⟨_,rfl,rfl,fun _=>rfl,fun h=>by cases h⟩
   ·rw [if_neg ha,if_neg ha,if_neg (show ¬ c.kind=8 by omega),f9];exact ⟨_,rfl,rfl,fun h=>(by cases h),fun _=>rfl⟩
  ·rw [if_neg h7,if_neg h7];unfold aD;rw [if_neg (show ¬ false=true by decide)];by_cases h8:c.kind=8
   ·rw [if_pos h8,s_l9Drop_eq c hc hcc hv h8,f9];unfold dropR;have hkl:=wC c.kids.length c.kids;by_cases hl:(keeps c.kids.length c.kids).length=c.kids.length
    ·rw [if_pos hl];have hd:decide ((keeps c.kids.length c.kids).length<c.kids.length)=false:=decide_eq_false (by omega);refine ⟨_,rfl,hd,fun h=>?_,fun _=>rfl⟩;dsimp only at h;rw [hd]at h;cases h
    ·rw [if_neg hl];have hd:decide ((keeps c.kids.length c.kids).length<c.kids.length)=true:=decide_eq_true (by omega);refine ⟨_,rfl,hd,fun _=>by rw [hd],fun h=>?_⟩;dsimp only at h;rw [hd]at h;cases h
   ·rw [if_neg h8];unfold jI;rw [if_neg h8,f9];exact ⟨_,rfl,rfl,fun h=>(by cases h),fun _=>rfl⟩
end Go.Abs

namespace Go.Abs
open PC
def shapeN (k n:Int)(p:LI)(d:PD)(m:Int):Bool:=
 (decide (k=1)||PD.eqb d zeroDat)&&((decide (n=0)||((decide (k=2)||decide (k=4))||decide (k=3)))&&
 (if k=1 then decide ((p.length:Int)=0)&&(decide (m=0)&&d.valid)
 else if k=2 then decide ((p.length:Int)=0)&&decide (m=0)
 else if k=3 then decide ((p.length:Int)=0)&&(decide (m=0)&&inside n 0 13)
 else if k=4 then decide ((p.length:Int)=0)&&decide (m=1)
 else if k=5 then decide ((p.length:Int)≤8)&&decide (m=1)
 else if k=6 then decide ((p.length:Int)=0)&&inside m 1 9
 else if k=7 then decide ((p.length:Int)=0)&&decide (m=3)
 else if k=8 then decide ((p.length:Int)=0)&&inside m 2 60
 else if k=9 then inside (p.length:Int) 1 60&&inside m 1 60
 else if k=10 then decide ((p.length:Int)=0)&&decide (m=1)
 else if k=11 then decide ((p.length:Int)=1)&&decide (m=1)
 else false))
theorem shape_len (k n:Int)(p:LI)(d:PD)(a b:List PC)(h:a.length=b.length):shapeOK (.mk k n p d a)=shapeOK (.mk k n p d b):=by
 have e:∀ ks:List PC,shapeOK (.mk k n p d ks)=shapeN k n p d (ks.length:Int):=fun _=>rfl;rw [e,e,h]
theorem simple_not8 {b:LI}{c:PC}(h:simpleIn b c=true):c.kind≠8:=fun h8=>by
 unfold simpleIn isAt at h;rw [h8]at h;simp at h
theorem subst_kind8 {x:Int}{s y:PC}(hs:s.kind≠8)(hy:y.kind≠8):(subst x s y).kind≠8:=by
 rw [nT];split
 ·exact hs
 ·exact hy
theorem subst_ok (x:Int)(s:PC)(hs:okAll s=true)(h8:s.kind≠8):(∀ c:PC,okAll c=true→okAll (subst x s c)=true)∧∀ ds:List PC,okAlls ds=true→okAlls (substs x s ds)=true:=by
 refine ind (fun ds h ho=>?_) (fun d h ho=>?_)
 ·induction ds with
  |nil=>rfl
  |cons y r ih=>
   unfold okAlls at ho;rw [Bool.and_eq_true]at ho;unfold substs okAlls;rw [h y (by simp) ho.1,ih (fun y hy=>h y (by simp [hy])) ho.2];rfl
 ·rw [nT];split
  ·exact hs
  ·rw [okAll_eq]at ho ⊢;simp only [Bool.and_eq_true]at ho ⊢;refine ⟨⟨?_,?_⟩,?_⟩
   ·obtain ⟨k,n,p,e,ks⟩:=d;rw [← ho.1.1];exact shape_len _ _ _ _ _ _ (List.length_map _)
   ·have h2:=ho.1.2;unfold seqOK at h2 ⊢;rw [Bool.or_eq_true]at h2 ⊢;rcases h2 with h2|h2
    ·exact Or.inl h2
    ·refine Or.inr ?_;show (d.kids.map _).all _=true;rw [List.all_eq_true]at h2 ⊢;intro y hy;obtain ⟨z,hz,rfl⟩:=List.mem_map.1 hy;have:=h2 z hz;simp only [Bool.not_eq_true',decide_eq_false_iff_not]at this ⊢;exact subst_kind8 h8 this
   ·have:=h ho.2;rw [dZ]at this;exact this
theorem betaB_ok {bx:LI}:∀(ps:LI) (ks:List PC) (b:PC),okAll b=true→(∀ x∈ks,okAll x=true)→betaOK bx ps ks=true→okAll (betaB b ps ks)=true∧(betaB b ps ks).cnt≤b.cnt
 | [],_,b,h,_,_=>⟨h,Nat.le_refl _⟩
 |p::ps,[],b,h,_,_=>⟨h,Nat.le_refl _⟩
 |p::ps,k::ks,b,h,ha,ho=>by
  have ho':(!bx.contains p&&simpleIn bx k)=true∧betaOK bx ps ks=true:=by simpa [betaOK]using ho
  have hk:=ha k (by simp);have hs:simpleIn bx k=true:=by have:=ho'.1;rw [Bool.and_eq_true]at this;exact this.2
  have hkk:=uQ hk hs;have h1:=(subst_ok p k hk (simple_not8 hs)).1 b h;have h2:=(subst_cnt p k (by rw [cnt_eq,hkk];rfl)).1 b;have:=betaB_ok ps ks (subst p k b) h1 (fun x hx=>ha x (by simp [hx])) ho'.2;exact ⟨this.1,Nat.le_trans this.2 h2⟩
def goodV (v:PVal):Prop:=(v.kind=3→ -999999999≤v.number∧v.number≤999999999)∧(v.kind=2→v.number=0∨v.number=1)
theorem ad2 (b:Bool):goodV (boolV b):=by unfold goodV boolV;cases b<;>simp
theorem as4 (z:Int)(hz:I64 z)(t:LB)(ht:t≠ []):∃ r,(bnd (if I64 z then if -999999999≤z∧z≤999999999 then some (PVal.mk 3 z [],([]:LB))else some (PVal.mk 0 0 [],t)else none) fun x=>some (x.1,x.2))=some r∧(r.2=[]→goodV r.1):=by
 rw [if_pos hz];split
 ·rename_i h;exact ⟨_,rfl,fun _=>⟨fun _=>h,fun h=>by cases h⟩⟩
 ·exact ⟨_,rfl,fun h=>absurd h ht⟩
theorem two_good {p:Int}(h:p=0∨p=1∨p=2∨p=3∨p=4)(a b:PVal)(ha:plainV a)(hb:plainV b):∃ r,w6 p [a,b] []=some r∧(r.2=[]→goodV r.1):=by
 have h1:=ha.1;have h2:=hb.1;unfold nums9 at h1 h2;have n0:nth [a,b] 0=some a:=rfl;have n1:nth [a,b] 1=some b:=rfl;by_cases k1:a.kind=3
 ·by_cases k2:b.kind=3
  ·have h1:=h1 k1;have h2:=h2 k2;have hm:=mul_in h1 h2;rcases h with rfl|rfl|rfl|rfl|rfl;all_goals
    unfold w6 o7;simp only [f9,n0,n1];simp [nth,u9,dU,k1,k2,V2,Z1,inside,chk,ad2, -Prod.exists]
   ·exact as4 _ (pG (by omega)) _ (by decide)
   ·exact as4 _ (pG (by omega)) _ (by decide)
   ·exact as4 _ (pG hm) _ (by decide)
  ·rcases h with rfl|rfl|rfl|rfl|rfl;all_goals
    unfold w6 o7;simp only [f9,n0,n1];simp [nth,u9,k1,k2,chk]
 ·rcases h with rfl|rfl|rfl|rfl|rfl;all_goals
   unfold w6 o7;simp only [f9,n0,n1];simp [nth,u9,k1,chk]
theorem eq_good (a b:PVal):∃ r,w6 11 [a,b] []=some r∧(r.2=[]→goodV r.1):=by
 have n0:nth [a,b] 0=some a:=rfl;have n1:nth [a,b] 1=some b:=rfl;unfold w6 o7;simp only [f9,n0,n1];simp [nth,u9,J6,V2,chk,ad2]
theorem one_good {p:Int}(h:p=6∨p=7∨p=8∨p=9∨p=10∨p=12)(a:PVal)(ha:plainV a):∃ r,w6 p [a] []=some r∧(r.2=[]→goodV r.1):=by
 have n0:nth [a] 0=some a:=rfl;have k:=ha.2;rcases h with rfl|rfl|rfl|rfl|rfl|rfl;all_goals
  unfold w6 o7;simp only [f9,n0];simp [nth,u9,J6,V2,jE,k,chk,ad2]
theorem app_good {p:Int}(h:0≤p∧p≤13)(h5:p≠5)(h13:p≠13)(args:List PVal)(hl:(args.length:Int)=arT p)(ha:∀ a∈args,plainV a):∃ r,w6 p args []=some r∧(r.2=[]→goodV r.1):=by
 unfold arT at hl;by_cases h1:p=6∨p=7∨p=8∨p=9∨p=10∨p=12∨p=13
 ·rw [if_pos h1]at hl
  match args,hl,ha with
  | [a],_,ha=>exact one_good (by omega) a (ha a (by simp))
  | [],hl,_=>simp at hl
  |_::_::_,hl,_=>simp at hl;omega
 ·rw [if_neg h1]at hl
  match args,hl,ha with
  | [a,b],_,ha=>
   by_cases h11:p=11
   ·subst h11;exact eq_good a b
   ·exact two_good (by omega) a b (ha a (by simp)) (ha b (by simp))
  | [],hl,_=>simp at hl
  | [_],hl,_=>simp at hl
  |_::_::_::_,hl,_=>simp at hl;omega
theorem dat_ok' {n k:Int}(h:k=0∧n=0∨k=2∧ -999999999≤n∧n≤999999999∨k=3∧(n=0∨n=1)):okAll (datR n k).1=true:=by
 have hd:PD.nodeOK k n [] 0=true:=by
  unfold PD.nodeOK inside;rcases h with ⟨rfl,rfl⟩|⟨rfl,h1,h2⟩|⟨rfl,h⟩
  ·rfl
  ·simp [h1,h2]
  ·rcases h with rfl|rfl<;>rfl
 have hv:(PD.mk k n ([]:LB) []).valid=true:=by
  unfold PD.valid;rw [PD.okAll_eq];show (decide (((0:Nat):Int)+1≤600)&&(decide ((0:Int)+1≤20)&&(PD.nodeOK k n [] 0&&true)))=true;rw [hd];rfl
 unfold datR;rw [okAll_eq];show ((shapeOK _&&seqOK _)&&true)=true;have h1:seqOK (PC.mk 1 0 [] (PD.mk k n ([]:LB) []) [])=true:=rfl;rw [h1,Bool.and_true,Bool.and_true];unfold shapeOK;show ((true||_)&&((true||_)&&(if (1:Int)=1 then(true&&(true&&(PD.mk k n ([]:LB) []).valid))else _)))=true;rw [if_pos rfl,hv];rfl
theorem foldR_good {c:PC}(hv:okAll c=true)(h:(foldR c).2=true):okAll (foldR c).1=true∧(foldR c).1.cnt+1≤c.cnt:=by
 unfold foldR at h ⊢;by_cases h6:c.kind=6
 ·obtain ⟨f,ks,hk⟩:=yG hv h6;have hc:1≤c.cnt:=by rw [cnt_eq,hk];unfold cnts;omega
  rw [if_pos h6]at h ⊢;rw [hk]at h ⊢;dsimp only at h ⊢;by_cases h3:f.kind=3
  ·obtain ⟨hr,hks⟩:=head_ok hv hk h3;rw [if_pos h3]at h ⊢;split
   ·rename_i ho;rw [if_pos ho]at h;have hla:(avs ks).length=ks.length:=by simp [avs]
    obtain⟨r,e,hg⟩:=app_good hr ho.1.1 ho.1.2 (avs ks) (by rw [hla];exact ho.2.1) (uV hks ho.2.2);have e2:appV f.number (avs ks)=r:=by unfold appV;rw [e];rfl
    rw [e2]at h ⊢;unfold resOf at h ⊢;by_cases ht:r.2=([]:LB)
    ·have hg:=hg ht;rw [if_pos ht]at h ⊢;by_cases k1:r.1.kind=1
     ·rw [if_pos k1];exact⟨dat_ok' (Or.inl ⟨rfl,rfl⟩),hc⟩
     ·rw [if_neg k1]at h ⊢;by_cases k2:r.1.kind=2
      ·rw [if_pos k2];exact⟨dat_ok' (Or.inr (Or.inr ⟨rfl,hg.2 k2⟩)),hc⟩
      ·rw [if_neg k2]at h ⊢;by_cases k3:r.1.kind=3
       ·rw [if_pos k3];exact⟨dat_ok' (Or.inr (Or.inl ⟨rfl,hg.1 k3⟩)),hc⟩
       ·rw [if_neg k3]at h;cases h
    ·rw [if_neg ht]at h;cases h
   ·rename_i ho;rw [if_neg ho]at h;cases h
  ·rw [if_neg h3]at h;cases h
 ·rw [if_neg h6]at h;cases h
theorem keeps_ne {l:List PC}(h:l≠ []):keeps l.length l≠ []:=by
 have hp:0<l.length:=List.length_pos_iff.2 h;have:=yF l.length l (l.length-1) (by omega);rw [show l.length-1+1=l.length by omega,List.take_length,decide_eq_true rfl,Bool.true_or,if_pos rfl]at this;rw [this];simp
theorem ao7 (n:Nat):∀(l:List PC) (k:Nat),(((l.zipIdx k).filter fun p=>decide (p.2+1=n)||!idle p.1).map (·.1)).length≤l.length∧cnts (((l.zipIdx k).filter fun p=>decide (p.2+1=n)||!idle p.1).map (·.1))+(l.length-(((l.zipIdx k).filter fun p=>decide (p.2+1=n)||!idle p.1).map (·.1)).length)≤cnts l
 | [],_=>by simp [cnts]
 |x::l,k=>by
  have ih:=ao7 n l (k+1);rw [List.zipIdx_cons];by_cases hc:(decide (k+1=n)||!idle x)=true
  ·rw [List.filter_cons_of_pos (by simpa using hc),List.map_cons,List.length_cons,List.length_cons];unfold cnts;dsimp only;omega
  ·rw [List.filter_cons_of_neg (by simpa using hc),List.length_cons];have e:cnts (x::l)=1+x.cnt+cnts l:=rfl;rw [e];omega
theorem wJ:∀{ds:List PC},(∀ x∈ds,okAll x=true)→okAlls ds=true
 | [],_=>rfl
 |d::r,h=>by
  unfold okAlls;rw [h d (by simp),wJ fun x hx=>h x (by simp [hx])];rfl
theorem shape8 {c:PC}(hv:okAll c=true)(h8:c.kind=8):(c.params=[]∧c.number=0∧c.datum=zeroDat)∧(2≤c.kids.length∧c.kids.length≤60)∧∀ x∈c.kids,x.kind≠8:=by
 have hs:=cZ hv;have hq:seqOK c=true:=by
  rw [okAll_eq,Bool.and_eq_true,Bool.and_eq_true]at hv;exact hv.1.2
 refine⟨?_,?_,?_⟩
 ·unfold shapeOK named at hs;rw [if_neg (by omega),if_neg (by omega),if_neg (by omega),if_neg (by omega),if_neg (by omega),if_neg (by omega),if_neg (by omega),if_pos h8]at hs;simp only [Bool.and_eq_true,Bool.or_eq_true,decide_eq_true_eq]at hs;obtain ⟨h1,h2,h3⟩:=hs;have e1:PD.eqb c.datum zeroDat=true:=by
   rcases h1 with h1|h1
   ·omega
   ·exact h1
  have e2:c.number=0:=by
   rcases h2 with h2|h2
   ·exact h2
   ·omega
  have e3:(c.params.length:Int)=0:=h3.1;refine ⟨List.length_eq_zero_iff.1 (by omega),e2,?_⟩;generalize c.datum=d at e1;obtain ⟨k,n,t,is⟩:=d;unfold zeroDat PD.eqb at e1;simp only [Bool.and_eq_true,decide_eq_true_eq]at e1;obtain ⟨rfl,rfl,rfl,h4⟩:=e1;cases is with
  |nil=>rfl
  |cons x r=>unfold PD.eqbs at h4;cases h4
 ·unfold shapeOK inside at hs;rw [if_neg (by omega),if_neg (by omega),if_neg (by omega),if_neg (by omega),if_neg (by omega),if_neg (by omega),if_neg (by omega),if_pos h8]at hs;simp only [Bool.and_eq_true,decide_eq_true_eq]at hs;have:=hs.2.2.2;omega
 ·unfold seqOK at hq;rw [h8]at hq;simp only [decide_true,Bool.not_true,Bool.false_or,List.all_eq_true]at hq;exact fun x hx=>by simpa using hq x hx
theorem seq_ok {ks:List PC}(h2:2≤ks.length)(h60:ks.length≤60)(ho:okAlls ks=true)(h8:∀ x∈ks,x.kind≠8):okAll (PC.mk 8 0 [] zeroDat ks)=true:=by
 rw [okAll_eq];show ((shapeOK (PC.mk 8 0 [] zeroDat ks)&&seqOK (PC.mk 8 0 [] zeroDat ks))&&okAlls ks)=true;have h1:seqOK (PC.mk 8 0 [] zeroDat ks)=true:=by
  unfold seqOK;rw [Bool.or_eq_true];refine Or.inr ?_;show ks.all _=true;rw [List.all_eq_true];intro x hx;simpa using h8 x hx
 rw [ho,h1,Bool.and_true,Bool.and_true];unfold shapeOK;show ((false||true)&&((true||_)&&(true&&inside (ks.length:Int) 2 60)))=true;unfold inside;simp;omega
theorem nodeR_good {c:PC}(bx:LI)(hv:okAll c=true)(h:(nodeR c bx).2=true):okAll (nodeR c bx).1=true∧(nodeR c bx).1.cnt+1≤c.cnt:=by
 unfold nodeR at h ⊢;by_cases h6:c.kind=6
 ·rw [if_pos h6]at h ⊢;by_cases hf:(foldR c).2=true
  ·rw [if_pos hf];exact foldR_good hv hf
  ·rw [if_neg hf]at h ⊢;unfold betaR at h ⊢;obtain ⟨f,ks,hk⟩:=yG hv h6;simp only [hk]at h ⊢;by_cases h5:f.kind=5∧f.params.length=ks.length
   ·rw [if_pos h5]at h ⊢;by_cases ho:betaOK bx f.params ks=true
    ·rw [if_pos ho];have hfin:f∈c.kids:=by rw [hk];simp
     have hf:=sL hv hfin;obtain ⟨p8,b,hfk⟩:=shape5 hf h5.1;rw [hfk];have hbm:b∈f.kids:=by rw [hfk];simp
     have c1:=X5 hfin;have c2:=X5 hbm;have:=betaB_ok f.params ks b (sL hf hbm) (fun x hx=>sL hv (by rw [hk];simp [hx])) ho;exact ⟨this.1,by have:=this.2;show(betaB b f.params ks).cnt+1≤_;omega⟩
    ·rw [if_neg ho]at h;cases h
   ·rw [if_neg h5]at h;cases h
 ·rw [if_neg h6]at h ⊢;by_cases h7:c.kind=7
  ·rw [if_pos h7]at h ⊢;obtain ⟨a,b,d,hk⟩:=shape7 hv h7;have ma:b∈c.kids:=by rw [hk];simp
   have mb:d∈c.kids:=by rw [hk];simp
   have c1:=X5 ma;have c2:=X5 mb;unfold ifR at h ⊢;simp only [hk]at h ⊢;by_cases hi:isAt a=true
   ·rw [if_pos hi];by_cases hd:offD a.datum=true
    ·rw [if_pos hd];exact⟨sL hv mb,c2⟩
    ·rw [if_neg hd];exact⟨sL hv ma,c1⟩
   ·rw [if_neg hi]at h;cases h
  ·rw [if_neg h7]at h ⊢;by_cases h8:c.kind=8
   ·rw [if_pos h8]at h ⊢;unfold dropR at h ⊢;by_cases hl:(keeps c.kids.length c.kids).length=c.kids.length
    ·rw [if_pos hl]at h;cases h
    ·rw [if_neg hl];have hs:=shape8 hv h8;have hkc:=ao7 c.kids.length c.kids 0;have hm:∀ x∈keeps c.kids.length c.kids,x∈c.kids:=fun x hx=>ag9 hx;have hne:=keeps_ne (l:=c.kids) (fun e=>by rw [e]at hs;have:=hs.2.1.1;simp at this);have hkc1:(keeps c.kids.length c.kids).length≤c.kids.length:=hkc.1;have hkc2:cnts (keeps c.kids.length c.kids)+(c.kids.length-(keeps c.kids.length c.kids).length)≤cnts c.kids:=hkc.2;have hpos:0<(keeps c.kids.length c.kids).length:=List.length_pos_iff.2 hne;dsimp only;by_cases h1:(keeps c.kids.length c.kids).length=1
     ·have h2:=av5 h1;have h3:seqR (keeps c.kids.length c.kids)∈keeps c.kids.length c.kids:=List.mem_of_getElem? (aY h2).2.2;exact ⟨sL hv (hm _ h3),X5 (hm _ h3)⟩
     ·rw [xM h1];refine ⟨seq_ok (by omega) (by omega) (wJ fun x hx=>sL hv (hm x hx)) fun x hx=>hs.2.2 x (hm x hx),?_⟩;show cnts (keeps c.kids.length c.kids)+1≤c.cnt;rw [cnt_eq];omega
   ·rw [if_neg h8]at h;cases h
mutual
def passR (bx:LI):PC→PC×Int
 |.mk k n p d ks=>
  if k=8∧60<(flat (passRs bx ks).1).length then(.mk k n p d ks,0)
  else if(nodeR (.mk k n p d (if k=8 then flat (passRs bx ks).1 else(passRs bx ks).1)) bx).2=true then((nodeR (.mk k n p d (if k=8 then flat (passRs bx ks).1 else(passRs bx ks).1)) bx).1,(passRs bx ks).2+1)
  else(.mk k n p d (if k=8 then flat (passRs bx ks).1 else(passRs bx ks).1),(passRs bx ks).2)
def passRs (bx:LI):List PC→List PC×Int
 | []=>([],0)
 |c::r=>((passR bx c).1::(passRs bx r).1,(passR bx c).2+(passRs bx r).2)
end
def passO (bx:LI)(c:PC):PC:=.mk c.kind c.number c.params c.datum (if c.kind=8 then flat (passRs bx c.kids).1 else(passRs bx c.kids).1)
theorem at6 (bx:LI)(c:PC):passR bx c=if c.kind=8∧60<(flat (passRs bx c.kids).1).length then(c,0)else if(nodeR (passO bx c) bx).2=true then((nodeR (passO bx c) bx).1,(passRs bx c.kids).2+1)else(passO bx c,(passRs bx c.kids).2):=by cases c;rw [passR];rfl
theorem rW (bx:LI):∀ ds:List PC,(passRs bx ds).1.length=ds.length
 | []=>by rw [passRs]
 |d::r=>by rw [passRs];simp [rW bx r]
theorem aq4:∀(a b:List PC),cnts (a++b)=cnts a+cnts b
 | [],b=>by simp [cnts]
 |x::r,b=>by
  have h:=aq4 r b;have e1:cnts (x::(r++b))=1+x.cnt+cnts (r++b):=rfl;have e2:cnts (x::r)=1+x.cnt+cnts r:=rfl;rw [List.cons_append,e1,e2];omega
theorem ar0:∀{ds:List PC},okAlls ds=true→okAlls (flat ds)=true∧(∀ x∈flat ds,x.kind≠8)∧cnts (flat ds)≤cnts ds∧ds.length≤(flat ds).length
 | [],_=>⟨rfl,fun x hx=>by simp [flat]at hx,Nat.le_refl _,by simp⟩
 |d::r,h=>by
  unfold okAlls at h;rw [Bool.and_eq_true]at h;obtain ⟨i1,i2,i3,i4⟩:=ar0 h.2;have e:flat (d::r)=(if d.kind=8 then d.kids else [d])++flat r:=by unfold flat;rw [List.flatMap_cons]
  rw [e];by_cases h8:d.kind=8
  ·have hs:=shape8 h.1 h8;rw [if_pos h8];refine ⟨wJ fun x hx=>?_,fun x hx=>?_,?_,?_⟩
   ·rcases List.mem_append.1 hx with hx|hx
    ·exact sL h.1 hx
    ·exact Y7 i1 hx
   ·rcases List.mem_append.1 hx with hx|hx
    ·exact hs.2.2 x hx
    ·exact i2 x hx
   ·have e2:cnts (d::r)=1+d.cnt+cnts r:=rfl;rw [aq4,← cnt_eq,e2];omega
   ·rw [List.length_append,List.length_cons];omega
  ·rw [if_neg h8];refine ⟨?_,fun x hx=>?_,?_,?_⟩
   ·show okAlls (d::flat r)=true;unfold okAlls;rw [h.1,i1];rfl
   ·rcases List.mem_cons.1 hx with rfl|hx
    ·exact h8
    ·exact i2 x hx
   ·have e1:cnts (d::flat r)=1+d.cnt+cnts (flat r):=rfl;have e2:cnts (d::r)=1+d.cnt+cnts r:=rfl;show cnts (d::flat r)≤_;omega
   ·show _≤(d::flat r).length;rw [List.length_cons,List.length_cons];omega
theorem at5 {bx:LI}{c:PC}(hv:okAll c=true)(hk:okAlls (passRs bx c.kids).1=true)(h60:¬ (c.kind=8∧60<(flat (passRs bx c.kids).1).length)):okAll (passO bx c)=true∧(passO bx c).cnt≤cnts (passRs bx c.kids).1:=by
 obtain⟨f1,f2,f3,f4⟩:=ar0 hk;have hl:=rW bx c.kids;unfold passO;by_cases h8:c.kind=8
 ·have hs:=shape8 hv h8;rw [if_pos h8,h8,hs.1.1,hs.1.2.1,hs.1.2.2];exact ⟨seq_ok (by omega) (by omega) f1 f2,f3⟩
 ·rw [if_neg h8];refine ⟨?_,Nat.le_refl _⟩;have hs:=cZ hv;rw [okAll_eq];show ((shapeOK _&&seqOK _)&&okAlls (passRs bx c.kids).1)=true;have h1:seqOK (PC.mk c.kind c.number c.params c.datum (passRs bx c.kids).1)=true:=by
   unfold seqOK;rw [Bool.or_eq_true];refine Or.inl ?_;show (!decide (c.kind=8))=true;simp [h8]
  rw [hk,h1,Bool.and_true,Bool.and_true,← hs];obtain ⟨k,n,p,d,ks⟩:=c;exact shape_len _ _ _ _ _ _ hl
theorem L9 (bx:LI):(∀ c:PC,okAll c=true→okAll (passR bx c).1=true∧((passR bx c).1.cnt:Int)+(passR bx c).2≤c.cnt∧0≤(passR bx c).2)∧∀ ds:List PC,okAlls ds=true→okAlls (passRs bx ds).1=true∧(cnts (passRs bx ds).1:Int)+(passRs bx ds).2≤cnts ds∧0≤(passRs bx ds).2:=by
 refine ind (fun ds h ho=>?_) (fun c h hv=>?_)
 ·induction ds with
  |nil=>rw [passRs];exact⟨rfl,Int.le_refl _,Int.le_refl _⟩
  |cons x r ih=>
   unfold okAlls at ho;rw [Bool.and_eq_true]at ho;have h1:=h x (by simp) ho.1;have h2:=ih (fun y hy=>h y (by simp [hy])) ho.2;rw [passRs];refine ⟨?_,?_,by show 0≤(passR bx x).2+(passRs bx r).2;omega⟩
   ·show okAlls ((passR bx x).1::(passRs bx r).1)=true;unfold okAlls;rw [h1.1,h2.1];rfl
   ·show (cnts ((passR bx x).1::(passRs bx r).1):Int)+((passR bx x).2+(passRs bx r).2)≤(cnts (x::r):Int);unfold cnts;omega
 ·have hk:=h (by rw [okAll_eq,Bool.and_eq_true]at hv;exact hv.2);rw [at6];have hc:=cnt_eq c;split
  ·exact ⟨hv,by show(c.cnt:Int)+0≤_;omega,Int.le_refl _⟩
  ·rename_i h60;obtain ⟨o1,o2⟩:=at5 hv hk.1 h60;split
   ·rename_i hn;obtain ⟨n1,n2⟩:=nodeR_good bx o1 hn;exact ⟨n1,by show((nodeR (passO bx c) bx).1.cnt:Int)+((passRs bx c.kids).2+1)≤_;omega,by show 0≤(passRs bx c.kids).2+1;omega⟩
   ·exact ⟨o1,by show((passO bx c).cnt:Int)+(passRs bx c.kids).2≤_;omega,hk.2.2⟩
end Go.Abs

namespace Go.Abs
open PC
def addU (o:LI)(n:Int):LI:=if o.contains n=true then o else o++[n]
def boxOne (c:PC)(o:LI):LI:=if c.kind=4 then addU o c.number else if c.kind=9 then c.params.foldl addU o else o
mutual
def boxd:PC→LI→LI
 |.mk k n p d ks,o=>boxds ks (boxOne (.mk k n p d ks) o)
def boxds:List PC→LI→LI
 | [],o=>o
 |c::r,o=>boxds r (boxd c o)
end
theorem boxd_eq (c:PC)(o:LI):boxd c o=boxds c.kids (boxOne c o):=by cases c;rw [boxd];rfl
theorem addU_len (o:LI)(n:Int):(addU o n).length≤o.length+1:=by unfold addU;split<;>simp
theorem oW:∀(p o:LI),(p.foldl addU o).length≤o.length+p.length
 | [],o=>by simp
 |x::r,o=>by
  have h1:=addU_len o x;have h2:=oW r (addU o x);simp only [List.foldl_cons,List.length_cons];omega
theorem an9 (c:PC)(o:LI):(boxOne c o).length≤o.length+1+c.params.length:=by
 unfold boxOne;have h1:=addU_len o c.number;have h2:=oW c.params o;split
 ·omega
 ·split<;>omega
theorem aq0:(∀ (c:PC) (o:LI),(boxd c o).length≤o.length+1+2 * wK c)∧∀(ds:List PC) (o:LI),(boxds ds o).length≤o.length+2 * wKs ds:=by
 refine ind (fun ds h=>?_) (fun c h=>?_)
 ·induction ds with
  |nil=>intro o;simp [boxds]
  |cons x r ih=>
   intro o;have h1:=h x (by simp) o;have h2:=ih (fun y hy=>h y (by simp [hy])) (boxd x o);unfold boxds wKs;omega
 ·intro o;have h1:=an9 c o;have h2:=h (boxOne c o);rw [boxd_eq,fL];omega
theorem zN:∀(n:Nat) (c:PC) (o:LI),c.cnt<n→c.nice→o.length+1+2 * wK c≤1000000000→o6 n c o=some (boxd c o)
 |0,c,_,h,_,_=>by omega
 |n+1,c,o,h,hc,hl=>by
  show gZ (o6 n) c o=_;have hc':=(A4 c).1 hc;have hw:=fL c;have hk:∀ o2:LI,o2.length+2 * wKs c.kids≤1000000000→itr (jB (o6 n) c) LF (0,o2)=some (boxds c.kids o2):=fun o2 h2=>by
   rw [F3 (L:=jB (o6 n) c) c.kids.length (fun i a=>a.length+2 * wKs (c.kids.drop i)≤1000000000) (fun i a=>some (boxds (c.kids.drop i) a)) (by omega) (fun go i a hi ha hgo=>?_) (fun go a ha=>?_) (by simpa using h2)]
   ·rw [List.drop_zero]
   ·show U9 (o6 n) c go i a=_;unfold U9;rw [aw1 hi]at ha;have hb:=aq0.1 c.kids[i] a;rw [if_pos (by omega),t0 hi,f9,zN n _ a (by have:=R4 hi;omega) (B8 hc (List.getElem_mem hi)) (by omega),f9,l8 (by omega),hgo _ (by omega),List.drop_eq_getElem_cons hi,boxds]
   ·show U9 (o6 n) c go _ a=_;unfold U9;rw [if_neg (by omega),List.drop_length,boxds]
  have hp:∀ o2:LI,o2.length+c.params.length+2 * wKs c.kids≤1000000000→Z3 (o6 n) c o2=some (boxds c.kids (if c.kind=9 then c.params.foldl addU o2 else o2)):=fun o2 h2=>by
   unfold Z3;by_cases h9:c.kind=9
   ·rw [if_pos h9];rw [F3 (L:=eU (o6 n) c) c.params.length (fun i a=>a=(c.params.take i).foldl addU o2) (fun _ _=>some (boxds c.kids (c.params.foldl addU o2))) (by omega) (a:=o2) (fun go i a hi ha hgo=>?_) (fun go a ha=>?_) rfl]
    ·show L6 (o6 n) c go i a=_;unfold L6 S8 bZ;have hal:=oW (c.params.take i) o2;rw [← ha,List.length_take]at hal;have hstep:(c.params.take (i+1)).foldl addU o2=addU a c.params[i]:=by
      rw [List.take_add_one,List.getElem?_eq_getElem hi,List.foldl_append,← ha];rfl
     rw [if_pos (by omega),decide_eq_true h9,if_pos rfl,t0 hi,f9,J1 _ _ (by omega),f9];have hg:=hgo _ hstep.symm;unfold addU at hg;by_cases hs:a.contains c.params[i]=true
     ·rw [if_pos hs]at hg;rw [if_pos hs,l8 (by omega)];exact hg
     ·rw [if_neg hs]at hg;rw [if_neg hs,f9,l8 (by simp;omega),l8 (by omega)];exact hg
    ·show L6 (o6 n) c go _ a=_;unfold L6 S8;have hal:=oW c.params o2;rw [List.take_length]at ha;rw [if_neg (by omega),if_neg (by decide),ha];exact hk _ (by omega)
   ·rw [if_neg h9];have h0:∀ go,eU (o6 n) c go (0,o2)=some (boxds c.kids o2):=fun go=>by
     show L6 (o6 n) c go 0 o2=_;unfold L6 S8;rw [decide_eq_false h9];split<;>exact hk _ (by omega)
    exact fM (L:=eU (o6 n) c) (fun _=>some (boxds c.kids o2)) (fun v=>v=(0,o2)) (fun _=>0) (fun go v hv _=>by rw [hv];exact h0 go) _ rfl (by omega)
  unfold gZ bY;rw [boxd_eq];unfold boxOne;by_cases h4:c.kind=4
  ·rw [if_pos h4,if_pos h4,J1 _ _ (by omega),f9];unfold addU;have h9:¬ c.kind=9:=by omega
   cases o.contains c.number
   ·rw [if_pos (show (!false)=true from rfl),if_neg (show ¬ false=true by decide),l8 (by simp;omega),hp _ (by simp;omega),if_neg h9]
   ·rw [if_neg (show ¬ (!true)=true by decide),if_pos (show true=true from rfl),hp _ (by omega),if_neg h9]
  ·rw [if_neg h4,if_neg h4,if_neg (by decide),hp _ (by omega)]
theorem tS (c:PC)(hc:c.nice)(hcc:c.cnt≤1048576)(hw:wK c≤40000000):V9 c=some (boxd c []):=by
 unfold V9;rw [zN RF c [] (RF_cntK (by omega)) hc (by simp;omega),f9]
theorem add_ok {l:LI}{s:Option (MI)}(h:seenOK s l)(hl:l.length≤1000000000000)(x:Int):∃ s2,G2 l s x=some (addU l x,s2)∧seenOK s2 (addU l x):=J7 h hl x
theorem iS:∀(n:Nat) (c:PC) (o:LI) (s:Option (MI)),c.cnt<n→c.nice→seenOK s o→o.length+1+2 * wK c≤1000000000→∃ r,t7 n c o s=some r∧(r.1=boxd c o∧seenOK r.2 r.1)
 |0,c,_,_,h,_,_,_=>by omega
 |n+1,c,o,s,h,hc,hs,hl=>by
  show ∃ r,gE (t7 n) c o s=some r∧_;have hc':=(A4 c).1 hc;have hw:=fL c;have hk:∀(o2:LI) (s2:Option (MI)),boxds c.kids o2=boxd c o→seenOK s2 o2→o2.length+2 * wKs c.kids≤1000000000→∃ r,S7 (t7 n) c o2 s2=some r∧(r.1=boxd c o∧seenOK r.2 r.1):=fun o2 s2 g1 g2 g3=>by
   unfold S7;refine ag8 (L:=pL (t7 n) c) c.kids.length (fun i v=>boxds (c.kids.drop i) v.1=boxd c o∧seenOK v.2 v.1∧v.1.length+2 * wKs (c.kids.drop i)≤1000000000) _ (by omega) (fun go i v hi hv hgo=>?_) (fun go v hv=>?_) ⟨by simpa using g1,g2,by simpa using g3⟩
   ·obtain ⟨l,s3⟩:=v;obtain ⟨q1,q2,q3⟩:=hv;show ∃ r,U0 (t7 n) c go i l s3=some r∧_;unfold U0;simp only at q1 q2 q3;rw [aw1 hi]at q3;rw [List.drop_eq_getElem_cons hi,boxds]at q1;have hb:=aq0.1 c.kids[i] l;obtain ⟨r,e1,e2,e3⟩:=iS n c.kids[i] l s3 (by have:=R4 hi;omega) (B8 hc (List.getElem_mem hi)) q2 (by omega);rw [if_pos (by omega),t0 hi,f9,e1,f9,l8 (by omega)];refine hgo (r.1,r.2) ⟨by show boxds _ r.1=_;rw [e2];exact q1,e3,by show r.1.length+_≤_;rw [e2];omega⟩
   ·obtain ⟨l,s3⟩:=v;obtain ⟨q1,q2,q3⟩:=hv;show ∃ r,U0 (t7 n) c go _ l s3=some r∧_;unfold U0;rw [if_neg (by omega)];rw [List.drop_length,boxds]at q1;exact ⟨_,rfl,q1,q2⟩
  have hbo:=an9 c o;have he:=boxd_eq c o;unfold boxOne at he hbo;unfold gE;by_cases h4:c.kind=4
  ·rw [if_pos h4]at he hbo ⊢;obtain ⟨s2,e1,e2⟩:=add_ok hs (by omega) c.number;rw [e1,f9];exact hk _ s2 he.symm e2 (by show(addU o c.number).length+_≤_;omega)
  ·rw [if_neg h4]at he hbo ⊢;by_cases h9:c.kind=9
   ·rw [if_pos h9]at he hbo ⊢;refine ag8 (L:=pM (t7 n) c) c.params.length (fun i v=>v.1=(c.params.take i).foldl addU o∧seenOK v.2 v.1) _ (by omega) (fun go i v hi hv hgo=>?_) (fun go v hv=>?_) ⟨rfl,hs⟩
    ·obtain ⟨l,s3⟩:=v;obtain ⟨q1,q2⟩:=hv;show ∃ r,U1 (t7 n) c go i l s3=some r∧_;unfold U1;simp only at q1 q2;have hal:=oW (c.params.take i) o;rw [← q1,List.length_take]at hal;obtain ⟨s2,e1,e2⟩:=add_ok q2 (by omega) c.params[i];rw [if_pos (by omega),t0 hi,f9,e1,f9,l8 (by omega)];refine hgo (addU l c.params[i],s2) ⟨?_,e2⟩;show addU l _=_;rw [List.take_add_one,List.getElem?_eq_getElem hi,List.foldl_append,← q1];rfl
    ·obtain ⟨l,s3⟩:=v;obtain ⟨q1,q2⟩:=hv;show ∃ r,U1 (t7 n) c go _ l s3=some r∧_;unfold U1;simp only at q1 q2;rw [List.take_length]at q1;rw [if_neg (by omega)];exact hk l s3 (by rw [q1];exact he.symm) q2 (by rw [q1];omega)
   ·rw [if_neg h9]at he hbo ⊢;exact hk o s he.symm hs (by omega)
theorem sW (c:PC)(hc:c.nice)(hcc:c.cnt≤1048576)(hw:wK c≤40000000):V4 c=some (boxd c []):=by
 unfold V4;obtain ⟨r,e1,e2,e3⟩:=iS RF c [] none (RF_cntK (by omega)) hc vN (by simp;omega);rw [e1,f9,e2]
theorem ap1 (bx:LI):∀(a b:List PC),(passRs bx (a++b)).1=(passRs bx a).1++(passRs bx b).1∧(passRs bx (a++b)).2=(passRs bx a).2+(passRs bx b).2
 | [],b=>by simp [passRs]
 |x::r,b=>by
  have:=ap1 bx r b;rw [List.cons_append,passRs,passRs];refine ⟨by rw [this.1];rfl,?_⟩;show (passR bx x).2+(passRs bx (r++b)).2=(passR bx x).2+(passRs bx r).2+_;rw [this.2];omega
theorem ai2 (bx:LI)(ds:List PC)(i:Nat)(h:i<ds.length):(passRs bx (ds.take (i+1))).1=(passRs bx (ds.take i)).1++[(passR bx ds[i]).1]∧(passRs bx (ds.take (i+1))).2=(passRs bx (ds.take i)).2+(passR bx ds[i]).2:=by
 rw [List.take_add_one,List.getElem?_eq_getElem h];have:=ap1 bx (ds.take i) [ds[i]];refine ⟨by rw [Option.toList_some,this.1];simp [passRs],by rw [Option.toList_some,this.2];simp [passRs]⟩
theorem flat_app (a b:List PC):flat (a++b)=flat a++flat b:=by unfold flat;rw [List.flatMap_append]
theorem flat_sgl (x:PC):flat [x]=if x.kind=8 then x.kids else [x]:=by unfold flat;simp
theorem mZ:∀{ds:List PC} (i:Nat),okAlls ds=true→okAlls (ds.take i)=true:=fun{ds} i h=>wJ fun x hx=>Y7 h (List.mem_of_mem_take hx)
theorem pB:∀(ds:List PC) (i:Nat),cnts (ds.take i)≤cnts ds
 | [],i=>by simp
 |d::r,0=>by simp [cnts]
 |d::r,i+1=>by
  have:=pB r i;have e1:cnts (d::r.take i)=1+d.cnt+cnts (r.take i):=rfl;have e2:cnts (d::r)=1+d.cnt+cnts r:=rfl;rw [List.take_succ_cons];omega
theorem tM {bx:LI}{ds:List PC}(hv:okAlls ds=true)(hc:cnts ds≤3000):(passRs bx ds).1.length≤3000∧(flat (passRs bx ds).1).length≤3000∧0≤(passRs bx ds).2∧(passRs bx ds).2≤3000:=by
 have h1:=(L9 bx).2 ds hv;have h2:=ar0 h1.1;have h3:=cnts_len (flat (passRs bx ds).1);have h4:=rW bx ds;have h5:=cnts_len ds;omega
theorem i_pass_eq (bx:LI)(m:MI)(hm:∀ k,mget m k=if bx.contains k=true then 1 else 0):∀(n:Nat) (c:PC),c.cnt<n→okAll c=true→c.cnt≤3000→aL n c m=some (passR bx c)
 |0,c,h,_,_=>by omega
 |n+1,c,h,hv,hcc=>by
  show vY (aL n) c m=_;unfold vY;have nc:=eI.1 c hv;have hc':=(A4 c).1 nc;have hk:okAlls c.kids=true:=by rw [okAll_eq,Bool.and_eq_true]at hv;exact hv.2
  have hcn:=cnt_eq c;have e2:r7 RF (PC.mk c.kind c.number c.params c.datum [])=some (PC.mk c.kind c.number c.params c.datum []):=L4 RF _ (by rw [RF_eq];show 0<_;omega) ((A4 _).2 ⟨hc'.1,hc'.2.1,by show 0≤_;omega,trivial⟩);rw [e2,f9];have key:itr (vX (aL n) c m (PC.mk c.kind c.number c.params c.datum [])) LF (0,0,[])=some (passR bx c):=by
   refine fM (L:=vX (aL n) c m (PC.mk c.kind c.number c.params c.datum [])) (fun _=>some (passR bx c)) (fun v=>∃ i:Nat,i≤c.kids.length∧v=((passRs bx (c.kids.take i)).2,(i:Int),if c.kind=8 then flat (passRs bx (c.kids.take i)).1 else(passRs bx (c.kids.take i)).1)) (fun v=>c.kids.length-v.2.1.toNat) (fun go v hv2 hgo=>?_) _ ⟨0,Nat.zero_le _,by simp [passRs,flat]⟩ (by show c.kids.length-(0:Int).toNat<_;have:=LF_eq;omega);obtain ⟨i,hi,rfl⟩:=hv2;show lC (aL n) c m _ go _ (i:Int) _=_;unfold lC;have hb:=tM (bx:=bx) (mZ i hk) (by have:=pB c.kids i;omega);by_cases hlt:i<c.kids.length
   ·have hx:=List.getElem_mem hlt;have hxv:=sL hv hx;have hxc:=X5 hx;have hg:=(L9 bx).1 c.kids[i] hxv;have ht:=ai2 bx c.kids i hlt;have hb2:=tM (bx:=bx) (mZ (i+1) hk) (by have:=pB c.kids (i+1);omega);have hnext:=hgo ((passRs bx (c.kids.take (i+1))).2,((i+1:Nat):Int),if c.kind=8 then flat (passRs bx (c.kids.take (i+1))).1 else(passRs bx (c.kids.take (i+1))).1) ⟨i+1,hlt,rfl⟩ (by show c.kids.length-((i+1:Nat):Int).toNat<c.kids.length-(i:Int).toNat;omega);rw [if_pos (by omega),t0 hlt,f9,i_pass_eq bx m hm n _ (by omega) hxv (by omega),f9,l8 (by omega)];have e1:((i:Int)+1)=((i+1:Nat):Int):=by omega
    unfold lB lA;by_cases h8:c.kind=8
    ·rw [if_pos h8,if_pos h8];rw [if_pos h8,ht.1,ht.2,flat_app,flat_sgl]at hnext;rw [ht.1,flat_app,flat_sgl]at hb2;have hb3:=hb2.2.1;rw [List.length_append]at hb3;by_cases hy:(passR bx c.kids[i]).1.kind=8
     ·rw [decide_eq_true hy,if_pos rfl,l8 (by rw [if_pos hy]at hb3;omega),l8 (by omega),e1];rw [if_pos hy]at hnext;exact hnext
     ·rw [decide_eq_false hy,if_neg (by decide),l8 (by rw [if_neg hy]at hb3;omega),l8 (by omega),e1];rw [if_neg hy]at hnext;exact hnext
    ·rw [if_neg h8,if_neg h8,if_neg (by decide),l8 (by simp;omega),l8 (by omega),e1];rw [if_neg h8,ht.1,ht.2]at hnext;exact hnext
   ·have:i=c.kids.length:=by omega
    subst this;rw [List.take_length]at hb ⊢;rw [if_neg (by omega)];have hJ:∀ b:Bool,(b=true↔c.kind=8∧60<(flat (passRs bx c.kids).1).length)→gK c m (PC.mk c.kind c.number c.params c.datum []) (passRs bx c.kids).2 (if c.kind=8 then flat (passRs bx c.kids).1 else(passRs bx c.kids).1) b=some (passR bx c):=fun b hbt=>by
     unfold gK;rw [at6];by_cases h60:c.kind=8∧60<(flat (passRs bx c.kids).1).length
     ·rw [if_pos (hbt.2 h60),if_pos h60,L4 RF c (RF_cntK (by omega)) nc,f9]
     ·have ho:=at5 hv ((L9 bx).2 c.kids hk).1 h60;have hpg:=(L9 bx).2 c.kids hk;have hoc:(passO bx c).cnt≤3000:=by have:=ho.2;omega
      rw [if_neg (fun hb=>h60 (hbt.1 hb)),if_neg h60];have hs:=ag2 (passO bx c) bx m hm (eI.1 _ ho.1) (ok_w ho.1 hoc) hoc ho.1;show bnd (bV (passO bx c) m) _=_;rw [hs,f9,l8 (by omega)];by_cases hn:(nodeR (passO bx c) bx).2=true
      ·rw [if_pos hn,if_pos hn]
      ·rw [if_neg hn,if_neg hn];rfl
    by_cases h8:c.kind=8
    ·rw [if_pos h8];have:=hJ (decide (((if c.kind=8 then flat (passRs bx c.kids).1 else(passRs bx c.kids).1).length:Int)>60)) (by rw [if_pos h8,decide_eq_true_iff];exact⟨fun h=>⟨h8,by omega⟩,fun h=>by omega⟩);exact this
    ·rw [if_neg h8];exact hJ false ⟨fun h=>(by cases h),fun h=>absurd h.1 h8⟩
  exact key
theorem ak0 (bx:LI)(hb:bx.length≤1000000000000):∀(n:Nat) (c:PC) (k:Int),c.cnt<n→okAll c=true→c.cnt≤3000→0≤k→k+c.cnt≤1000000→G6 n c bx k=some ((passR bx c).1,k+(passR bx c).2)
 |0,c,_,h,_,_,_,_=>by omega
 |n+1,c,k,h,hv,hcc,k0,k1=>by
  show lO (G6 n) c bx k=_;unfold lO;have nc:=eI.1 c hv;have hc':=(A4 c).1 nc;have hk:okAlls c.kids=true:=by rw [okAll_eq,Bool.and_eq_true]at hv;exact hv.2
  have hcn:=cnt_eq c;rw [bM _ (by omega),f9,tX RF _ (RF_cnt (J9 nc)) (J9 nc),f9];refine fM (L:=uN (G6 n) c bx k c.params c.datum) (fun _=>some ((passR bx c).1,k+(passR bx c).2)) (fun v=>∃ i:Nat,i≤c.kids.length∧v=((i:Int),k+(passRs bx (c.kids.take i)).2,(passRs bx (c.kids.take i)).1)) (fun v=>c.kids.length-v.1.toNat) (fun go v hv2 hgo=>?_) _ ⟨0,Nat.zero_le _,by simp [passRs]⟩ (by show c.kids.length-(0:Int).toNat<_;have:=LF_eq;omega);obtain ⟨i,hi,rfl⟩:=hv2;show eY (G6 n) c bx k c.params c.datum go (i:Int) _ _=_;unfold eY;have hct:=pB c.kids i;have hb0:=tM (bx:=bx) (mZ i hk) (by omega);by_cases hlt:i<c.kids.length
  ·have hx:=List.getElem_mem hlt;have hxv:=sL hv hx;have hxc:=X5 hx;have ht:=ai2 bx c.kids i hlt;have hpt:=((L9 bx).2 (c.kids.take i) (mZ i hk)).2;have hct2:cnts (c.kids.take i)+(c.kids[i]).cnt≤cnts c.kids:=by
    have h1:=pB c.kids (i+1);rw [List.take_add_one,List.getElem?_eq_getElem hlt]at h1;rw [aq4]at h1;simp [cnts]at h1;omega
   have hnext:=hgo (((i+1:Nat):Int),k+(passRs bx (c.kids.take (i+1))).2,(passRs bx (c.kids.take (i+1))).1) ⟨i+1,hlt,rfl⟩ (by show c.kids.length-((i+1:Nat):Int).toNat<c.kids.length-(i:Int).toNat;omega);rw [if_pos (by omega),t0 hlt,f9,ak0 bx hb n _ _ (by omega) hxv (by omega) (by omega) (by omega),f9,l8 (by simp;omega),l8 (by omega)];have e1:((i:Int)+1)=((i+1:Nat):Int):=by omega
   rw [e1];rw [ht.1,ht.2,← Int.add_assoc]at hnext;exact hnext
  ·have:i=c.kids.length:=by omega
   subst this;rw [List.take_length]at hb0 ⊢;have hpg:=(L9 bx).2 c.kids hk;rw [if_neg (by omega)];have hJ:∀ b:Bool,(b=true↔c.kind=8∧60<(flat (passRs bx c.kids).1).length)→∀ ks,PC.mk c.kind c.number c.params c.datum ks=passO bx c→bR c bx k (k+(passRs bx c.kids).2) c.kind c.number c.params c.datum.kind c.datum.number c.datum.text c.datum.items ks b=some ((passR bx c).1,k+(passR bx c).2):=fun b hbt ks hks=>by
    unfold bR;rw [at6];by_cases h60:c.kind=8∧60<(flat (passRs bx c.kids).1).length
    ·rw [if_pos (hbt.2 h60),if_pos h60,Z5 RF c (RF_cntK (by omega)) nc,f9];simp
    ·have ho:=at5 hv hpg.1 h60;have hoc:(passO bx c).cnt≤3000:=by have:=ho.2;omega
     rw [if_neg (fun hb=>h60 (hbt.1 hb)),if_neg h60];have ed:PD.mk c.datum.kind c.datum.number c.datum.text c.datum.items=c.datum:=by cases c.datum;rfl
     rw [ed,hks];obtain ⟨r,e,h1,h2,h3⟩:=s_l9Node_eq (passO bx c) bx (eI.1 _ ho.1) (ok_w ho.1 hoc) hoc ho.1 hb;rw [e,f9,l8 (by omega)];by_cases hn:(nodeR (passO bx c) bx).2=true
     ·rw [if_pos hn,if_pos (by rw [h1];exact hn),h2 (by rw [h1];exact hn)];show _=some ((nodeR (passO bx c) bx).1,k+((passRs bx c.kids).2+1));rw [Int.add_assoc]
     ·rw [if_neg hn,if_neg (by rw [h1];exact hn)]
   unfold dW;by_cases h8:c.kind=8
   ·have hs:=shape8 hv h8;have hf:=ar0 hpg.1;have hl:=rW bx c.kids;rw [if_pos h8,xC _ (by omega) (fun x hx=>((A4 x).1 (eI.1 x (Y7 hpg.1 hx))).2.2.1),f9,xM (by omega)];have ho:PC.mk c.kind c.number c.params c.datum (flat (passRs bx c.kids).1)=passO bx c:=by unfold passO;rw [if_pos h8]
    have:=hJ (decide (((flat (passRs bx c.kids).1).length:Int)>60)) (by rw [decide_eq_true_iff];exact⟨fun h=>⟨h8,by omega⟩,fun h=>by omega⟩) _ ho;rw [h8,hs.1.1,hs.1.2.1,hs.1.2.2]at this;exact this
   ·rw [if_neg h8,if_neg h8];exact hJ false ⟨fun h=>(by cases h),fun h=>absurd h.1 h8⟩ _ (by unfold passO;rw [if_neg h8])
end Go.Abs

namespace Go.Abs
open PC
def bxOf (c:PC)(g:LI):LI:=boxd c []++(free c [] []++g)
theorem bx_lens (c:PC)(hv:okAll c=true)(hc:c.cnt≤3000):(boxd c []).length≤90000000∧(free c [] []).length≤3001:=by
 have h1:=aq0.1 c [];have h2:=ok_w hv hc;have h3:=ab4.1 c [] [];simp at h1 h3;omega
theorem i_oneP_eq (c:PC)(g:LI)(hv:okAll c=true)(hc:c.cnt≤3000)(hg:g.length≤10000000):kZ c g=some (passR (bxOf c g) c):=by
 unfold kZ;have nc:=eI.1 c hv;have hw:=ok_w hv hc;have hl:=bx_lens c hv hc;rw [sW c nc (by omega) hw,f9,iQ c nc hw,f9];rw [i_setOf_eq [boxd c [],free c [] [],g] (by simp) (fun l hl2=>by
  simp only [List.mem_cons,List.not_mem_nil,or_false]at hl2;rcases hl2 with rfl|rfl|rfl<;>omega),f9]
 rw [i_pass_eq (bxOf c g) _ (fun k=>by rw [ah4];simp [mget_nil,bxOf]) RF c (RF_cntK (by omega)) hv hc,f9]
theorem s_oneP_eq (c:PC)(g:LI)(hv:okAll c=true)(hc:c.cnt≤3000)(hg:g.length≤10000000){R:Type}(k:PC×Int→Option R):
 (bnd (lM c) fun x3=>chk ((x3.length+g.length) * 8≤140737488355328)<|bnd (G6 RF c (x3++g) 0) k)=k (passR (bxOf c g) c):=by
 have nc:=eI.1 c hv;have hw:=ok_w hv hc;have hl:=bx_lens c hv hc;unfold lM;rw [tS c nc (by omega) hw,f9,iY c nc hw,f9,l8 (by omega),f9,l8 (by rw [List.length_append];omega)];have e:bxOf c g=boxd c []++free c [] []++g:=by unfold bxOf;rw [List.append_assoc]
 rw [← e,ak0 (bxOf c g) (by rw [e,List.length_append,List.length_append];omega) RF c 0 (RF_cntK (by omega)) hv hc (Int.le_refl _) (by omega),f9,Int.zero_add]
def optR (g:LI):Nat→PC→Int→PC×Int
 |0,c,t=>(c,t)
 |k+1,c,t=>if(passR (bxOf c g) c).2=0 then((passR (bxOf c g) c).1,t+(passR (bxOf c g) c).2)else optR g k (passR (bxOf c g) c).1 (t+(passR (bxOf c g) c).2)
theorem ah9 (g:LI):∀(N:Nat) (c:PC) (t:Int) (k:Nat),okAll c=true→c.cnt≤N→c.cnt<k→optR g k c t=optR g (c.cnt+1) c t
 |N,c,t,0,_,_,h=>by omega
 |N,c,t,k+1,hv,hN,hk=>by
  have hp:=(L9 (bxOf c g)).1 c hv;unfold optR;by_cases h0:(passR (bxOf c g) c).2=0
  ·rw [if_pos h0,if_pos h0]
  ·rw [if_neg h0,if_neg h0];cases N with
   |zero=>omega
   |succ N=>rw [ah9 g N _ _ k hp.1 (by omega) (by omega),ah9 g N _ _ c.cnt hp.1 (by omega) (by omega)]
theorem pS (g:LI)(c:PC)(t:Int)(hv:okAll c=true):optR g (c.cnt+1) c t=if(passR (bxOf c g) c).2=0 then((passR (bxOf c g) c).1,t+(passR (bxOf c g) c).2)else optR g ((passR (bxOf c g) c).1.cnt+1) (passR (bxOf c g) c).1 (t+(passR (bxOf c g) c).2):=by
 have hp:=(L9 (bxOf c g)).1 c hv;by_cases h0:(passR (bxOf c g) c).2=0
 ·rw [optR,if_pos h0,if_pos h0]
 ·rw [optR,if_neg h0,if_neg h0];exact ah9 g _ _ _ _ hp.1 (Nat.le_refl _) (by omega)
theorem ai0 (g:LI):∀(N:Nat) (c:PC) (t:Int),okAll c=true→c.cnt≤N→0≤t→okAll (optR g (c.cnt+1) c t).1=true∧(optR g (c.cnt+1) c t).1.cnt≤c.cnt∧0≤(optR g (c.cnt+1) c t).2∧(optR g (c.cnt+1) c t).2≤t+c.cnt
 |N,c,t,hv,hN,h0=>by
  have hp:=(L9 (bxOf c g)).1 c hv;rw [pS g c t hv];by_cases hz:(passR (bxOf c g) c).2=0
  ·rw [if_pos hz];exact ⟨hp.1,by show(passR (bxOf c g) c).1.cnt≤_;omega,by show 0≤t+_;omega,by show t+_≤_;omega⟩
  ·rw [if_neg hz];cases N with
   |zero=>omega
   |succ N=>
    obtain⟨a,b,d,e⟩:=ai0 g N (passR (bxOf c g) c).1 (t+(passR (bxOf c g) c).2) hp.1 (by omega) (by omega);exact ⟨a,by omega,d,by omega⟩
theorem am0 (c:PC)(g:LI)(hv:okAll c=true)(hc:c.cnt≤3000)(hg:g.length≤10000000):gJ c g=some (optR g (c.cnt+1) c 0):=by
 unfold gJ;have hp:=(L9 (bxOf c g)).1 c hv;rw [i_oneP_eq c g hv hc hg,f9,l8 (by omega),pS g c 0 hv];by_cases h0:(passR (bxOf c g) c).2=0
 ·rw [if_pos h0,if_pos h0]
 ·rw [if_neg h0,if_neg h0];generalize hd:(passR (bxOf c g) c).1=d at hp ⊢;generalize hn:(0+(passR (bxOf c g) c).2)=n;have hnn:0≤n∧n+d.cnt≤1000000:=by omega
  have ed:∀ d:PC,PC.mk d.kind d.number d.params (PD.mk d.datum.kind d.datum.number d.datum.text d.datum.items) d.kids=d:=fun d=>by obtain⟨k,n,p,e,ks⟩:=d;cases e;rfl
  refine(fM (L:=jV g) (fun v=>some (optR g ((PC.mk v.2.1 v.2.2.1 v.2.2.2.2.2.2.1 (PD.mk v.2.2.2.1 v.2.2.2.2.1 v.2.2.2.2.2.1 v.2.2.2.2.2.2.2.1) v.2.2.2.2.2.2.2.2).cnt+1) (PC.mk v.2.1 v.2.2.1 v.2.2.2.2.2.2.1 (PD.mk v.2.2.2.1 v.2.2.2.2.1 v.2.2.2.2.2.1 v.2.2.2.2.2.2.2.1) v.2.2.2.2.2.2.2.2) v.1))
   (fun v=>okAll (PC.mk v.2.1 v.2.2.1 v.2.2.2.2.2.2.1 (PD.mk v.2.2.2.1 v.2.2.2.2.1 v.2.2.2.2.2.1 v.2.2.2.2.2.2.2.1) v.2.2.2.2.2.2.2.2)=true∧(PC.mk v.2.1 v.2.2.1 v.2.2.2.2.2.2.1 (PD.mk v.2.2.2.1 v.2.2.2.2.1 v.2.2.2.2.2.1 v.2.2.2.2.2.2.2.1) v.2.2.2.2.2.2.2.2).cnt≤3000∧0≤v.1∧v.1+((PC.mk v.2.1 v.2.2.1 v.2.2.2.2.2.2.1 (PD.mk v.2.2.2.1 v.2.2.2.2.1 v.2.2.2.2.2.1 v.2.2.2.2.2.2.2.1) v.2.2.2.2.2.2.2.2).cnt:Int)≤1000000)
   (fun v=>(PC.mk v.2.1 v.2.2.1 v.2.2.2.2.2.2.1 (PD.mk v.2.2.2.1 v.2.2.2.2.1 v.2.2.2.2.2.1 v.2.2.2.2.2.2.2.1) v.2.2.2.2.2.2.2.2).cnt) (fun go v hv2 hgo=>?_) _ ?_ ?_).trans ?_
  ·obtain ⟨t,k,m,dk,dn,dt,p,di,ks⟩:=v;obtain ⟨q1,q2,q3,q4⟩:=hv2;show Y3 g go t k m dk dn dt p di ks=some (optR g ((PC.mk k m p (PD.mk dk dn dt di) ks).cnt+1) (PC.mk k m p (PD.mk dk dn dt di) ks) t);unfold Y3;simp only at q1 q2 q3 q4 hgo;generalize PC.mk k m p (PD.mk dk dn dt di) ks=x at q1 q2 q3 q4 hgo ⊢;have hx:=(L9 (bxOf x g)).1 x q1;rw [i_oneP_eq x g q1 q2 hg,f9,l8 (by omega),pS g x t q1];by_cases hz:(passR (bxOf x g) x).2=0
   ·rw [if_pos hz,if_pos hz]
   ·rw [if_neg hz,if_neg hz];have:=hgo (t+(passR (bxOf x g) x).2,(passR (bxOf x g) x).1.kind,(passR (bxOf x g) x).1.number,(passR (bxOf x g) x).1.datum.kind,(passR (bxOf x g) x).1.datum.number,(passR (bxOf x g) x).1.datum.text,(passR (bxOf x g) x).1.params,(passR (bxOf x g) x).1.datum.items,(passR (bxOf x g) x).1.kids);simp only [ed]at this;exact this ⟨hx.1,by omega,by omega,by omega⟩ (by omega)
  ·simp only [ed];exact ⟨hp.1,by omega,hnn.1,hnn.2⟩
  ·simp only [ed];have:=LF_eq;omega
  ·simp only [ed]
theorem aj8 (c:PC)(g:LI)(hv:okAll c=true)(hc:c.cnt≤3000)(hg:g.length≤10000000):eX c g=some (optR g (c.cnt+1) c 0):=by
 unfold eX;have hp:=(L9 (bxOf c g)).1 c hv;rw [s_oneP_eq c g hv hc hg,l8 (by omega),pS g c 0 hv];by_cases h0:(passR (bxOf c g) c).2=0
 ·rw [if_pos h0,if_pos h0]
 ·rw [if_neg h0,if_neg h0];refine fM (L:=hY g) (fun v=>some (optR g (v.2.cnt+1) v.2 v.1)) (fun v=>okAll v.2=true∧v.2.cnt≤3000∧0≤v.1∧v.1+(v.2.cnt:Int)≤1000000) (fun v=>v.2.cnt) (fun go v hv2 hgo=>?_) _ ⟨hp.1,by show(passR (bxOf c g) c).1.cnt≤_;omega,by show 0≤0+_;omega,by show 0+(passR (bxOf c g) c).2+((passR (bxOf c g) c).1.cnt:Int)≤_;omega⟩ (by show(passR (bxOf c g) c).1.cnt<_;have:=LF_eq;omega);obtain ⟨t,x⟩:=v;obtain ⟨q1,q2,q3,q4⟩:=hv2;show W0 g go t x=_;unfold W0;simp only at q1 q2 q3 q4;have hx:=(L9 (bxOf x g)).1 x q1;rw [s_oneP_eq x g q1 q2 hg,l8 (by omega),pS g x t q1];by_cases hz:(passR (bxOf x g) x).2=0
  ·rw [if_pos hz,if_pos hz]
  ·rw [if_neg hz,if_neg hz];exact hgo (t+(passR (bxOf x g) x).2,(passR (bxOf x g) x).1) ⟨hx.1,by show(passR (bxOf x g) x).1.cnt≤_;omega,by show 0≤t+(passR (bxOf x g) x).2;omega,by show t+(passR (bxOf x g) x).2+((passR (bxOf x g) x).1.cnt:Int)≤_;omega⟩ (by show(passR (bxOf x g) x).1.cnt<x.cnt;omega)
end Go.Abs

namespace Go.Abs
open PC
def coreG (c:PC)(g:List Int):Bool:=c.tree&&(uniq [] (g++bnds c)&&(free c [] []).all fun n=>g.contains n)
theorem coreG_ok {c:PC}{g:List Int}(h:coreG c g=true):okAll c=true∧c.cnt≤3000:=by
 unfold coreG tree at h;simp only [Bool.and_eq_true,decide_eq_true_eq]at h;exact ⟨h.1.2.2,by omega⟩
theorem all_loop {α:Type}{L:(Int→Option Bool)→Int→Option Bool}(xs:List α)(p:α→Bool)(hn:xs.length≤1000000000000)
 (hL:∀ go (i:Nat) (hi:i<xs.length),L go (i:Int)=if p xs[i]=true then chk (I64 ((i:Int)+1)) (go ((i:Int)+1))else some false) (hE:∀ go,L go (xs.length:Int)=some true):itr L LF 0=some (xs.all p):=by
 have:=yE (L:=L) xs p (some true) (some false) (by omega) (fun go i hi=>by rw [hL go i hi,l8 (by omega)]) hE;rw [this];by_cases h:xs.all p=true
 ·rw [if_pos h,h]
 ·rw [if_neg h,Bool.eq_false_iff.2 h]
def putK (m:List (Int×Int))(l:List Int):List (Int×Int):=l.foldl (fun m n=>mput m n 1) m
theorem mget_putK:∀(l:List Int) (m:List (Int×Int)) (k:Int),mget (putK m l) k=if l.contains k=true then 1 else mget m k
 | [],m,k=>by rw [if_neg (by simp)];rfl
 |x::r,m,k=>by
  have e:putK m (x::r)=putK (mput m x 1) r:=rfl;rw [e,mget_putK r,pR,List.contains_cons];by_cases h:k=x
  ·subst h;simp
  ·rw [if_neg h,show(k == x)=false from beq_eq_false_iff_ne.2 h,Bool.false_or]
theorem putK_take (l:List Int)(i:Nat)(h:i<l.length):putK [] (l.take (i+1))=mput (putK [] (l.take i)) l[i] 1:=by
 unfold putK;rw [← List.take_append_getElem h,List.foldl_append];rfl
theorem known_loop (c:PC)(g:List Int)(hc:c.nice)(hb:wK c≤1048576)(hg:g.length≤100000000):itr (mE c g) LF (0,([]:List (Int×Int)))=itr (gB (putK [] g) (free c [] [])) LF 0:=by
 refine(F3 (L:=mE c g) g.length (fun i a=>a=putK [] (g.take i)) (fun _ _=>itr (gB (putK [] g) (free c [] [])) LF 0) (by omega) (fun go i a hi ha hgo=>?_) (fun go a ha=>?_) (a:=([]:List (Int×Int))) rfl).trans rfl
 ·show X7 c g go (i:Int) a=_;unfold X7;rw [if_pos (by omega),t0 hi,f9,l8 (by omega)];exact hgo _ (by rw [putK_take g i hi,ha])
 ·show X7 c g go (g.length:Int) a=_;unfold X7;rw [if_neg (by omega),iQ c hc (by omega),f9,ha,List.take_length]
theorem i_IsCore_eqG (c:PC)(g:List Int)(hc:c.nice)(hb:wK c≤1048576)(hg:g.length≤100000000):vP c g=some (coreG c g):=by
 unfold vP coreG;have hcw:=kS.1 c;have h1:=ao3 c hb;have h2:=rL.1 c;rw [sK RF c 1 0 (RF_cntK (by omega)) hc (by omega) (by omega) (by omega) (by omega),f9,meas_tree,fX c hc hb,f9,cN _ _ (by omega) (by omega),f9,known_loop c g hc hb hg];have e:itr (gB (putK [] g) (free c [] [])) LF 0=some ((free c [] []).all fun n=>g.contains n):=by
  refine all_loop _ _ (by omega) (fun go i hi=>?_) (fun go=>?_)
  ·show X8 (putK [] g) (free c [] []) go (i:Int)=_;unfold X8;rw [if_pos (by omega),t0 hi,f9,mget_putK,mget_nil];by_cases h:g.contains (free c [] [])[i]=true
   ·rw [if_pos h,if_neg (by omega),if_pos h]
   ·rw [if_neg h,if_pos rfl,if_neg h]
  ·show X8 (putK [] g) (free c [] []) go _=_;unfold X8;rw [if_neg (by omega)]
 rw [e];cases c.tree<;>cases uniq [] (g++bnds c)<;>rfl
theorem s_IsCore_eqG (c:PC)(g:List Int)(hc:c.nice)(hb:wK c≤1048576)(hg:g.length≤100000000):wS c g=some (coreG c g):=by
 unfold wS coreG;have hcw:=kS.1 c;have h1:=ao3 c hb;have h2:=rL.1 c;rw [zQ c hc (by omega),iY c hc (by omega),fK RF c (RF_cntK (by omega)) hc (by omega),zP RF c (RF_cntK (by omega)) hc,jA RF c [] (RF_cntK (by omega)) hc (by simp;omega),← few_tree];have e:itr (tV g (free c [] [])) LF 0=some ((free c [] []).all fun n=>g.contains n):=by
  refine all_loop _ _ (by omega) (fun go i hi=>?_) (fun go=>?_)
  ·show Y8 g (free c [] []) go (i:Int)=_;unfold Y8;rw [if_pos (by omega),t0 hi,f9,J1 _ _ (by omega),f9]
  ·show Y8 g (free c [] []) go _=_;unfold Y8;rw [if_neg (by omega)]
 rw [f9,f9,f9,f9,bM _ (by omega),f9,f9,l8 (by simp;omega),List.nil_append,nN _ (by rw [List.length_append];omega),f9,e];by_cases g1:0≤few c 3000<;>by_cases g2:c.depth≤150<;>cases c.okAll<;>cases uniq [] (g++bnds c)<;>simp [g1,g2,show(150<c.depth)=¬ c.depth≤150 from propext ⟨fun h=>by omega,fun h=>by omega⟩]
def isShort (s:List UInt8):Bool:=isSymbol s&&decide (s.length≤8)
theorem s_l7Name_eq (s:List UInt8)(h:SM s):xE s=some (isShort s):=by
 unfold xE isShort;rw [wT s h,f9];by_cases h8:s.length≤8
 ·rw [if_pos (by omega),decide_eq_true h8];simp
 ·rw [if_neg (by omega),decide_eq_false h8];simp
theorem aa0 (s:List UInt8)(h:SM s):cO s=some (isShort s):=by
 unfold cO isShort;rw [vQ s h,f9];cases isSymbol s
 ·simp
 ·simp only [if_true,Bool.true_and];exact congrArg some (decide_eq_decide.2 (by omega))
def fitsB (g:List Int)(u:PUnit'):Bool:=isShort u.name&&(uniq [] (g++u.globals)&&coreG u.body (g++u.globals))
theorem ar3 (u:PUnit')(g:List Int)(hn:SM u.name)(hc:u.body.nice)(hb:wK u.body≤1048576)(hg:g.length≤10000000)(hu:u.globals.length≤10000000):kV u g=some (fitsB g u):=by
 unfold kV fitsB;rw [aa0 _ hn,f9,cN _ _ (by omega) (by omega),f9];unfold aG;rw [l8 (by omega),f9,l8 (by omega),i_IsCore_eqG _ _ hc hb (by rw [List.length_append];omega)];cases isShort u.name<;>cases uniq [] (g++u.globals)<;>simp [f9]
theorem au2 (u:PUnit')(g:List Int)(hn:SM u.name)(hc:u.body.nice)(hb:wK u.body≤1048576)(hg:g.length≤10000000)(hu:u.globals.length≤10000000):lE u g=some (fitsB g u):=by
 unfold lE fitsB;rw [bM _ (by omega),f9,l8 (by omega),s_l7Name_eq _ hn,f9,nN _ (by rw [List.length_append];omega),f9,s_IsCore_eqG _ _ hc hb (by rw [List.length_append];omega)];cases isShort u.name<;>cases uniq [] (g++u.globals)<;>simp [f9]
def globs (us:List PUnit'):List Int:=us.flatMap (·.globals)
def allOf (us:List PUnit'):List Int:=us.flatMap fun u=>u.globals++bnds u.body
def partN (u:PUnit'):Nat:=if u.body.kind=8 then u.body.kids.length else 1
def sizeN (u:PUnit'):Nat:=u.body.cnt+1
def sumU (f:PUnit'→Nat)(us:List PUnit'):Nat:=(us.map f).sum
def goodU:List (List UInt8)→List Int→List PUnit'→Bool
 |_,_,[]=>true
 |ns,g,u::r=>!ns.contains u.name&&(fitsB g u&&(decide (u.body.depth<150)&&goodU (ns++[u.name]) (g++u.globals) r))
def endU (us:List PUnit'):Bool:=uniq [] (allOf us)&&(decide ((globs us).length≤60)&&(decide (1+sumU sizeN us≤3000)&&decide (sumU partN us≤60)))
def areB (us:List PUnit'):Bool:=decide (us.length≤12)&&(goodU [] [] us&&endU us)
theorem kU:∀{us:List PUnit'} {ns:List (List UInt8)} {g:List Int},goodU ns g us=true→∀ u∈us,okAll u.body=true∧u.body.cnt≤3000
 |u::r,ns,g,h,x,hx=>by
  unfold goodU at h;simp only [Bool.and_eq_true]at h;rcases List.mem_cons.1 hx with rfl|hx
  ·have:=h.2.1;unfold fitsB at this;simp only [Bool.and_eq_true]at this;exact coreG_ok this.2.2
  ·exact kU h.2.2.2 x hx
theorem bT (us:List PUnit')(i:Nat)(h:i<us.length):globs (us.take (i+1))=globs (us.take i)++us[i].globals:=by
 unfold globs;rw [← List.take_append_getElem h,List.flatMap_append];simp
theorem kP (us:List PUnit')(i:Nat)(h:i<us.length):allOf (us.take (i+1))=allOf (us.take i)++us[i].globals++bnds us[i].body:=by
 unfold allOf;rw [← List.take_append_getElem h,List.flatMap_append,List.append_assoc];simp
theorem dA (f:PUnit'→Nat)(us:List PUnit')(i:Nat)(h:i<us.length):sumU f (us.take (i+1))=sumU f (us.take i)+f us[i]:=by
 unfold sumU;rw [← List.take_append_getElem h,List.map_append,List.sum_append];simp
def wU (u:PUnit'):Nat:=u.name.length+u.globals.length+wK u.body
theorem wU_mem {us:List PUnit'}{u:PUnit'}(h:u∈us):wU u+1≤wts wU us:=by
 induction us with
 |nil=>cases h
 |cons x r ih=>
  rw [bB];rcases List.mem_cons.1 h with rfl|h
  ·omega
  ·have:=ih h;omega
theorem ah2 (us:List PUnit'):us.length≤wts wU us:=by
 induction us with
 |nil=>exact Nat.zero_le _
 |cons x r ih=>rw [bB,List.length_cons];omega
theorem wU_takes (us:List PUnit'):∀ i,i≤us.length→wts wU (us.take i)≤wts wU us
 |i,h=>by
  have key:∀(l r:List PUnit'),wts wU l≤wts wU (l++r):=fun l r=>by
   induction l with
   |nil=>exact Nat.zero_le _
   |cons x s ih=>rw [List.cons_append,bB,bB];omega
  have:=key (us.take i) (us.drop i)
  rwa [List.take_append_drop]at this
theorem lens_wU (us:List PUnit'):(globs us).length≤wts wU us∧(allOf us).length≤wts wU us∧sumU sizeN us≤wts wU us∧sumU partN us≤wts wU us:=by
 induction us with
 |nil=>exact⟨Nat.le_refl _,Nat.le_refl _,Nat.le_refl _,Nat.le_refl _⟩
 |cons u r ih=>
  obtain⟨a,b,c,d⟩:=ih;rw [bB];have hb:=rL.1 u.body;have hc:=kS.1 u.body;have hk:=kids_len u.body;have e1:globs (u::r)=u.globals++globs r:=rfl;have e2:allOf (u::r)=(u.globals++bnds u.body)++allOf r:=rfl;have e3:sumU sizeN (u::r)=sizeN u+sumU sizeN r:=by unfold sumU;simp
  have e4:sumU partN (u::r)=partN u+sumU partN r:=by unfold sumU;simp
  have hw:wU u=u.name.length+u.globals.length+wK u.body:=rfl;have hs:sizeN u=u.body.cnt+1:=rfl;have hp:partN u≤1+wK u.body:=by unfold partN;split<;>omega
  rw [e1,e2,e3,e4];simp only [List.length_append];omega
end Go.Abs

namespace Go.Abs
open PC
def PUnit'.ok (u:PUnit'):Prop:=u.name.length≤9223372036854775807∧(u.globals.length≤9223372036854775807∧∀ n∈u.globals,IntKind.i64.min≤n∧n≤IntKind.i64.max)∧u.body.wf
def PUnit'.fine (u:PUnit'):Prop:=u.name.length≤1048576∧u.globals.length≤1048576∧u.body.nice∧u.body.cnt≤1000000000
theorem fine_wU {u:PUnit'}(h:wU u≤1048576):u.fine:=by
 unfold wU at h;have:=kS.1 u.body;exact ⟨by omega,by omega,nice_wK.1 _ (by omega),by omega⟩
theorem szUnit_eq (u:PUnit')(h:u.ok)(n:Int)(h0:0≤n)(h1:n≤1048576):sE u n=some (szw (wU u) n):=by
 have hw:szw (wU u) n=szw (wK u.body) (szw u.globals.length (szw u.name.length n)):=by rw [uR,uR];unfold wU;congr 1;omega
 unfold sE;have:=h.1;rw [l8 (by omega),hw];by_cases e:n-(u.name.length:Int)<0
 ·have e1:szw u.name.length n= -1:=by unfold szw;rw [if_pos e]
  rw [if_pos e,e1,qT (w:=u.globals.length) (by unfold szw;rw [if_pos (by omega)];omega),qT (w:=wK u.body) (by unfold szw;rw [if_pos (by omega)];omega)]
 ·have e1:szw u.name.length n=n-u.name.length:=by unfold szw;rw [if_neg e]
  rw [if_neg e,e1,szIntS_eq _ h.2.1.1 _ (by omega) (by omega),f9];by_cases f:szw u.globals.length (n-u.name.length)<0
  ·rw [if_pos f,qT f,qT (w:=wK u.body) (by unfold szw;rw [if_pos (by omega)];omega)]
  ·have f1:=av9 f;rw [if_neg f,(w_szK_eq RF).1 u.body h.2.2 _ (by omega) (by omega) (by rw [RF_eq];omega),f9,szw_if]
theorem szUnitS_eq (us:List PUnit')(h:us.length≤9223372036854775807∧∀ u∈us,u.ok)(n:Int)(h0:0≤n)(h1:n≤1048576):rA us n=some (szw (wts wU us) n):=by
 unfold rA;exact szS_eq (L:=rB us) (E:=sE) wU us n (fun x hx m a b=>szUnit_eq x (h.2 x hx) m a (by omega)) (fun go left i=>rfl) ⟨h0,h1⟩ h.1
theorem toIntS_eq (xs:List Int)(h:xs.length≤1048576):jM xs=some xs:=by
 unfold jM;exact toS_eq' (L:=oQ xs) (0:Int) xs 8 (by omega) h (fun go i out=>rfl)
theorem eqIntS_refl (xs:List Int)(h:xs.length≤1048576):nZ xs xs=some true:=by
 unfold nZ;exact eqS_refl' (L:=oA xs xs) xs h (fun go i=>rfl)
theorem toUnit_eq (u:PUnit')(h:u.fine):jN u=some u:=by
 unfold jN;rw [toIntS_eq _ h.2.1,f9,toCore_eq h.2.2.1 (Nat.le_trans h.2.2.2 (by decide)),f9]
theorem eqUnit_eq (u:PUnit')(h:u.fine):sC u u=some true:=by
 unfold sC;rw [if_pos rfl,eqIntS_refl _ h.2.1,f9,if_pos rfl,eqCore_eq h.2.2.1 (Nat.le_trans h.2.2.2 (by decide)),f9,if_pos rfl]
theorem toUnitS_eq (us:List PUnit')(hl:us.length≤1048576)(hs:∀ u∈us,u.fine):aV us=some us:=by
 unfold aV;exact toS_eq (L:=jO us) (T:=jN) _ us 160 (by omega) hl (fun x hx=>toUnit_eq x (hs x hx)) (fun go i out=>rfl)
theorem ao1 (us:List PUnit')(hl:us.length≤1048576)(hs:∀ u∈us,u.fine):fB us us=some true:=by
 unfold fB;exact aq8 (L:=qW us us) (E:=sC) us hl (fun x hx=>eqUnit_eq x (hs x hx)) (fun go i=>rfl)
def wV (u:PUnit'):Nat:=1+wU u
def mG (k:Int)(u:PUnit'):=mAll mI (k+1) u.globals
def mU (k:Int)(u:PUnit'):Int×PUnit':=((mK (mG k u).1 u.body).1,⟨mtx k,(mG k u).2,(mK (mG k u).1 u.body).2⟩)
theorem mG_le (k:Int)(u:PUnit'):k+1≤(mG k u).1∧(mG k u).1≤k+1+6 * (u.globals.length:Int):=by
 have:=ah3 (wt:=fun _=>0) mI_le u.globals (k+1)
 rwa [wts_0]at this
theorem mU_le (k:Int)(u:PUnit'):k≤(mU k u).1∧(mU k u).1≤k+6 * ((1+wV u:Nat):Int):=by
 have h1:=mG_le k u;have h2:=mK_le.1 u.body (mG k u).1;have h3:wV u=1+(u.name.length+u.globals.length+wK u.body):=rfl;show k≤(mK (mG k u).1 u.body).1∧(mK (mG k u).1 u.body).1≤_;omega
theorem wV_all (us:List PUnit'):wts wV us≤2 * wts wU us:=by
 induction us with
 |nil=>exact Nat.le_refl _
 |cons x r ih=>rw [bB,bB];have:wV x=1+wU x:=rfl;omega
theorem zG (us:List PUnit')(k:Int)(hs:∀ u∈us,u.fine)(hl:us.length≤130000000000)(h0:0≤k)(h1:k+6 * ((wts wV us:Nat):Int)≤1000000000000):eB us k=some (mAll mU k us):=by
 unfold eB;refine rU (L:=kL) wV PUnit'.fine 1000000000000 (fun k x=>mU_le k x) (fun go i k1 a hi ha hx hk hB=>?_) (fun go k1 a=>?_) us hs hl k h0 h1
 ·show N5 go k1 (i:Int) a=_;unfold N5;have hwi:wV a[i]=1+(a[i].name.length+a[i].globals.length+wK a[i].body):=rfl;have hwb:=fL a[i].body;have hci:=PC.cnt_eq a[i].body;have hn:=(A4 a[i].body).1 hx.2.2.1;have hwd:=yW a[i].body.datum;have hg:=mG_le k1 a[i];have hf1:=hx.2.1;have hf2:=hx.2.2.2;have e0:W7 a[i].globals (k1+1)=some (mG k1 a[i]):=tK _ _ (by omega) (by omega) (by omega);have hmu:mU k1 a[i]=((mK (mG k1 a[i]).1 a[i].body).1,(⟨mtx k1,(mG k1 a[i]).2,(mK (mG k1 a[i]).1 a[i].body).2⟩:PUnit')):=rfl;rw [mK_eq]at hmu;rw [hmu];clear hmu;generalize hk2:(mG k1 a[i]).1=k2 at *;have hp:=mP_le (k2+1+1) a[i].body;have hq:=mQ_le ((mP (k2+1+1) a[i].body).1+1+1+1) a[i].body;have hcw:=ad4.2 a[i].body.datum.items;have e1:W7 a[i].body.params (k2+1+1)=some (mP (k2+1+1) a[i].body):=tK _ _ (Nat.le_trans hn.1 (by decide)) (by omega) (by omega);have e2:u4 RF a[i].body.datum.items ((mP (k2+1+1) a[i].body).1+1+1+1)=some (mQ ((mP (k2+1+1) a[i].body).1+1+1+1) a[i].body):=mX RF _ _ (by rw [RF_eq];omega) (by omega) (by omega) (by omega);have e3:=zF RF a[i].body.kids (mQ ((mP (k2+1+1) a[i].body).1+1+1+1) a[i].body).1 (by rw [RF_eq];omega) hn.2.2.2 (Nat.le_trans hn.2.2.1 (by decide)) (by omega) (by omega);simp only [Int.toNat_natCast,List.set_set];rw [if_pos (by omega),Y6 (by omega),f9,t0 hi,f9,l8 (by omega),U5 hi,f9];refine (congrArg (bnd · _) e0).trans ?_;rw [f9];refine (l8 (Q3 mI a[i].globals _)).trans ?_
  dsimp only;rw [hk2,U5 hi,f9,l8 (by omega),U5 hi,f9,l8 (by omega),U5 hi,f9];refine (congrArg (bnd · _) e1).trans ?_;rw [f9];refine (l8 (Q3 mI a[i].body.params _)).trans ?_;rw [U5 hi,f9,l8 (by omega),U5 hi,f9,l8 (by omega),Y6 (by omega),f9,U5 hi,f9,l8 (by omega),U5 hi,f9];refine (congrArg (bnd · _) e2).trans ?_;rw [f9];refine (l8 (Q3 mD a[i].body.datum.items _)).trans ?_;rw [U5 hi,f9];refine (congrArg (bnd · _) e3).trans ?_;rw [f9];refine (l8 (Q3 mK a[i].body.kids _)).trans ((l8 (by omega)).trans ?_);rfl
 ·show N5 go k1 _ a=_;unfold N5;rw [if_neg (by omega)]
theorem heldUnitS_eq (us:List PUnit')(k:Int)(hs:∀ u∈us,u.fine)(hl:us.length≤130000000000)(h0:0≤k)(h1:k+6 * ((wts wV us:Nat):Int)≤1000000000000):eA (mAll mU k us).2 k=some (mAll mU k us).1:=by
 unfold eA;have hal:(mAll mU k us).2.length=us.length:=Q3 _ _ _;refine rR (L:=kG (mAll mU k us).2) wV PUnit'.fine 1000000000000 (mAll mU k us).2 (fun k x=>mU_le k x) (fun go i k1 hi x hx hS hk hB=>?_) (fun go k1=>?_) us hs hl k h0 h1 rfl
 ·show N3 (mAll mU k us).2 go k1 (i:Int)=_;unfold N3;have hwi:wV x=1+(x.name.length+x.globals.length+wK x.body):=rfl;have hwb:=fL x.body;have hci:=PC.cnt_eq x.body;have hn:=(A4 x.body).1 hS.2.2.1;have hwd:=yW x.body.datum;have hg:=mG_le k1 x;have hf1:=hS.2.1;have hf2:=hS.2.2.2;have e0:W6 (mG k1 x).2 (k1+1)=some (mG k1 x).1:=sV _ _ (by omega) (by omega) (by omega);have hx':(mAll mU k us).2[i]=(⟨mtx k1,(mG k1 x).2,(mK (mG k1 x).1 x.body).2⟩:PUnit'):=hx;have hmu:(mU k1 x).1=(mK (mG k1 x).1 x.body).1:=rfl;rw [hmu];generalize hk2:(mG k1 x).1=k2 at *;have hp:=mP_le (k2+1+1) x.body;have hq:=mQ_le ((mP (k2+1+1) x.body).1+1+1+1) x.body;have hcw:=ad4.2 x.body.datum.items;have hk3:=mK_le.2 x.body.kids (mQ ((mP (k2+1+1) x.body).1+1+1+1) x.body).1;have e1:W6 (mP (k2+1+1) x.body).2 (k2+1+1)=some (mP (k2+1+1) x.body).1:=sV _ _ (Nat.le_trans hn.1 (by decide)) (by omega) (by omega);have e2:t9 RF (mQ ((mP (k2+1+1) x.body).1+1+1+1) x.body).2 ((mP (k2+1+1) x.body).1+1+1+1)=some (mQ ((mP (k2+1+1) x.body).1+1+1+1) x.body).1:=mB RF _ _ (by rw [RF_eq];omega) (by omega) (by omega) (by omega);have e3:=zA RF x.body.kids (mQ ((mP (k2+1+1) x.body).1+1+1+1) x.body).1 (by rw [RF_eq];omega) hn.2.2.2 (Nat.le_trans hn.2.2.1 (by decide)) (by omega) (by omega);rw [mK_eq]at hx';rw [if_pos (by omega),t0 hi,hx'];simp only [f9,kK,ab9,as8,wI,as9];rw [Y6 (by omega),f9]
  refine(if_pos rfl).trans ?_;rw [l8 (by omega),e0,f9,if_neg (by omega),if_pos rfl,l8 (by omega),if_pos rfl,l8 (by omega),e1,f9,if_neg (by omega),if_pos rfl,l8 (by omega),if_pos rfl,l8 (by omega),Y6 (by omega),f9];refine (if_pos rfl).trans ?_;rw [l8 (by omega),e2,f9,if_neg (by omega),e3,f9,if_neg (by omega),l8 (by omega),mK_eq]
 ·show N3 (mAll mU k us).2 go k1 _=_;unfold N3;rw [if_neg (by omega)]
end Go.Abs

namespace Go.Abs
open PC
def optU (g:List Int)(u:PUnit'):PUnit':=⟨u.name,u.globals,(optR g (u.body.cnt+1) u.body 0).1⟩
def optN (g:List Int)(us:List PUnit'):Int:=(us.map fun u=>(optR g (u.body.cnt+1) u.body 0).2).sum
def optUs (us:List PUnit'):List PUnit'×Int:=if areB us=true then(us.map (optU (globs us)),optN (globs us) us)else([],0)
theorem wM (g:List Int)(us:List PUnit')(i:Nat)(h:i<us.length):optN g (us.take (i+1))=optN g (us.take i)+(optR g (us[i].body.cnt+1) us[i].body 0).2:=by
 unfold optN;rw [← List.take_append_getElem h,List.map_append,List.sum_append];simp
theorem optN_le (g:List Int)(us:List PUnit')(h:∀ u∈us,okAll u.body=true∧u.body.cnt≤3000):0≤optN g us∧optN g us≤3000 * (us.length:Int):=by
 induction us with
 |nil=>exact⟨Int.le_refl _,Int.le_refl _⟩
 |cons u r ih=>
  have:=ih fun x hx=>h x (List.mem_cons_of_mem _ hx);have hu:=h u List.mem_cons_self;have hg:=ai0 g u.body.cnt u.body 0 hu.1 (Nat.le_refl _) (Int.le_refl _);have e:optN g (u::r)=(optR g (u.body.cnt+1) u.body 0).2+optN g r:=by unfold optN;simp
  rw [e,List.length_cons];omega
theorem wts_all {α:Type}{wt:α→Nat}{B:Nat}:∀{l:List α},(∀ x∈l,wt x≤B)→wts wt l≤l.length * (B+1)
 | [],_=>Nat.zero_le _
 |x::r,h=>by
  have h1:=wts_all (l:=r) fun y hy=>h y (List.mem_cons_of_mem _ hy);have h2:=h x List.mem_cons_self;rw [bB,List.length_cons,Nat.add_mul];omega
theorem optU_good {g:List Int}{u:PUnit'}(hf:u.fine)(h:okAll u.body=true∧u.body.cnt≤3000):(optU g u).fine∧wV (optU g u)≤43000000:=by
 obtain⟨g1,g2,g3⟩:=ai0 g u.body.cnt u.body 0 h.1 (Nat.le_refl _) (Int.le_refl _);have hw:=ok_w g1 (Nat.le_trans g2 h.2);refine ⟨⟨hf.1,hf.2.1,eI.1 _ g1,by show(optR g (u.body.cnt+1) u.body 0).1.cnt≤_;have:=h.2;omega⟩,?_⟩;show 1+(u.name.length+u.globals.length+wK (optR g (u.body.cnt+1) u.body 0).1)≤_;have:=hf.1;have:=hf.2.1;omega
theorem optUs_good {us:List PUnit'}(hs:∀ u∈us,u.fine):(optUs us).1.length≤12∧(∀ u∈(optUs us).1,u.fine)∧wts wV (optUs us).1≤600000000:=by
 unfold optUs;by_cases h:areB us=true
 ·rw [if_pos h];unfold areB at h;simp only [Bool.and_eq_true,decide_eq_true_eq]at h;have hk:=kU h.2.1;have hl:(us.map (optU (globs us))).length≤12:=by rw [List.length_map];exact h.1
  have ha:∀ x∈us.map (optU (globs us)),x.fine∧wV x≤43000000:=fun x hx=>by
   obtain⟨u,hu,rfl⟩:=List.mem_map.1 hx;exact optU_good (hs u hu) (hk u hu)
  refine⟨hl,fun x hx=>(ha x hx).1,?_⟩;have:=wts_all (wt:=wV) fun x hx=>(ha x hx).2;have h3:(us.map (optU (globs us))).length * (43000000+1)≤12 * (43000000+1):=Nat.mul_le_mul_right _ hl;show wts wV (us.map (optU (globs us)))≤_;omega
 ·rw [if_neg h];exact ⟨Nat.zero_le _,fun x hx=>(by cases hx),Nat.zero_le _⟩
theorem cnts_drop {ds:List PC}{i:Nat}(h:i<ds.length):cnts (ds.drop i)=1+cnt ds[i]+cnts (ds.drop (i+1)):=by rw [List.drop_eq_getElem_cons h,cnts]
theorem qB (n:Nat):∀(d:PC),d.cnt<n→d.nice→d.cnt≤1048576→u7 n d=some ((d.cnt:Int)+1):=by
 induction n with
 |zero=>intro d h;omega
 |succ n ih=>
  intro d h hd hc;show W5 (u7 n) d=_;unfold W5;have hs:=((A4 d).1 hd).2.2.1;have hcd:=PC.cnt_eq d;refine (ab6 (L:=gW (u7 n) d) d.kids.length (fun i a=>0≤a∧a+(cnts (d.kids.drop i):Int)≤1048577) (fun i a=>some (a+(cnts (d.kids.drop i):Int))) (by omega) (fun go i a hi ha hgo=>?_) (fun go a ha=>?_) (by rw [List.drop_zero];omega)).trans ?_
  ·show K6 (u7 n) d go a i=_;unfold K6;have hx:=R4 hi;rw [cnts_drop hi]at ha ⊢;rw [if_pos (by omega),t0 hi,f9,ih _ (by omega) (B8 hd (List.getElem_mem hi)) (by omega),f9,l8 (by omega),l8 (by omega),hgo _ (by omega)];congr 1;omega
  ·show K6 (u7 n) d go a _=_;unfold K6;rw [if_neg (by omega),List.drop_length];simp [cnts]
  ·rw [List.drop_zero,hcd];congr 1;omega
theorem size_is:∀ n,z8 n=u7 n
 |0=>rfl
 |n+1=>by
  funext c;show eC (z8 n) c=W5 (u7 n) c;rw [size_is n];rfl
theorem depth_is:∀ n,w5 n=s6 n
 |0=>rfl
 |n+1=>by
  funext c;show cG (w5 n) c=R7 (s6 n) c;rw [depth_is n];rfl
theorem i_parted_eq (u:PUnit'):vW u.body=some (partN u:Int):=by
 unfold vW partN;by_cases h:u.body.kind=8
 ·rw [if_pos h,if_pos h]
 ·rw [if_neg h,if_neg h];rfl
theorem uniq_mem:∀(l s:List Int),uniq s l=true→∀ x∈l,s.contains x=false
 |y::r,s,h,x,hx=>by
  rw [uniq]at h;simp only [Bool.and_eq_true,Bool.not_eq_true']at h;rcases List.mem_cons.1 hx with rfl|hx
  ·exact h.2.1
  ·have:=uniq_mem r (s++[y]) h.2.2 x hx;rw [List.contains_eq_mem,decide_eq_false_iff_not,List.mem_append]at this;rw [List.contains_eq_mem,decide_eq_false_iff_not];exact fun hh=>this (.inl hh)
theorem uniq_app:∀(a s b:List Int),uniq s (a++b)=true→uniq (s++a) b=true
 | [],s,b,h=>by rw [List.append_nil];exact h
 |x::r,s,b,h=>by
  rw [List.cons_append,uniq]at h;simp only [Bool.and_eq_true]at h;have:=uniq_app r (s++[x]) b h.2.2
  rwa [List.append_assoc]at this
theorem fits_bnds {g:List Int}{u:PUnit'}(h:fitsB g u=true):(0≤few u.body 3000)∧∀ n∈bnds u.body,g.contains n=false:=by
 unfold fitsB coreG at h;simp only [Bool.and_eq_true]at h;obtain ⟨_,_,h1,h2,_⟩:=h;refine ⟨?_,fun n hn=>?_⟩
 ·rw [← few_tree]at h1;simp only [Bool.and_eq_true,decide_eq_true_eq]at h1;exact h1.1
 ·have:=uniq_mem _ _ (uniq_app _ _ _ h2) n hn;rw [List.nil_append,List.contains_eq_mem,decide_eq_false_iff_not,List.mem_append]at this;rw [List.contains_eq_mem,decide_eq_false_iff_not];exact fun hh=>this (.inl hh)
theorem i_dif_one (a:List Int)(ha:a.length≤1000000000000):A5 [a]=some (uniq [] a):=by
 unfold A5;have h:itr (D1 [a]) LF (0,[])=some (difL [] [a]):=by
  rw [F3 (L:=D1 [a]) 1 (fun _ _=>True) (fun i m=>some (difL m ([a].drop i))) (by omega) (fun go i m hi _ hgo=>?_) (fun go m _=>?_) trivial]
  ·rfl
  ·show A8 [a] go i m=_;unfold A8;have hi':i< [a].length:=hi;have hle:([a][i]).length≤1000000000000:=by
    have:=List.getElem_mem hi';rw [List.mem_singleton]at this;rw [this];exact ha
   rw [if_pos (by simp;omega),t0 hi',f9,af6 i (by omega) go _ hle m,List.drop_eq_getElem_cons hi',difL];cases difM m [a][i]with
   |none=>rfl
   |some m2=>exact hgo m2 trivial
  ·rfl
 rw [h];congr 1;unfold difL;have h1:=vB a [] [] [] vN;rw [List.append_nil]at h1;cases e:difM [] a with
 |none=>rw [h1.1 e]
 |some m2=>rw [(h1.2 m2 e).2];rfl
theorem s_l1Has_eq (l:List (List UInt8))(x:List UInt8)(h:l.length≤1000000000000):aj4 l x=some (l.contains x):=by
 unfold aj4;rw [fG (L:=yO l x) l.length (fun i=>some ((l.drop i).contains x)) (by omega) (fun go i hi hgo=>?_) (fun go=>?_)]
 ·rw [List.drop_zero]
 ·show bL l x go (i:Int)=_;unfold bL;rw [if_pos (by omega),t0 hi,f9,l8 (by omega),hgo,List.drop_eq_getElem_cons hi,List.contains_cons];by_cases hx:l[i]=x
  ·simp [hx]
  ·have:¬ x=l[i]:=fun h=>hx h.symm;simp [hx,this]
 ·show bL l x go _=_;unfold bL;rw [if_neg (by omega),List.drop_length];rfl
def knows (m:List ((List UInt8)×Int))(ns:List (List UInt8)):Prop:=∀ t,mget m t=if ns.contains t=true then 1 else 0
theorem knows_nil:knows [] []:=fun t=>rfl
theorem knows_put {m:List ((List UInt8)×Int)}{ns:List (List UInt8)}(h:knows m ns)(x:List UInt8):knows (mput m x 1) (ns++[x]):=fun t=>by
 rw [pR,h t,List.contains_eq_mem,List.contains_eq_mem];simp only [List.mem_append,List.mem_singleton,decide_eq_true_eq];by_cases h1:t=x
 ·rw [if_pos h1,if_pos (.inr h1)]
 ·rw [if_neg h1];by_cases h2:t∈ns
  ·rw [if_pos h2,if_pos (.inl h2)]
  ·rw [if_neg h2,if_neg (fun hh=>hh.elim h2 h1)]
def nsT (us:List PUnit')(i:Nat):List (List UInt8):=(us.take i).map (·.name)
theorem ac2 (us:List PUnit')(i:Nat)(h:i<us.length):nsT us (i+1)=nsT us i++[us[i].name]:=by unfold nsT;rw [← List.take_append_getElem h,List.map_append];rfl
theorem ao6 (us:List PUnit')(ns:List (List UInt8))(g:List Int)(i:Nat)(h:i<us.length):goodU ns g (us.drop i)=(!ns.contains us[i].name&&(fitsB g us[i]&&(decide (us[i].body.depth<150)&&goodU (ns++[us[i].name]) (g++us[i].globals) (us.drop (i+1))))):=by
 rw [List.drop_eq_getElem_cons h];rfl
structure Calm (us:List PUnit'):Prop where
 w:wts wU us≤1048576
theorem Calm.at' {us:List PUnit'}(h:Calm us){i:Nat}(hi:i<us.length):SM us[i].name∧us[i].body.nice∧wK us[i].body≤1048576∧us[i].body.cnt≤1048576∧us[i].globals.length≤1048576:=by
 have h1:=wU_mem (List.getElem_mem hi);have h2:=h.w;have h3:wU us[i]=us[i].name.length+us[i].globals.length+wK us[i].body:=rfl;have h4:=kS.1 us[i].body;exact ⟨by unfold SM;omega,nice_wK.1 _ (by omega),by omega,by omega,by omega⟩
theorem Calm.tk {us:List PUnit'}(h:Calm us)(i:Nat):(globs (us.take i)).length≤1048576∧(allOf (us.take i)).length≤1048576∧sumU sizeN (us.take i)≤1048576∧sumU partN (us.take i)≤1048576:=by
 have h1:=lens_wU (us.take i);have h2:wts wU (us.take i)≤wts wU us:=by
  by_cases hi:i≤us.length
  ·exact wU_takes us i hi
  ·rw [List.take_of_length_le (by omega)];exact Nat.le_refl _
 have h3:=h.w;omega
theorem ar5 (us:List PUnit')(h:Calm us):kW us=some (areB us):=by
 unfold kW areB;have hn:=ah2 us;have hw:=h.w;by_cases h12:us.length≤12
 ·rw [if_neg (by omega),decide_eq_true h12,Bool.true_and];refine (fM (L:=mJ us) (fun v=>some (goodU (nsT us v.2.2.1.toNat) (globs (us.take v.2.2.1.toNat)) (us.drop v.2.2.1.toNat)&&endU us)) (fun v=>(0≤v.2.2.1∧v.2.2.1≤us.length)∧v.1=1+(sumU sizeN (us.take v.2.2.1.toNat):Int)∧v.2.1=(sumU partN (us.take v.2.2.1.toNat):Int)∧knows v.2.2.2.1 (nsT us v.2.2.1.toNat)∧v.2.2.2.2.1=globs (us.take v.2.2.1.toNat)∧v.2.2.2.2.2=allOf (us.take v.2.2.1.toNat)) (fun v=>us.length-v.2.2.1.toNat) (fun go v hv hgo=>?_) (1,0,0,[],[],[]) ⟨⟨Int.le_refl _,by show(0:Int)≤us.length;omega⟩,rfl,rfl,knows_nil,rfl,rfl⟩ (by show us.length-0<_;omega)).trans rfl;obtain ⟨nodes,kids,x4,names,gl,al⟩:=v;obtain ⟨⟨v1,v2⟩,v3,v4,v5,v6,v7⟩:=hv;simp only at v1 v2 v3 v4 v5 v6 v7;obtain ⟨i,rfl⟩:=Int.eq_ofNat_of_zero_le v1;simp only [Int.ofNat_eq_natCast,Int.toNat_natCast]at *;show aO us go nodes kids (i:Int) names gl al=_;unfold aO;have ht:=h.tk i;by_cases hi:i<us.length
  ·obtain ⟨c1,c2,c3,c4,c5⟩:=h.at' hi;have hb:=rL.1 us[i].body;have hp:=partN us[i];have ht2:=h.tk (i+1);rw [bT us i hi,kP us i hi,dA _ us i hi,dA _ us i hi]at ht2;rw [if_pos (by omega),t0 hi,f9,ao6 us _ _ i hi,v5];by_cases hc:(nsT us i).contains us[i].name=true
   ·rw [if_pos (by rw [if_pos hc]),hc];rfl
   ·rw [if_neg (by rw [if_neg hc];decide),Bool.eq_false_iff.2 hc,v6,ar3 _ _ c1 c2 c3 (by omega) (by omega),f9,depth_is,fK RF _ (RF_cntK (by omega)) c2 c4,f9,v7];simp only [List.length_append]at ht2;rw [l8 (by omega),l8 (by omega),fX _ c2 c3,f9,l8 (by rw [List.length_append];omega),size_is,qB RF _ (RF_cntK (by omega)) c2 c4,f9,i_parted_eq,f9];have hz:sizeN us[i]=us[i].body.cnt+1:=rfl;rw [l8 (by omega),l8 (by omega),l8 (by omega)];cases hf:fitsB (globs (us.take i)) us[i]
    ·rfl
    ·by_cases hd:us[i].body.depth<150
     ·have e1:((i:Int)+1).toNat=i+1:=by omega
      rw [if_pos rfl,if_neg (by omega),decide_eq_true hd];refine (hgo _ ⟨⟨by show(0:Int)≤(i:Int)+1;omega,by show(i:Int)+1≤us.length;omega⟩,?_,?_,?_,?_,?_⟩ (by show us.length-((i:Int)+1).toNat<us.length-i;omega)).trans ?_
      ·show nodes+((us[i].body.cnt:Int)+1)=1+(sumU sizeN (us.take ((i:Int)+1).toNat):Int)
       rw [e1,dA _ us i hi,v3];omega
      ·show kids+(partN us[i]:Int)=(sumU partN (us.take ((i:Int)+1).toNat):Int)
       rw [e1,dA _ us i hi,v4];omega
      ·show knows (mput names us[i].name 1) (nsT us ((i:Int)+1).toNat);rw [e1,ac2 us i hi];exact knows_put v5 _
      ·show _=globs (us.take ((i:Int)+1).toNat);rw [e1,bT us i hi]
      ·show _=allOf (us.take ((i:Int)+1).toNat);rw [e1,kP us i hi]
      ·show some (goodU (nsT us ((i:Int)+1).toNat) (globs (us.take ((i:Int)+1).toNat)) (us.drop ((i:Int)+1).toNat)&&endU us)=_;rw [e1,ac2 us i hi,bT us i hi];simp
     ·rw [if_pos rfl,if_pos (by omega),decide_eq_false hd];rfl
  ·have:i=us.length:=by omega
   subst this;rw [List.take_length]at v3 v4 v6 v7 ht;rw [if_neg (by omega),List.drop_length,v7,i_dif_one _ (by omega),f9,v3,v4,v6];unfold endU;show _=some (true&&_);rw [Bool.true_and];cases uniq [] (allOf us)
   ·rfl
   ·by_cases g1:(globs us).length≤60
    ·rw [if_pos rfl,if_pos (by omega),decide_eq_true g1];by_cases g2:1+sumU sizeN us≤3000
     ·rw [if_pos (by omega),decide_eq_true g2];exact congrArg some (decide_eq_decide.2 (by omega))
     ·rw [if_neg (by omega),decide_eq_false g2];rfl
    ·rw [if_pos rfl,if_neg (by omega),decide_eq_false g1];rfl
 ·rw [if_pos (by omega),decide_eq_false h12];rfl
theorem s_l7Apart_eq (us:List PUnit')(h:Calm us):qO us=some (uniq [] (allOf us)):=by
 unfold qO;have hn:=ah2 us;have hw:=h.w;refine (F3 (L:=qP us) us.length (fun i a=>a=allOf (us.take i)) (fun _ _=>some (uniq [] (allOf us))) (by omega) (fun go i a hi ha hgo=>?_) (fun go a ha=>?_) (a:=([]:List Int)) rfl).trans rfl
 ·show V1 us go (i:Int) a=_;unfold V1;obtain ⟨c1,c2,c3,c4,c5⟩:=h.at' hi;have ht2:=(h.tk (i+1)).2.1;rw [kP us i hi]at ht2;simp only [List.length_append]at ht2;rw [if_pos (by omega),t0 hi,f9,ha,l8 (by omega),jA RF _ [] (RF_cntK (by omega)) c2 (by simp;omega),f9,List.nil_append,l8 (by rw [List.length_append];omega),l8 (by omega)];exact hgo _ (kP us i hi).symm
 ·show V1 us go _ a=_;unfold V1;have ht:=(h.tk us.length).2.1;rw [List.take_length]at ha ht;rw [if_neg (by omega),ha,nN _ (by omega),f9]
theorem s_in_loop (size kids x4:Int)(gl:List Int)(names:List (List UInt8))(go7:(Int×Int×Int×List Int×List (List UInt8))→Option Bool)(u:PUnit')(a1:Bool)(a2:Int)(a3:Bool)(bs:List Int)(hb:bs.length≤1000000000)(hg:gl.length≤1000000000)(hh:∀ n∈bs,gl.contains n=false):
 itr (jD size kids x4 gl names go7 u a1 a2 a3 bs) LF 0=J3 size kids x4 gl names go7 u a1 a2 a3 bs (fun _=>none) (bs.length:Int):=by
 refine fG (L:=jD size kids x4 gl names go7 u a1 a2 a3 bs) bs.length (fun _=>J3 size kids x4 gl names go7 u a1 a2 a3 bs (fun _=>none) (bs.length:Int)) (by omega) (fun go i hi hgo=>?_) (fun go=>?_)
 ·rw [← hgo];show J3 size kids x4 gl names go7 u a1 a2 a3 bs go (i:Int)=_;unfold J3;rw [if_pos (by omega),t0 hi,f9,J1 _ _ (by omega),f9,if_neg (by rw [hh _ (List.getElem_mem hi)];decide),l8 (by omega)]
 ·show J3 size kids x4 gl names go7 u a1 a2 a3 bs go _=_;unfold J3;rw [if_neg (by omega),if_neg (by omega)]
theorem s_l7Units_eq (us:List PUnit')(h:Calm us):qQ us=some (areB us):=by
 unfold qQ areB;have hn:=ah2 us;have hw:=h.w;refine (fM (L:=qR us) (fun v=>some (goodU (nsT us v.2.2.1.toNat) (globs (us.take v.2.2.1.toNat)) (us.drop v.2.2.1.toNat)&&(decide (us.length≤12)&&endU us))) (fun v=>(0≤v.2.2.1∧v.2.2.1≤us.length)∧v.1=(sumU sizeN (us.take v.2.2.1.toNat):Int)∧v.2.1+v.2.2.1=(sumU partN (us.take v.2.2.1.toNat):Int)∧v.2.2.2.1=globs (us.take v.2.2.1.toNat)∧v.2.2.2.2=nsT us v.2.2.1.toNat) (fun v=>us.length-v.2.2.1.toNat) (fun go v hv hgo=>?_) (0,0,0,[],[]) ⟨⟨Int.le_refl _,by show(0:Int)≤us.length;omega⟩,rfl,rfl,rfl,rfl⟩ (by show us.length-0<_;omega)).trans (by
  show some (goodU [] [] us&&(decide (us.length≤12)&&endU us))=_;cases goodU [] [] us<;>cases decide (us.length≤12)<;>rfl)
 obtain⟨size,kids,x4,gl,names⟩:=v;obtain ⟨⟨v1,v2⟩,v3,v4,v5,v6⟩:=hv;simp only at v1 v2 v3 v4 v5 v6;obtain ⟨i,rfl⟩:=Int.eq_ofNat_of_zero_le v1;simp only [Int.ofNat_eq_natCast,Int.toNat_natCast]at *;show cY us go size kids (i:Int) gl names=_;unfold cY;have ht:=h.tk i;by_cases hi:i<us.length
 ·obtain ⟨c1,c2,c3,c4,c5⟩:=h.at' hi;have hb:=rL.1 us[i].body;have ht2:=h.tk (i+1);rw [bT us i hi,kP us i hi,dA _ us i hi,dA _ us i hi]at ht2;have hnl:(nsT us i).length≤1048576:=by unfold nsT;rw [List.length_map,List.length_take];omega
  have hkl:=kids_len us[i].body;rw [if_pos (by omega),t0 hi,f9,ao6 us _ _ i hi,v6,s_l1Has_eq _ _ (by omega),f9];by_cases hc:(nsT us i).contains us[i].name=true
  ·rw [if_pos hc,hc];rfl
  ·rw [if_neg hc,Bool.eq_false_iff.2 hc,zQ _ c2 c4,f9,fK RF _ (RF_cntK (by omega)) c2 c4,f9,v5,au2 _ _ c1 c2 c3 (by omega) (by omega),f9];by_cases hf:fitsB (globs (us.take i)) us[i]=true
   ·obtain ⟨f1,f2⟩:=fits_bnds hf;rw [decide_eq_true f1,if_pos rfl,hf];by_cases hd:us[i].body.depth<150
    ·have e1:((i:Int)+1).toNat=i+1:=by omega
     rw [if_neg (by omega),if_pos rfl,decide_eq_true hd,jA RF _ [] (RF_cntK (by omega)) c2 (by simp;omega),f9,List.nil_append,s_in_loop _ _ _ _ _ _ _ _ _ _ _ (by omega) (by omega) f2];unfold J3;simp only [List.length_append]at ht2;have hz:sizeN us[i]=us[i].body.cnt+1:=rfl;rw [if_neg (by omega),l8 (by omega),l8 (by rw [show ([us[i].name]:List (List UInt8)).length=1 from rfl];omega),qB RF _ (RF_cntK (by omega)) c2 c4,f9,l8 (by omega)];unfold cA;have fin:∀ k:Int,k+((i:Int)+1)=(sumU partN (us.take (i+1)):Int)→go (size+((us[i].body.cnt:Int)+1),k,(i:Int)+1,globs (us.take i)++us[i].globals,nsT us i++[us[i].name])=some ((!false&&(true&&(true&&goodU (nsT us i++[us[i].name]) (globs (us.take i)++us[i].globals) (us.drop (i+1)))))&&(decide (us.length≤12)&&endU us)):=fun k hk=>by
      refine(hgo _ ⟨⟨by show(0:Int)≤(i:Int)+1;omega,by show(i:Int)+1≤us.length;omega⟩,?_,?_,?_,?_⟩ (by show us.length-((i:Int)+1).toNat<us.length-i;omega)).trans ?_
      ·show size+((us[i].body.cnt:Int)+1)=(sumU sizeN (us.take ((i:Int)+1).toNat):Int)
       rw [e1,dA _ us i hi,v3];omega
      ·show k+((i:Int)+1)=(sumU partN (us.take ((i:Int)+1).toNat):Int)
       rw [e1,hk]
      ·show _=globs (us.take ((i:Int)+1).toNat);rw [e1,bT us i hi]
      ·show _=nsT us ((i:Int)+1).toNat;rw [e1,ac2 us i hi]
      ·show some (goodU (nsT us ((i:Int)+1).toNat) (globs (us.take ((i:Int)+1).toNat)) (us.drop ((i:Int)+1).toNat)&&_)=_;rw [e1,ac2 us i hi,bT us i hi];simp
     by_cases h8:us[i].body.kind=8
     ·have hp:partN us[i]=us[i].body.kids.length:=by unfold partN;rw [if_pos h8]
      rw [if_pos h8,l8 (by omega),l8 (by omega),l8 (by omega)];exact fin _ (by rw [dA _ us i hi];omega)
     ·have hp:partN us[i]=1:=by unfold partN;rw [if_neg h8]
      rw [if_neg h8,l8 (by omega)];exact fin _ (by rw [dA _ us i hi];omega)
    ·rw [if_pos (by omega),decide_eq_false hd];rfl
   ·rw [Bool.eq_false_iff.2 hf];have e0:(!false&&(false&&(decide (us[i].body.depth<150)&&goodU (nsT us i++[us[i].name]) (globs (us.take i)++us[i].globals) (us.drop (i+1))))&&(decide (us.length≤12)&&endU us))=false:=rfl;rw [e0];cases decide (0≤few us[i].body 3000)
    ·rfl
    ·rw [if_pos rfl];by_cases hd:us[i].body.depth≥150
     ·rw [if_pos hd]
     ·rw [if_neg hd];rfl
 ·have:i=us.length:=by omega
  subst this;rw [List.take_length]at v3 v4 v5 ht;rw [if_neg (by omega),List.drop_length,v5,v3,s_l7Apart_eq us h,f9];unfold endU;show _=some (true&&_);rw [Bool.true_and];by_cases g0:us.length≤12
  ·rw [if_pos (by omega),decide_eq_true g0];by_cases g1:(globs us).length≤60
   ·rw [if_pos (by omega),decide_eq_true g1,l8 (by omega)];by_cases g2:1+sumU sizeN us≤3000
    ·rw [if_pos (by omega),decide_eq_true g2,l8 (by omega)];by_cases g3:sumU partN us≤60
     ·rw [if_pos (by omega),decide_eq_true g3];cases uniq [] (allOf us)<;>rfl
     ·rw [if_neg (by omega),decide_eq_false g3];cases uniq [] (allOf us)<;>rfl
    ·rw [if_neg (by omega),decide_eq_false g2];cases uniq [] (allOf us)<;>rfl
   ·rw [if_neg (by omega),decide_eq_false g1];cases uniq [] (allOf us)<;>rfl
  ·rw [if_neg (by omega),decide_eq_false g0];rfl
end Go.Abs

namespace Go.Abs
open PC
theorem sI (us:List PUnit')(h:Calm us):dN us=some (globs us):=by
 unfold dN;have hn:=ah2 us;have hw:=h.w;refine (F3 (L:=jQ us) us.length (fun i a=>a=globs (us.take i)) (fun _ _=>some (globs us)) (by omega) (fun go i a hi ha hgo=>?_) (fun go a ha=>?_) (a:=([]:LI)) rfl).trans rfl
 ·show M4 us go (i:Int) a=_;unfold M4;have ht2:=(h.tk (i+1)).1;rw [bT us i hi]at ht2;simp only [List.length_append]at ht2;rw [if_pos (by omega),t0 hi,f9,ha,l8 (by omega),l8 (by omega)];exact hgo _ (bT us i hi).symm
 ·show M4 us go _ a=_;unfold M4;rw [List.take_length]at ha;rw [if_neg (by omega),ha]
theorem globals_is (us:List PUnit'):nP us=dN us:=rfl
theorem nA (us:List PUnit')(h:areB us=true)(i:Nat):0≤optN (globs us) (us.take i)∧optN (globs us) (us.take i)≤36000:=by
 unfold areB at h;simp only [Bool.and_eq_true,decide_eq_true_eq]at h;have hk:=kU h.2.1;have:=optN_le (globs us) (us.take i) fun u hu=>hk u (List.mem_of_mem_take hu);rw [List.length_take]at this;omega
theorem map_take {α β:Type}(f:α→β)(us:List α)(i:Nat)(h:i<us.length):(us.take (i+1)).map f=(us.take i).map f++[f us[i]]:=by
 rw [← List.take_append_getElem h,List.map_append];rfl
theorem vS (us:List PUnit')(h:Calm us):Q8 us=some (optUs us):=by
 unfold Q8 optUs;have hw:=h.w;have hn:=ah2 us;rw [ar5 us h,f9];by_cases ha:areB us=true
 ·rw [if_pos ha,if_pos ha,sI us h,f9];have hg:=(h.tk us.length).1;rw [List.take_length]at hg;have hk:=kU (by unfold areB at ha;simp only [Bool.and_eq_true]at ha;exact ha.2.1);refine (fM (L:=cJ us (globs us)) (fun _=>some (us.map (optU (globs us)),optN (globs us) us)) (fun v=>(0≤v.2.1∧v.2.1≤us.length)∧v.1=optN (globs us) (us.take v.2.1.toNat)∧v.2.2=(us.take v.2.1.toNat).map (optU (globs us))) (fun v=>us.length-v.2.1.toNat) (fun go v hv hgo=>?_) (0,0,[]) ⟨⟨Int.le_refl _,by show(0:Int)≤us.length;omega⟩,rfl,rfl⟩ (by show us.length-0<_;omega));obtain ⟨tot,x5,out⟩:=v;obtain ⟨⟨v1,v2⟩,v3,v4⟩:=hv;simp only at v1 v2 v3 v4;obtain ⟨i,rfl⟩:=Int.eq_ofNat_of_zero_le v1;simp only [Int.ofNat_eq_natCast,Int.toNat_natCast]at *;show M5 us (globs us) go tot (i:Int) out=_;unfold M5;by_cases hi:i<us.length
  ·obtain ⟨c1,c2,c3,c4,c5⟩:=h.at' hi;have hu:=hk us[i] (List.getElem_mem hi);have b1:=nA us ha i;have b2:=nA us ha (i+1);rw [wM _ us i hi]at b2;have hol:out.length=i:=by rw [v4,List.length_map,List.length_take];omega
   have e1:((i:Int)+1).toNat=i+1:=by omega
   rw [if_pos (by omega),t0 hi,f9,am0 _ _ hu.1 hu.2 (by omega),f9,l8 (by omega)];unfold aG;rw [l8 (by omega),f9,l8 (by rw [hol];show((i+1:Nat):Nat) * 160≤_;omega),l8 (by omega)];refine hgo _ ⟨⟨by show(0:Int)≤(i:Int)+1;omega,by show(i:Int)+1≤us.length;omega⟩,?_,?_⟩ (by show us.length-((i:Int)+1).toNat<us.length-i;omega)
   ·show _=optN (globs us) (us.take ((i:Int)+1).toNat);rw [e1,wM _ us i hi,v3]
   ·show _=(us.take ((i:Int)+1).toNat).map (optU (globs us));rw [e1,map_take _ us i hi,v4];rfl
  ·have:i=us.length:=by omega
   subst this;rw [List.take_length]at v3 v4;rw [if_neg (by omega),v3,v4]
 ·rw [if_neg ha,if_neg ha]
theorem wX (us:List PUnit')(h:Calm us):Y9 us=some (optUs us):=by
 unfold Y9 optUs;have hw:=h.w;have hn:=ah2 us;rw [s_l7Units_eq us h,f9];by_cases ha:areB us=true
 ·rw [if_pos ha,if_pos ha];have hg:=(h.tk us.length).1;rw [List.take_length]at hg;have hk:=kU (by unfold areB at ha;simp only [Bool.and_eq_true]at ha;exact ha.2.1);refine (fM (L:=cX us) (fun _=>some (us.map (optU (globs us)),optN (globs us) us)) (fun v=>(0≤v.2.1∧v.2.1≤us.length)∧v.1=optN (globs us) (us.take v.2.1.toNat)∧v.2.2=(us.take v.2.1.toNat).map (optU (globs us))) (fun v=>us.length-v.2.1.toNat) (fun go v hv hgo=>?_) (0,0,[]) ⟨⟨Int.le_refl _,by show(0:Int)≤us.length;omega⟩,rfl,rfl⟩ (by show us.length-0<_;omega));obtain ⟨tot,x5,out⟩:=v;obtain ⟨⟨v1,v2⟩,v3,v4⟩:=hv;simp only at v1 v2 v3 v4;obtain ⟨i,rfl⟩:=Int.eq_ofNat_of_zero_le v1;simp only [Int.ofNat_eq_natCast,Int.toNat_natCast]at *;show N1 us go tot (i:Int) out=_;unfold N1;by_cases hi:i<us.length
  ·obtain ⟨c1,c2,c3,c4,c5⟩:=h.at' hi;have hu:=hk us[i] (List.getElem_mem hi);have b1:=nA us ha i;have b2:=nA us ha (i+1);rw [wM _ us i hi]at b2;have hol:out.length=i:=by rw [v4,List.length_map,List.length_take];omega
   have e1:((i:Int)+1).toNat=i+1:=by omega
   rw [if_pos (by omega),t0 hi,f9,globals_is,sI us h,f9,aj8 _ _ hu.1 hu.2 (by omega),f9,l8 (by omega),bM _ (by omega)];rw [f9,l8 (by rw [hol];show((i+1:Nat):Nat) * 160≤_;omega),l8 (by omega)];refine hgo _ ⟨⟨by show(0:Int)≤(i:Int)+1;omega,by show(i:Int)+1≤us.length;omega⟩,?_,?_⟩ (by show us.length-((i:Int)+1).toNat<us.length-i;omega)
   ·show _=optN (globs us) (us.take ((i:Int)+1).toNat);rw [e1,wM _ us i hi,v3]
   ·show _=(us.take ((i:Int)+1).toNat).map (optU (globs us));rw [e1,map_take _ us i hi,v4];rfl
  ·have:i=us.length:=by omega
   subst this;rw [List.take_length]at v3 v4;rw [if_neg (by omega),v3,v4]
 ·rw [if_neg ha,if_neg ha]
set_option maxRecDepth 20000 in
theorem iC (us:List PUnit')(h:us.length≤9223372036854775807∧∀ u∈us,u.ok):N7 us=some true:=by
 unfold N7;rw [szUnitS_eq us h _ (by omega) (by omega),f9];by_cases hz:szw (wts wU us) 1048576<0
 ·rw [if_pos hz]
 have hw:wts wU us≤1048576:=by have:=(av9 hz).2;omega
 have hlen:=ah2 us;have hs:∀ u∈us,u.fine:=fun u hu=>fine_wU (by have:=wU_mem hu;omega);have hv:=wV_all us;obtain ⟨g1,g2,g3⟩:=optUs_good hs;have ei:=vS us ⟨hw⟩;have es:=wX us ⟨hw⟩;generalize optUs us=r at g1 g2 g3 ei es;have m1:=zG us 1 hs (by omega) (by omega) (by omega);have l1:=ah3 mU_le us 1;have m2:=zG r.1 1 g2 (by omega) (by omega) (by omega);have h2:=heldUnitS_eq r.1 1 g2 (by omega) (by omega) (by omega);have l2:=ah3 mU_le r.1 1;have n1:(mAll mU 1 us).2.length=us.length:=Q3 _ _ _;have n2:(mAll mU 1 r.1).2.length=r.1.length:=Q3 _ _ _;rw [if_neg hz];simp only [toUnitS_eq us (by omega) hs,f9,es,ei,ao1 r.1 (by omega) g2,if_true,ao1 us (by omega) hs,m1,m2];rw [l8 n1,if_neg (by omega),l8 n2];simp only [h2,f9];rw [if_neg (by omega)];simp only [if_true];rw [if_neg (by omega)]
end Go.Abs
