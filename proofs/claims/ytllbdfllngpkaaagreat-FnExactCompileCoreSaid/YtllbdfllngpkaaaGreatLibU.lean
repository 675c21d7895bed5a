
import Derived.Test.YtllbdfllngpkaaaGreatLibT
import Derived.Test.YtllbdfllngpkaaaGreatLibS
set_option linter.unusedVariables false
set_option linter.unusedSimpArgs false
namespace Go.Abs
open PC
def putMs (m:List (Int×Int))(l:List Int):List (Int×Int):=l.foldl (fun m n=>mput m n 1) m
theorem mget_put (m:List (Int×Int))(n v k:Int):mget (mput m n v) k=if k=n then v else mget m k:=by
 unfold mget;induction m with
 |nil=>
  by_cases h:k=n
  ·simp [mput,mlook,h]
  ·simp [mput,mlook,h]
 |cons p r ih=>
  by_cases h:n=p.1
  ·by_cases h2:k=n
   ·simp [mput,mlook,h,h2]
   ·have:¬ k=p.1:=fun e=>h2 (e.trans h.symm);simp [mput,mlook,h,this]
  ·simp only [mput,if_neg h,mlook];by_cases h2:k=p.1
   ·have:¬ k=n:=fun e=>h (e.symm.trans h2);simp [h2,Ne.symm h]
   ·simp only [if_neg h2];exact ih
theorem aj1:∀(l:List Int) (m:List (Int×Int)) (k:Int),mget (putMs m l) k=if l.contains k=true then 1 else mget m k
 | [],m,k=>rfl
 |n::l,m,k=>by
  show mget (putMs (mput m n 1) l) k=_;rw [aj1 l,mget_put,List.contains_cons];by_cases h1:l.contains k=true
  ·rw [if_pos h1,if_pos (by rw [h1,Bool.or_true])]
  ·by_cases h2:k=n
   ·simp [h2]
   ·have:¬ (k == n)=true:=by simpa using h2
    rw [if_neg h1,if_neg h2,if_neg (by simp only [Bool.or_eq_true,not_or];exact⟨this,h1⟩)]
theorem putMs_app (m:List (Int×Int))(a b:List Int):putMs m (a++b)=putMs (putMs m a) b:=by unfold putMs;rw [List.foldl_append]
theorem i_setOf_eq (ls:List (List Int))(h:ls.length≤1048576)(hl:∀ l∈ls,l.length≤1000000000000):aa1 ls=some (putMs [] ls.flatten):=by
 unfold aa1;rw [I7 (L:=vT ls) ls.length (fun i m=>m=putMs [] (ls.take i).flatten) (fun _ _=>some (putMs [] ls.flatten)) (by omega) (fun go i m hi hm hgo=>?_) (fun go m hm=>?_) (by simp [putMs])]
 ·show bP ls go i m=_;unfold bP;subst hm;rw [if_pos (by omega),v6 hi,i7];have hli:=hl _ (List.getElem_mem hi);rw [I7 (L:=vU (i:Int) go ls[i]) ls[i].length (fun j m=>m=putMs [] ((ls.take i).flatten++ls[i].take j)) (fun _ _=>some (putMs [] ls.flatten)) (by omega) (fun go2 j m hj hm hgo2=>?_) (fun go2 m hm=>?_) (by simp)]
  ·show bQ (i:Int) go ls[i] go2 j m=_;unfold bQ;subst hm;rw [if_pos (by omega),v6 hj,i7,q8 (by omega)];refine hgo2 _ ?_;rw [List.take_add_one,List.getElem?_eq_getElem hj,← List.append_assoc];exact (putMs_app [] _ [ls[i][j]]).symm
  ·show bQ (i:Int) go ls[i] go2 _ m=_;unfold bQ;subst hm;rw [if_neg (by omega),q8 (by omega)];refine hgo _ ?_;rw [List.take_add_one,List.getElem?_eq_getElem hi,List.take_length,List.flatten_append];simp
 ·show bP ls go _ m=_;unfold bP;subst hm;rw [if_neg (by omega),List.take_length]
def addU (o:List Int)(n:Int):List Int:=if o.contains n=true then o else o++[n]
def boxOne (c:PC)(o:List Int):List Int:=if c.kind=4 then addU o c.number else if c.kind=9 then c.params.foldl addU o else o
mutual
def boxd:PC→List Int→List Int
 |.mk k n p d ks,o=>boxds ks (boxOne (.mk k n p d ks) o)
def boxds:List PC→List Int→List Int
 | [],o=>o
 |c::r,o=>boxds r (boxd c o)
end
theorem boxd_eq (c:PC)(o:List Int):boxd c o=boxds c.kids (boxOne c o):=by cases c;rw [boxd];rfl
theorem addU_len (o:List Int)(n:Int):(addU o n).length≤o.length+1:=by unfold addU;split<;>simp
theorem nP:∀(p o:List Int),(p.foldl addU o).length≤o.length+p.length
 | [],o=>by simp
 |x::r,o=>by
  have h1:=addU_len o x;have h2:=nP r (addU o x);simp only [List.foldl_cons,List.length_cons];omega
theorem ai3 (c:PC)(o:List Int):(boxOne c o).length≤o.length+1+c.params.length:=by
 unfold boxOne;have h1:=addU_len o c.number;have h2:=nP c.params o;split
 ·omega
 ·split<;>omega
theorem al0:(∀ (c:PC) (o:List Int),(boxd c o).length≤o.length+1+2 * wK c)∧∀(ds:List PC) (o:List Int),(boxds ds o).length≤o.length+2 * wKs ds:=by
 refine ind (fun ds h=>?_) (fun c h=>?_)
 ·induction ds with
  |nil=>intro o;simp [boxds]
  |cons x r ih=>
   intro o;have h1:=h x (by simp) o;have h2:=ih (fun y hy=>h y (by simp [hy])) (boxd x o);unfold boxds wKs;omega
 ·intro o;have h1:=ai3 c o;have h2:=h (boxOne c o);rw [boxd_eq,mX];omega
theorem xI:∀(n:Nat) (c:PC) (o:List Int),c.cnt<n→c.nice→o.length+1+2 * wK c≤1000000000→t9 n c o=some (boxd c o)
 |0,c,_,h,_,_=>by omega
 |n+1,c,o,h,hc,hl=>by
  show gT (t9 n) c o=_;have hc':=(U2 c).1 hc;have hw:=mX c;have hk:∀ o2:List Int,o2.length+2 * wKs c.kids≤1000000000→itr (iY (t9 n) c) LF (0,o2)=some (boxds c.kids o2):=fun o2 h2=>by
   rw [I7 (L:=iY (t9 n) c) c.kids.length (fun i a=>a.length+2 * wKs (c.kids.drop i)≤1000000000) (fun i a=>some (boxds (c.kids.drop i) a)) (by omega) (fun go i a hi ha hgo=>?_) (fun go a ha=>?_) (by simpa using h2)]
   ·rw [List.drop_zero]
   ·show X5 (t9 n) c go i a=_;unfold X5;rw [ar3 hi]at ha;have hb:=al0.1 c.kids[i] a;rw [if_pos (by omega),v6 hi,i7,xI n _ a (by have:=dI hi;omega) (bJ hc (List.getElem_mem hi)) (by omega),i7,q8 (by omega),hgo _ (by omega),List.drop_eq_getElem_cons hi,boxds]
   ·show X5 (t9 n) c go _ a=_;unfold X5;rw [if_neg (by omega),List.drop_length,boxds]
  have hp:∀ o2:List Int,o2.length+c.params.length+2 * wKs c.kids≤1000000000→aP (t9 n) c o2=some (boxds c.kids (if c.kind=9 then c.params.foldl addU o2 else o2)):=fun o2 h2=>by
   unfold aP;by_cases h9:c.kind=9
   ·rw [if_pos h9];rw [I7 (L:=eO (t9 n) c) c.params.length (fun i a=>a=(c.params.take i).foldl addU o2) (fun _ _=>some (boxds c.kids (c.params.foldl addU o2))) (by omega) (a:=o2) (fun go i a hi ha hgo=>?_) (fun go a ha=>?_) rfl]
    ·show O4 (t9 n) c go i a=_;unfold O4 W1 cJ;have hal:=nP (c.params.take i) o2;rw [← ha,List.length_take]at hal;have hstep:(c.params.take (i+1)).foldl addU o2=addU a c.params[i]:=by
      rw [List.take_add_one,List.getElem?_eq_getElem hi,List.foldl_append,← ha];rfl
     rw [if_pos (by omega),decide_eq_true h9,if_pos rfl,v6 hi,i7,L4 _ _ (by omega),i7];have hg:=hgo _ hstep.symm;unfold addU at hg;by_cases hs:a.contains c.params[i]=true
     ·rw [if_pos hs]at hg;rw [if_pos hs,q8 (by omega)];exact hg
     ·rw [if_neg hs]at hg;rw [if_neg hs,i7,q8 (by simp;omega),q8 (by omega)];exact hg
    ·show O4 (t9 n) c go _ a=_;unfold O4 W1;have hal:=nP c.params o2;rw [List.take_length]at ha;rw [if_neg (by omega),if_neg (by decide),ha];exact hk _ (by omega)
   ·rw [if_neg h9];have h0:∀ go,eO (t9 n) c go (0,o2)=some (boxds c.kids o2):=fun go=>by
     show O4 (t9 n) c go 0 o2=_;unfold O4 W1;rw [decide_eq_false h9];split<;>exact hk _ (by omega)
    exact tX (L:=eO (t9 n) c) (fun _=>some (boxds c.kids o2)) (fun v=>v=(0,o2)) (fun _=>0) (fun go v hv _=>by rw [hv];exact h0 go) _ rfl (by omega)
  unfold gT cI;rw [boxd_eq];unfold boxOne;by_cases h4:c.kind=4
  ·rw [if_pos h4,if_pos h4,L4 _ _ (by omega),i7];unfold addU;have h9:¬ c.kind=9:=by omega
   cases o.contains c.number
   ·rw [if_pos (show (!false)=true from rfl),if_neg (show ¬ false=true by decide),q8 (by simp;omega),hp _ (by simp;omega),if_neg h9]
   ·rw [if_neg (show ¬ (!true)=true by decide),if_pos (show true=true from rfl),hp _ (by omega),if_neg h9]
  ·rw [if_neg h4,if_neg h4,if_neg (by decide),hp _ (by omega)]
theorem rX (c:PC)(hc:c.nice)(hcc:c.cnt≤1048576)(hw:wK c≤40000000):Y3 c=some (boxd c []):=by
 unfold Y3;rw [xI RF c [] (RF_cntK (by omega)) hc (by simp;omega),i7]
theorem add_ok {l:List Int}{s:Option (List (Int×Int))}(h:seenOK s l)(hl:l.length≤1000000000000)(x:Int):∃ s2,I5 l s x=some (addU l x,s2)∧seenOK s2 (addU l x):=M3 h hl x
theorem iS:∀(n:Nat) (c:PC) (o:List Int) (s:Option (List (Int×Int))),c.cnt<n→c.nice→seenOK s o→o.length+1+2 * wK c≤1000000000→∃ r,v8 n c o s=some r∧(r.1=boxd c o∧seenOK r.2 r.1)
 |0,c,_,_,h,_,_,_=>by omega
 |n+1,c,o,s,h,hc,hs,hl=>by
  show ∃ r,fU (v8 n) c o s=some r∧_;have hc':=(U2 c).1 hc;have hw:=mX c;have hk:∀(o2:List Int) (s2:Option (List (Int×Int))),boxds c.kids o2=boxd c o→seenOK s2 o2→o2.length+2 * wKs c.kids≤1000000000→∃ r,W0 (v8 n) c o2 s2=some r∧(r.1=boxd c o∧seenOK r.2 r.1):=fun o2 s2 g1 g2 g3=>by
   unfold W0;refine aa7 (L:=nY (v8 n) c) c.kids.length (fun i v=>boxds (c.kids.drop i) v.1=boxd c o∧seenOK v.2 v.1∧v.1.length+2 * wKs (c.kids.drop i)≤1000000000) _ (by omega) (fun go i v hi hv hgo=>?_) (fun go v hv=>?_) ⟨by simpa using g1,g2,by simpa using g3⟩
   ·obtain ⟨l,s3⟩:=v;obtain ⟨q1,q2,q3⟩:=hv;show ∃ r,W5 (v8 n) c go i l s3=some r∧_;unfold W5;simp only at q1 q2 q3;rw [ar3 hi]at q3;rw [List.drop_eq_getElem_cons hi,boxds]at q1;have hb:=al0.1 c.kids[i] l;obtain ⟨r,e1,e2,e3⟩:=iS n c.kids[i] l s3 (by have:=dI hi;omega) (bJ hc (List.getElem_mem hi)) q2 (by omega);rw [if_pos (by omega),v6 hi,i7,e1,i7,q8 (by omega)];refine hgo (r.1,r.2) ⟨by show boxds _ r.1=_;rw [e2];exact q1,e3,by show r.1.length+_≤_;rw [e2];omega⟩
   ·obtain ⟨l,s3⟩:=v;obtain ⟨q1,q2,q3⟩:=hv;show ∃ r,W5 (v8 n) c go _ l s3=some r∧_;unfold W5;rw [if_neg (by omega)];rw [List.drop_length,boxds]at q1;exact ⟨_,rfl,q1,q2⟩
  have hbo:=ai3 c o;have he:=boxd_eq c o;unfold boxOne at he hbo;unfold fU;by_cases h4:c.kind=4
  ·rw [if_pos h4]at he hbo ⊢;obtain ⟨s2,e1,e2⟩:=add_ok hs (by omega) c.number;rw [e1,i7];exact hk _ s2 he.symm e2 (by show(addU o c.number).length+_≤_;omega)
  ·rw [if_neg h4]at he hbo ⊢;by_cases h9:c.kind=9
   ·rw [if_pos h9]at he hbo ⊢;refine aa7 (L:=nZ (v8 n) c) c.params.length (fun i v=>v.1=(c.params.take i).foldl addU o∧seenOK v.2 v.1) _ (by omega) (fun go i v hi hv hgo=>?_) (fun go v hv=>?_) ⟨rfl,hs⟩
    ·obtain ⟨l,s3⟩:=v;obtain ⟨q1,q2⟩:=hv;show ∃ r,W6 (v8 n) c go i l s3=some r∧_;unfold W6;simp only at q1 q2;have hal:=nP (c.params.take i) o;rw [← q1,List.length_take]at hal;obtain ⟨s2,e1,e2⟩:=add_ok q2 (by omega) c.params[i];rw [if_pos (by omega),v6 hi,i7,e1,i7,q8 (by omega)];refine hgo (addU l c.params[i],s2) ⟨?_,e2⟩;show addU l _=_;rw [List.take_add_one,List.getElem?_eq_getElem hi,List.foldl_append,← q1];rfl
    ·obtain ⟨l,s3⟩:=v;obtain ⟨q1,q2⟩:=hv;show ∃ r,W6 (v8 n) c go _ l s3=some r∧_;unfold W6;simp only at q1 q2;rw [List.take_length]at q1;rw [if_neg (by omega)];exact hk l s3 (by rw [q1];exact he.symm) q2 (by rw [q1];omega)
   ·rw [if_neg h9]at he hbo ⊢;exact hk o s he.symm hs (by omega)
theorem rD (c:PC)(hc:c.nice)(hcc:c.cnt≤1048576)(hw:wK c≤40000000):X8 c=some (boxd c []):=by
 unfold X8;obtain ⟨r,e1,e2,e3⟩:=iS RF c [] none (RF_cntK (by omega)) hc zU (by simp;omega);rw [e1,i7,e2]
end Go.Abs

namespace Go.Abs
open PC
def lkN (l:List Int)(x:Int):Nat→Int
 |0=> -1
 |k+1=>if l.getD k 0=x then(k:Int)else lkN l x k
def lk (l:List Int)(x:Int):Int:=lkN l x l.length
theorem lkN_app (l r:List Int)(x:Int):∀ k,k≤l.length→lkN (l++r) x k=lkN l x k
 |0,_=>rfl
 |k+1,h=>by
  unfold lkN;rw [lkN_app l r x k (by omega)];have e:(l++r).getD k 0=l.getD k 0:=by simp [List.getD,List.getElem?_append_left (show k<l.length by omega)]
  rw [e]
theorem lk_app (l:List Int)(y x:Int):lk (l++[y]) x=if y=x then(l.length:Int)else lk l x:=by
 unfold lk;rw [List.length_append];have e:(l++[y]).getD l.length 0=y:=by simp [List.getD]
 show(if (l++[y]).getD l.length 0=x then(l.length:Int)else lkN (l++[y]) x l.length)=_;rw [e,lkN_app l [y] x l.length (Nat.le_refl _)]
theorem lkN_mem (l:List Int)(x:Int):∀ k,k≤l.length→(0≤lkN l x k↔x∈l.take k)
 |0,_=>by unfold lkN;simp
 |k+1,h=>by
  have ih:=lkN_mem l x k (by omega);have hk:k<l.length:=by omega
  have e:l.getD k 0=l[k]:=by simp [List.getD,List.getElem?_eq_getElem hk]
  unfold lkN;rw [← List.take_append_getElem hk,List.mem_append,e];by_cases hx:l[k]=x
  ·rw [if_pos hx];simp [hx]
  ·rw [if_neg hx,ih];constructor
   ·exact .inl
   ·rintro (h|h)
    ·exact h
    ·simp at h;exact absurd h.symm hx
theorem lk_mem (l:List Int)(x:Int):0≤lk l x↔x∈l:=by
 unfold lk;rw [lkN_mem l x l.length (Nat.le_refl _),List.take_length]
theorem ad6 (l:List Int)(x:Int)(h:l.length≤1000000000000):jA l x=some (lk l x):=by
 unfold jA lk;rw [q8 (show -9223372036854775808≤(l.length:Int)-1∧(l.length:Int)-1≤9223372036854775807 by omega)];refine (tX (L:=sJ l x) (fun v=>some (lkN l x (v+1).toNat)) (fun v=> -1≤v∧v<l.length) (fun v=>(v+1).toNat) (fun go v hv hgo=>?_) ((l.length:Int)-1) (by omega) (by omega)).trans ?_
 ·show eP l x go v=_;unfold eP;by_cases h0:v≥0
  ·obtain ⟨i,rfl⟩:=Int.eq_ofNat_of_zero_le h0;have hi:i<l.length:=by omega
   have e:((i:Int)+1).toNat=i+1:=by omega
   have e2:l.getD i 0=l[i]:=by simp [List.getD,List.getElem?_eq_getElem hi]
   rw [if_pos h0,v6 hi,i7,e];unfold lkN;rw [e2];by_cases hx:l[i]=x
   ·rw [if_pos hx,if_pos hx]
   ·rw [if_neg hx,if_neg hx,q8 (show -9223372036854775808≤(i:Int)-1∧(i:Int)-1≤9223372036854775807 by omega),hgo _ (by omega) (by omega)];have e3:((i:Int)-1+1).toNat=i:=by omega
    rw [e3]
  ·have e:(v+1).toNat=0:=by omega
   rw [if_neg h0,e];rfl
 ·show some (lkN l x ((l.length:Int)-1+1).toNat)=_;have e:((l.length:Int)-1+1).toNat=l.length:=by omega
  rw [e]
def SlotM (sl:List Int)(m:List (Int×Int)):Prop:=∀ v,mlook m v=if 0≤lk sl v then some (lk sl v)else none
theorem uU:SlotM [] []:=fun v=>rfl
theorem uV {sl:List Int}{m:List (Int×Int)}(h:SlotM sl m)(n:Int):SlotM (sl++[n]) (mput m n (sl.length:Int)):=fun v=>by
 rw [vZ,lk_app];by_cases e:v=n
 ·subst e;rw [if_pos rfl,if_pos rfl,if_pos (by omega)]
 ·have e2:¬ n=v:=fun e2=>e e2.symm;rw [if_neg e,if_neg e2];exact h v
theorem slotM_has {sl:List Int}{m:List (Int×Int)}(h:SlotM sl m)(v:Int):(mhas m v=true↔0≤lk sl v)∧(0≤lk sl v→mget m v=lk sl v):=by
 unfold mhas mget;rw [h v];by_cases e:0≤lk sl v
 ·rw [if_pos e];simp [e]
 ·rw [if_neg e];simp [e]
def BoxM (bx:List Int)(m:List (Int×Int)):Prop:=∀ v,mget m v=1↔bx.contains v=true
mutual
def fvc (v:Int):PC→Prop
 |.mk k n p d ks=>(named (.mk k n p d ks)=true∧n=v)∨(v∉p∧fvs v ks)
def fvs (v:Int):List PC→Prop
 | []=>False
 |c::r=>fvc v c∨fvs v r
end
theorem fvc_eq (v:Int)(c:PC):fvc v c=((named c=true∧c.number=v)∨(v∉c.params∧fvs v c.kids)):=by cases c;rw [fvc];rfl
theorem fvs_mem {v:Int}{x:PC}:∀{ds:List PC},x∈ds→fvc v x→fvs v ds
 |_::_,h,hf=>by
  rw [fvs];rcases List.mem_cons.1 h with rfl|h
  ·exact .inl hf
  ·exact .inr (fvs_mem h hf)
theorem mem_freeOne (c:PC)(b o:List Int)(v:Int):v∈freeOne c b o↔v∈o∨(v∉b∧named c=true∧c.number=v):=by
 unfold freeOne;split
 ·rename_i h;simp only [Bool.and_eq_true,Bool.not_eq_true',List.contains_eq_mem,decide_eq_false_iff_not]at h;rw [List.mem_append,List.mem_singleton];constructor
  ·rintro (h1|rfl)
   ·exact .inl h1
   ·exact .inr ⟨h.2.1,h.1,rfl⟩
  ·rintro (h1|⟨_,_,h1⟩)
   ·exact .inl h1
   ·exact .inr h1.symm
 ·rename_i h;simp only [Bool.and_eq_true,Bool.not_eq_true',List.contains_eq_mem,decide_eq_false_iff_not]at h;constructor
  ·exact .inl
  ·rintro (h1|⟨h1,h2,rfl⟩)
   ·exact h1
   ·by_cases h3:c.number∈o
    ·exact h3
    ·exact absurd ⟨h2,h1,h3⟩ h
theorem mem_free:(∀ (c:PC) (b o:List Int) (v:Int),v∈free c b o↔v∈o∨(v∉b∧fvc v c))∧∀(ds:List PC) (b o:List Int) (v:Int),v∈frees ds b o↔v∈o∨(v∉b∧fvs v ds):=by
 refine ind (fun ds h=>?_) (fun c h=>?_)
 ·induction ds with
  |nil=>intro b o v;rw [frees,fvs];simp
  |cons x r ih=>
   intro b o v;rw [frees,ih (fun y hy=>h y (by simp [hy])),h x (by simp),fvs];constructor
   ·rintro ((h1|h1)|h1)
    ·exact .inl h1
    ·exact .inr ⟨h1.1,.inl h1.2⟩
    ·exact .inr ⟨h1.1,.inr h1.2⟩
   ·rintro (h1|⟨h1,h2|h2⟩)
    ·exact .inl (.inl h1)
    ·exact .inl (.inr ⟨h1,h2⟩)
    ·exact .inr ⟨h1,h2⟩
 ·intro b o v;rw [jG,h,mem_freeOne,fvc_eq,List.mem_append];constructor
  ·rintro ((h1|⟨h1,h2⟩)|⟨h1,h2⟩)
   ·exact .inl h1
   ·exact .inr ⟨h1,.inl h2⟩
   ·exact .inr ⟨fun e=>h1 (.inl e),.inr ⟨fun e=>h1 (.inr e),h2⟩⟩
  ·rintro (h1|⟨h1,h2|⟨h2,h3⟩⟩)
   ·exact .inl (.inl h1)
   ·exact .inl (.inr ⟨h1,h2⟩)
   ·exact .inr ⟨fun e=>e.elim h1 h2,h3⟩
theorem al7 (c:PC){b b':List Int}(h:∀ x,b.contains x=b'.contains x)(o:List Int):freeOne c b o=freeOne c b' o:=by unfold freeOne;rw [h]
theorem free_congr:(∀ (c:PC) (b b' o:List Int),(∀ x,b.contains x=b'.contains x)→free c b o=free c b' o)∧∀(ds:List PC) (b b' o:List Int),(∀ x,b.contains x=b'.contains x)→frees ds b o=frees ds b' o:=by
 refine ind (fun ds h=>?_) (fun c h=>?_)
 ·induction ds with
  |nil=>intro b b' o _;rfl
  |cons x r ih=>
   intro b b' o hb;rw [frees,frees,h x (by simp) b b' o hb,ih (fun y hy=>h y (by simp [hy])) b b' _ hb]
 ·intro b b' o hb;rw [jG,jG,al7 c hb,h];intro x;have:=hb x;simp only [List.contains_eq_mem,List.mem_append]at this ⊢;simp only [decide_eq_decide]at this ⊢;rw [this]
theorem free_filter (P:List Int):(∀ (c:PC) (b o:List Int),(free c b o).filter (fun x=>!P.contains x)=free c (b++P) (o.filter fun x=>!P.contains x))∧∀(ds:List PC) (b o:List Int),(frees ds b o).filter (fun x=>!P.contains x)=frees ds (b++P) (o.filter fun x=>!P.contains x):=by
 refine ind (fun ds h=>?_) (fun c h=>?_)
 ·induction ds with
  |nil=>intro b o;rfl
  |cons x r ih=>
   intro b o;rw [frees,frees,ih (fun y hy=>h y (by simp [hy])),h x (by simp)]
 ·intro b o;rw [jG,jG,h];have e:(freeOne c b o).filter (fun x=>!P.contains x)=freeOne c (b++P) (o.filter fun x=>!P.contains x):=by
   unfold freeOne;by_cases hP:P.contains c.number=true
   ·have h1:(b++P).contains c.number=true:=by simp only [List.contains_eq_mem,List.mem_append,decide_eq_true_eq]at hP ⊢;exact .inr hP
    rw [h1];simp only [Bool.not_true,Bool.false_and,Bool.and_false,Bool.false_eq_true,if_false];split
    ·rw [List.filter_append];simp [hP];simpa using hP
    ·rfl
   ·have hP':P.contains c.number=false:=by simpa using hP
    have h1:(b++P).contains c.number=b.contains c.number:=by
     simp only [List.contains_eq_mem,List.mem_append,decide_eq_false_iff_not]at hP' ⊢;simp [hP']
    have h2:(o.filter fun x=>!P.contains x).contains c.number=o.contains c.number:=by
     simp only [List.contains_eq_mem,List.mem_filter];have:¬ c.number∈P:=by simpa using hP'
     simp [this]
    rw [h1,h2];split
    ·rw [List.filter_append];simp;simpa using hP'
    ·rfl
  rw [e];refine free_congr.2 _ _ _ _ fun x=>?_;simp only [List.contains_eq_mem,List.mem_append,decide_eq_decide];constructor
  ·rintro ((h|h)|h)
   ·exact .inl (.inl h)
   ·exact .inr h
   ·exact .inl (.inr h)
  ·rintro ((h|h)|h)
   ·exact .inl (.inl h)
   ·exact .inr h
   ·exact .inl (.inr h)
theorem pZ {σ R:Type}(L:(σ→Option R)→σ→Option R)(v:σ):∃ go,itr L LF v=L go v∧go=itr L (LF-1):=by
 have e:LF=(LF-1)+1:=by rw [LF_eq]
 have h:itr L LF v=L (itr L (LF-1)) v:=by
  conv=>lhs;rw [e]
  rfl
 exact⟨itr L (LF-1),h,rfl⟩
theorem two_step {A B RS RI:Type}{Ls:(Int×A→Option RS)→Int×A→Option RS}{Li:(Int×B→Option RI)→Int×B→Option RI}(N:Nat)(I:Nat→A→B→Prop)
 (step:∀(i:Nat) a b,i<N→I i a b→∃ a' b',I (i+1) a' b'∧(∀ go,Ls go ((i:Int),a)=go ((i:Int)+1,a'))∧(∀ go,Li go ((i:Int),b)=go ((i:Int)+1,b'))):
 ∀(k M1 M2 i:Nat) (a:A) (b:B),i+k=N→k<M1→k<M2→I i a b→∃ a' b',I N a' b'∧(∃ go,itr Ls M1 ((i:Int),a)=Ls go ((N:Int),a'))∧(∃ go,itr Li M2 ((i:Int),b)=Li go ((N:Int),b'))
 |0,M1,M2,i,a,b,hk,h1,h2,hI=>by
  obtain⟨M1,rfl⟩:∃ m,M1=m+1:=⟨M1-1,by omega⟩
  obtain⟨M2,rfl⟩:∃ m,M2=m+1:=⟨M2-1,by omega⟩
  obtain rfl:i=N:=by omega
  exact⟨a,b,hI,⟨_,rfl⟩,⟨_,rfl⟩⟩
 |k+1,M1,M2,i,a,b,hk,h1,h2,hI=>by
  obtain⟨M1,rfl⟩:∃ m,M1=m+1:=⟨M1-1,by omega⟩
  obtain⟨M2,rfl⟩:∃ m,M2=m+1:=⟨M2-1,by omega⟩
  obtain⟨a',b',g1,g2,g3⟩:=step i a b (by omega) hI;obtain ⟨a2,b2,f1,f2,f3⟩:=two_step N I step k M1 M2 (i+1) a' b' (by omega) (by omega) (by omega) g1;refine ⟨a2,b2,f1,?_,?_⟩
  ·obtain ⟨go,h⟩:=f2;exact ⟨go,((show itr Ls (M1+1) ((i:Int),a)=Ls (itr Ls M1) ((i:Int),a)from rfl).trans (g2 _)).trans (by simpa using h)⟩
  ·obtain ⟨go,h⟩:=f3;exact ⟨go,((show itr Li (M2+1) ((i:Int),b)=Li (itr Li M2) ((i:Int),b)from rfl).trans (g3 _)).trans (by simpa using h)⟩
theorem kY {A B RS RI:Type}{Ls:(Int×A→Option RS)→Int×A→Option RS}{Li:(Int×B→Option RI)→Int×B→Option RI}(N:Nat)(hN:N≤1000000000000)(I:Nat→A→B→Prop)(a:A)(b:B)(h0:I 0 a b)
 (step:∀(i:Nat) a b,i<N→I i a b→∃ a' b',I (i+1) a' b'∧(∀ go,Ls go ((i:Int),a)=go ((i:Int)+1,a'))∧(∀ go,Li go ((i:Int),b)=go ((i:Int)+1,b'))):
 ∃ a' b',I N a' b'∧(∃ go,itr Ls LF (0,a)=Ls go ((N:Int),a'))∧(∃ go,itr Li LF (0,b)=Li go ((N:Int),b')):=
 two_step N I step N LF LF 0 a b (by omega) (by rw [LF_eq];omega) (by rw [LF_eq];omega) h0
end Go.Abs

namespace Go.Abs
open PC
def zD:PD:=PD.mk 0 0 ([]:List UInt8) []
def emI (is:List dy)(op a:Int):List dy:=is++[dy.mk op a zD]
theorem W2 (is:List dy)(op a:Int):(emI is op a).length=is.length+1:=by unfold emI;simp
theorem R2 (cs:List dz)(main:Int)(bm sm cm:List (Int×Int))(p sN cp:Int)(is:List dy)(op a:Int)(h:is.length≤1000000):C7 cs main bm sm cm p sN cp is op a=some (sm,p,sN,cp,emI is op a,cs,main):=by
 unfold C7;rw [q8 (by simp;omega)];rfl
theorem Z6 (p sN cp:Int)(is:List dy)(sl cap bx:List Int)(op a:Int)(h:is.length≤1000000):M5 p sN cp is sl cap bx op a=some ((is.length:Int),p,sN,cp,emI is op a,sl):=by
 unfold M5;have e:(((is++([(dy.mk op a (PD.mk 0 0 ([]:List UInt8) []))]:List dy)).length:Nat):Int)-1=(is.length:Int):=by simp
 rw [q8 (by simp;omega),e,q8 (show -9223372036854775808≤(is.length:Int)∧(is.length:Int)≤9223372036854775807 by omega)];rfl
theorem mem_lk {l:List Int}{v:Int}(h:v∈l):0≤lk l v:=(lk_mem l v).2 h
def plO (sl:List Int)(v l c:Int):Int:=if 0≤lk sl v then l else c
def plA (sl cap:List Int)(v:Int):Int:=if 0≤lk sl v then lk sl v else lk cap v
theorem pY (cs:List dz)(main:Int)(bm sm cm:List (Int×Int))(p sN cp:Int)(is:List dy)(sl cap:List Int)(v l c:Int)(hs:SlotM sl sm)(hc:SlotM cap cm)(hv:v∈sl∨v∈cap)(h:is.length≤1000000):
 R5 cs main bm sm cm p sN cp is v l c=some (sm,p,sN,cp,emI is (plO sl v l c) (plA sl cap v),cs,main):=by
 unfold R5 plO plA;obtain ⟨h1,h2⟩:=slotM_has hs v;by_cases e:0≤lk sl v
 ·rw [if_pos (h1.2 e),R2 _ _ _ _ _ _ _ _ _ _ _ h,i7,if_pos e,if_pos e,h2 e]
 ·have hm:v∈cap:=hv.resolve_left fun hh=>e (mem_lk hh);rw [if_neg (fun hh=>e (h1.1 hh)),R2 _ _ _ _ _ _ _ _ _ _ _ h,i7,if_neg e,if_neg e,(slotM_has hc v).2 (mem_lk hm)]
theorem rZ (p sN cp:Int)(is:List dy)(sl cap bx:List Int)(v l c:Int)(hs:sl.length≤1000000)(hc:cap.length≤1000000)(h:is.length≤1000000):
 dL p sN cp is sl cap bx v l c=some (p,sN,cp,emI is (plO sl v l c) (plA sl cap v),sl):=by
 unfold dL plO plA;rw [ad6 _ _ (by omega),i7];by_cases e:0≤lk sl v
 ·rw [if_pos (show lk sl v≥0 from e),Z6 _ _ _ _ _ _ _ _ _ h,i7,if_pos e,if_pos e]
 ·rw [if_neg (show ¬ lk sl v≥0 from e),ad6 _ _ (by omega),i7,Z6 _ _ _ _ _ _ _ _ _ h,i7,if_neg e,if_neg e]
theorem s_raw_eq (p sN cp:Int)(is:List dy)(sl cap bx:List Int)(v:Int)(hs:sl.length≤1000000)(hc:cap.length≤1000000)(h:is.length≤1000000):
 uO p sN cp is sl cap bx v=some (p,sN,cp,emI is (plO sl v 3 4) (plA sl cap v),sl):=rZ p sN cp is sl cap bx v 3 4 hs hc h
def G (cs:List dz)(is:List dy):Prop:=(∀ c∈cs,c.instrs.length≤800000∧∀ x∈c.instrs,x.d.small)∧∀ x∈is,x.d.small
theorem zD_small:zD.small:=aq9 (by show wD zD≤_;simp [zD,wD,wDs])
theorem wI_zD (op a:Int):wI (dy.mk op a zD)=0:=by show wD zD=0;simp [zD,wD,wDs]
theorem g_emI {cs:List dz}{is:List dy}(h:G cs is)(op a:Int):G cs (emI is op a):=⟨h.1,fun x hx=>by
 unfold emI at hx;rcases List.mem_append.1 hx with hx|hx
 ·exact h.2 x hx
 ·rw [List.mem_singleton]at hx;subst hx;exact zD_small⟩
structure OkC (cs:List dz) (is:List dy) (sl:List Int) (k w:Nat) (cs':List dz) (is':List dy) (sl':List Int) (sm':List (Int×Int)):Prop where
 slot:SlotM sl' sm'
 good:G cs' is'
 i1:is.length≤is'.length
 i2:is'.length≤is.length+k
 c2:cs'.length≤cs.length+k
 s2:sl'.length≤sl.length+k
 sub:∀ v∈sl,v∈sl'
 wt:wts wC cs'+wts wI is'≤wts wC cs+wts wI is+100 * k+w
theorem OkC.refl {cs:List dz}{is:List dy}{sl:List Int}{sm:List (Int×Int)}(hs:SlotM sl sm)(hg:G cs is):OkC cs is sl 0 0 cs is sl sm:=
 ⟨hs,hg,Nat.le_refl _,by omega,by omega,by omega,fun _ h=>h,by omega⟩
theorem OkC.trans {cs cs1 cs2:List dz}{is is1 is2:List dy}{sl sl1 sl2:List Int}{k1 k2 w1 w2:Nat}{sm1 sm2:List (Int×Int)}(a:OkC cs is sl k1 w1 cs1 is1 sl1 sm1)(b:OkC cs1 is1 sl1 k2 w2 cs2 is2 sl2 sm2):OkC cs is sl (k1+k2) (w1+w2) cs2 is2 sl2 sm2:=
 ⟨b.slot,b.good,Nat.le_trans a.i1 b.i1,by have:=a.i2;have:=b.i2;omega,by have:=a.c2;have:=b.c2;omega,by have:=a.s2;have:=b.s2;omega,fun v h=>b.sub v (a.sub v h),by have:=a.wt;have:=b.wt;omega⟩
theorem OkC.weak {cs cs1:List dz}{is is1:List dy}{sl sl1:List Int}{k1 k2 w1 w2:Nat}{sm1:List (Int×Int)}(a:OkC cs is sl k1 w1 cs1 is1 sl1 sm1)(hk:k1≤k2)(hw:w1≤w2):OkC cs is sl k2 w2 cs1 is1 sl1 sm1:=
 ⟨a.slot,a.good,a.i1,by have:=a.i2;omega,by have:=a.c2;omega,by have:=a.s2;omega,a.sub,by have:=a.wt;omega⟩
theorem sT {α:Type}(f:α→Nat)(a:List α)(x:α):wts f (a++[x])=wts f a+1+f x:=by
 induction a with
 |nil=>rw [List.nil_append,dC];simp [wts,wsum]<;>omega
 |cons y r ih=>rw [List.cons_append,dC,dC,ih];omega
theorem OkC.emit {cs:List dz}{is:List dy}{sl:List Int}{sm:List (Int×Int)}(hs:SlotM sl sm)(hg:G cs is)(op a:Int):OkC cs is sl 1 0 cs (emI is op a) sl sm:=
 ⟨hs,g_emI hg op a,by rw [W2];omega,by rw [W2];omega,by omega,by omega,fun _ h=>h,by unfold emI;rw [sT,wI_zD];omega⟩
theorem OkC.datum {cs:List dz}{is:List dy}{sl:List Int}{sm:List (Int×Int)}(hs:SlotM sl sm)(hg:G cs is)(op a:Int){d:PD}(hd:d.small):OkC cs is sl 1 (wD d) cs (is++[dy.mk op a d]) sl sm:=
 ⟨hs,⟨hg.1,fun x hx=>by
  rcases List.mem_append.1 hx with hx|hx
  ·exact hg.2 x hx
  ·rw [List.mem_singleton]at hx;subst hx;exact hd⟩,by simp,by simp,by omega,by omega,fun _ h=>h,by
   rw [sT];have:wI (dy.mk op a d)=wD d:=rfl;omega⟩
theorem OkC.patch {cs cs1:List dz}{is is1:List dy}{sl sl1:List Int}{k w:Nat}{sm1:List (Int×Int)}(h:OkC cs is sl k w cs1 is1 sl1 sm1)(j:Nat)(hj:j<is1.length)(a:Int):OkC cs is sl k w cs1 (is1.set j (dy.mk is1[j].op a is1[j].d)) sl1 sm1:=by
 have hw:wts wI (is1.set j (dy.mk is1[j].op a is1[j].d))=wts wI is1:=by
  have key:∀(l:List dy) (j:Nat) (hj:j<l.length),wts wI (l.set j (dy.mk l[j].op a l[j].d))=wts wI l:=by
   intro l;induction l with
   |nil=>intro j hj;simp at hj
   |cons y r ih=>
    intro j hj;cases j with
    |zero=>show wts wI (dy.mk y.op a y.d::r)=_;rw [dC,dC];rfl
    |succ j=>
     have hj':j<r.length:=by simpa using hj
     have:=ih j hj';show wts wI (y::r.set j (dy.mk (r[j]'hj').op a (r[j]'hj').d))=_;rw [dC,dC,this]
  exact key is1 j hj
 exact⟨h.slot,⟨h.good.1,fun x hx=>by
  rcases List.mem_or_eq_of_mem_set hx with hx|rfl
  ·exact h.good.2 x hx
  ·exact h.good.2 is1[j] (List.getElem_mem hj)⟩,by rw [List.length_set];exact h.i1,by rw [List.length_set];exact h.i2,h.c2,h.s2,h.sub,by rw [hw];exact h.wt⟩
end Go.Abs

namespace Go.Abs
open PC
structure Pre (c:PC) (cs:List dz) (is:List dy) (sl cap:List Int) (sm cm:List (Int×Int)):Prop where
 slot:SlotM sl sm
 capt:SlotM cap cm
 sc:∀ v,fvc v c→v∈sl∨v∈cap
 good:G cs is
 li:is.length+200 * (c.cnt+1)≤800000
 lc:cs.length+200 * (c.cnt+1)≤1000000
 ls:sl.length+200 * (c.cnt+1)≤1000000
 lp:cap.length≤10000
def CB (bx:List Int)(bm:List (Int×Int))(c:PC):Prop:=
 ∀(n1 n2:Nat) (t:Bool) (cs:List dz) (is:List dy) (sl cap:List Int) (sm cm:List (Int×Int)) (p cp main:Int),8 * (c.cnt+1)≤n1→8 * (c.cnt+1)≤n2→Pre c cs is sl cap sm cm→
  ∃ cs' is' sl' sm',m7 n1 cs p 0 cp is sl cap bx c t=some (cs',p,0,cp,is',sl')∧g8 n2 cs main bm sm cm p (sl.length:Int) cp is c t=some (sm',p,(sl'.length:Int),cp,is',cs',main)∧OkC cs is sl (200 * (c.cnt+1)) (wK c) cs' is' sl' sm'
variable {bx:List Int} {bm:List (Int×Int)}
theorem sV (hB:BoxM bx bm)(hbl:bx.length≤1000000000)(v:Int):K7 bx v=some (bx.contains v):=L4 bx v (by omega)
theorem ok_slots {cs:List dz}{sl:List Int}:∀(l:List Int) (sm:List (Int×Int)),SlotM sl sm→SlotM (sl++l) (l.foldl (fun (m:List (Int×Int)×Int) n=>(mput m.1 n m.2,m.2+1)) (sm,(sl.length:Int))).1:=by
 intro l;induction l generalizing sl with
 |nil=>intro sm h;simpa using h
 |cons x r ih=>
  intro sm h;have:=ih (sl:=sl++[x]) (mput sm x sl.length) (uV h x);simpa using this
structure PreF (body:PC) (params cap:List Int) (cs:List dz):Prop where
 sc:∀ v,fvc v body→v∈params∨v∈cap
 good:G cs []
 np:params.length≤60
 nc:cap.length≤10000
 cn:body.cnt≤3000
 lc:cs.length+200 * (body.cnt+1)≤1000000
structure OkF (body:PC) (cs cs':List dz):Prop where
 good:G cs' []
 c2:cs'.length≤cs.length+200 * (body.cnt+1)+1
 wt:wts wC cs'≤wts wC cs+100 * (200 * (body.cnt+1))+wK body+100
theorem wC_mk (a b c:Int)(is:List dy):wC (dz.mk a b c is)=wts wI is:=rfl
def boxP (bx params:List Int):List dy:=params.zipIdx.foldl (fun is q=>if bx.contains q.1=true then emI is 10 (q.2:Int)else is) []
theorem boxP_take (bx params:List Int)(i:Nat)(h:i<params.length):boxP bx (params.take (i+1))=if bx.contains params[i]=true then emI (boxP bx (params.take i)) 10 (i:Int)else boxP bx (params.take i):=by
 unfold boxP;rw [← List.take_append_getElem h,List.zipIdx_append,List.foldl_append];simp only [List.zipIdx_cons,List.zipIdx_nil,List.foldl_cons,List.foldl_nil,List.length_take,Nat.zero_add,Nat.min_eq_left (Nat.le_of_lt h)]
theorem fin_core (hB:BoxM bx bm)(hbl:bx.length≤1000000000){body:PC}(hb:CB bx bm body){params cap:List Int}{cs:List dz}(h:PreF body params cap cs)(n1 n2:Nat)(h1:8 * (body.cnt+1)≤n1)(h2:8 * (body.cnt+1)≤n2)(main:Int):
 ∃(cs':List dz) (j:Int),j=(cs'.length:Int)-1∧itr (P8 (m7 n1) cs params cap bx body) LF (0,(params.length:Int),0,(cap.length:Int),params,[])=some (j,cs')∧
  (∀ sm cm,SlotM params sm→SlotM cap cm→itr (K2 (g8 n2) bm params body cm) LF (0,main,cs,(params.length:Int),(params.length:Int),(cap.length:Int),sm,[])=some (j,cs',main))∧OkF body cs cs':=by
 have hnp:=h.np;have hcn:=h.cn;have hlc:=h.lc;have hpc:I64 ((params.length:Int)):=show -9223372036854775808≤(params.length:Int)∧(params.length:Int)≤9223372036854775807 by omega
 have key:∀(sm cm:List (Int×Int)),SlotM params sm→∃ is1:List dy,(is1=boxP bx params∧G cs is1∧is1.length≤params.length∧wts wI is1=is1.length)∧
  (∃ go,itr (P8 (m7 n1) cs params cap bx body) LF (0,(params.length:Int),0,(cap.length:Int),params,[])=P8 (m7 n1) cs params cap bx body go ((params.length:Int),(params.length:Int),0,(cap.length:Int),params,is1))∧
  (∃ go,itr (K2 (g8 n2) bm params body cm) LF (0,main,cs,(params.length:Int),(params.length:Int),(cap.length:Int),sm,[])=K2 (g8 n2) bm params body cm go ((params.length:Int),main,cs,(params.length:Int),(params.length:Int),(cap.length:Int),sm,is1)):=by
  intro sm cm hsm;obtain ⟨a',b',⟨is1,ha,hb1,hg⟩,e1,e2⟩:=kY (Ls:=P8 (m7 n1) cs params cap bx body) (Li:=K2 (g8 n2) bm params body cm) params.length (by omega)
   (fun i a b=>∃ is1:List dy,a=((params.length:Int),0,(cap.length:Int),params,is1)∧b=(main,cs,(params.length:Int),(params.length:Int),(cap.length:Int),sm,is1)∧(is1=boxP bx (params.take i)∧G cs is1∧is1.length≤i∧wts wI is1=is1.length))
   ((params.length:Int),0,(cap.length:Int),params,[]) (main,cs,(params.length:Int),(params.length:Int),(cap.length:Int),sm,[]) ⟨[],rfl,rfl,rfl,h.good,Nat.le_refl _,rfl⟩
   (fun i a b hi ⟨is1,ha,hb1,hg⟩=>by
    subst ha;subst hb1;have c1:I64 ((i:Int)+1):=show -9223372036854775808≤(i:Int)+1∧(i:Int)+1≤9223372036854775807 by omega
    have hl:=hg.2.2.1;have hbt:=boxP_take bx params i hi;by_cases hbx:bx.contains params[i]=true
    ·refine ⟨_,_,⟨emI is1 10 (i:Int),rfl,rfl,by rw [hbt,if_pos hbx,hg.1],g_emI hg.2.1 _ _,by rw [W2];omega,by unfold emI;rw [sT,wI_zD,hg.2.2.2];simp⟩,fun go=>?_,fun go=>?_⟩
     ·show B9 (m7 n1) cs params cap bx body go (i:Int) _ _ _ _ _=_;unfold B9 P7;rw [if_pos (by omega),v6 hi,i7,sV hB hbl,i7,if_pos hbx,Z6 _ _ _ _ _ _ _ _ _ (by omega),i7,q8 c1]
     ·show C9 (g8 n2) bm params body cm go (i:Int) _ _ _ _ _ _ _=_;unfold C9 K1;rw [if_pos (by omega),v6 hi,i7,if_pos ((hB _).2 hbx),R2 _ _ _ _ _ _ _ _ _ _ _ (by omega),i7,q8 c1]
    ·refine ⟨_,_,⟨is1,rfl,rfl,by rw [hbt,if_neg hbx,hg.1],hg.2.1,by omega,hg.2.2.2⟩,fun go=>?_,fun go=>?_⟩
     ·show B9 (m7 n1) cs params cap bx body go (i:Int) _ _ _ _ _=_;unfold B9 P7;rw [if_pos (by omega),v6 hi,i7,sV hB hbl,i7,if_neg hbx,q8 c1]
     ·show C9 (g8 n2) bm params body cm go (i:Int) _ _ _ _ _ _ _=_;unfold C9 K1;rw [if_pos (by omega),v6 hi,i7,if_neg (fun e=>hbx ((hB _).1 e)),q8 c1])
  subst ha;subst hb1;rw [List.take_length]at hg;exact ⟨is1,hg,e1,e2⟩
 obtain⟨sm0,hsm0⟩:∃ sm0,SlotM params sm0:=⟨_,by simpa using ok_slots (cs:=cs) params [] uU⟩
 obtain⟨cm0,hcm0⟩:∃ cm0,SlotM cap cm0:=⟨_,by simpa using ok_slots (cs:=cs) cap [] uU⟩
 obtain⟨is0,hg0,⟨go0,es⟩,_⟩:=key sm0 cm0 hsm0;obtain ⟨cs',is',sl',sm',q1,_,q3⟩:=hb n1 n2 true cs is0 params cap sm0 cm0 (params.length:Int) (cap.length:Int) main h1 h2 ⟨hsm0,hcm0,h.sc,hg0.2.1,by have:=hg0.2.2.1;omega,hlc,by omega,h.nc⟩;have z1:=q3.c2;have z2:=q3.i2;have z3:=q3.s2;have z4:=hg0.2.2.1;have fit:(cs'.length+([(dz.mk (params.length:Int) (sl'.length:Int) (cap.length:Int) is')]:List dz).length) * 48≤140737488355328:=by simp;omega
 have fit2:I64 ((((cs'++([(dz.mk (params.length:Int) (sl'.length:Int) (cap.length:Int) is')]:List dz)).length:Nat):Int)-1):=by
  show -9223372036854775808≤_∧_≤9223372036854775807;rw [List.length_append,List.length_singleton];omega
 refine⟨cs'++[dz.mk (params.length:Int) (sl'.length:Int) (cap.length:Int) is'],_,rfl,?_,fun sm cm hsm hcm=>?_,⟨⟨fun c hc=>?_,fun x hx=>by cases hx⟩,?_,?_⟩⟩
 ·rw [es];show B9 (m7 n1) cs params cap bx body go0 (params.length:Int) _ _ _ _ _=_;unfold B9;rw [if_neg (by omega),q1,i7,q8 fit,q8 fit2]
 ·obtain ⟨is2,hg2,⟨_,es2⟩,⟨gi,ei⟩⟩:=key sm cm hsm;have e02:is2=is0:=by rw [hg2.1,hg0.1]
  subst e02;obtain ⟨cs2,is3,sl2,sm2,r1,r2,_⟩:=hb n1 n2 true cs is2 params cap sm cm (params.length:Int) (cap.length:Int) main h1 h2 ⟨hsm,hcm,h.sc,hg2.2.1,by have:=hg2.2.2.1;omega,hlc,by omega,h.nc⟩;rw [q1]at r1;simp only [Option.some.injEq,Prod.mk.injEq,true_and]at r1;obtain ⟨rfl,rfl,rfl⟩:=r1;rw [ei];show C9 (g8 n2) bm params body cm gi (params.length:Int) _ _ _ _ _ _ _=_;unfold C9;rw [if_neg (by omega),r2,i7,q8 fit,q8 fit2]
 ·rcases List.mem_append.1 hc with hc|hc
  ·exact q3.good.1 c hc
  ·rw [List.mem_singleton]at hc;subst hc;exact ⟨by show is'.length≤_;omega,q3.good.2⟩
 ·rw [List.length_append,List.length_singleton];omega
 ·have z5:=q3.wt;have z6:=hg0.2.2.2;rw [sT,wC_mk];omega
end Go.Abs

namespace Go.Abs
open PC
variable {bx:List Int} {bm:List (Int×Int)}
theorem ao2 {B RI:Type}{Li:(Int×B→Option RI)→Int×B→Option RI}(N:Nat)(hN:N≤1000000000000)(I:Nat→B→Prop)(b:B)(h0:I 0 b)
 (step:∀(i:Nat) b,i<N→I i b→∃ b',I (i+1) b'∧(∀ go,Li go ((i:Int),b)=go ((i:Int)+1,b'))):∃ b',I N b'∧(∃ go,itr Li LF (0,b)=Li go ((N:Int),b')):=by
 obtain⟨a',b',⟨h1,_⟩,h2,_⟩:=kY (Ls:=Li) (Li:=Li) N hN (fun i a b=>I i a∧a=b) b b ⟨h0,rfl⟩ (fun i a b hi ⟨h1,h2⟩=>by
  subst h2;obtain ⟨b',g1,g2⟩:=step i a hi h1;exact ⟨b',b',⟨g1,rfl⟩,g2,g2⟩)
 exact⟨a',h1,h2⟩
theorem s_freeA_eq (c:PC)(b:List Int)(hc:c.nice)(hb:b.length≤1000)(hw:wK c≤40000000):gU c b []=some (free c b []):=by
 unfold gU;have hc':=(U2 c).1 hc;have hwe:=mX c;have hcc:=cnt_eq c;have hcw:=qO.1 c;have hJ2:∀ o:List Int,o.length≤1→R8 c b o=some (frees c.kids (b++c.params) o):=fun o ho=>by
  unfold R8;rw [dO _ (by omega),i7,q8 (by omega),vK (L:=iZ c b) (E:=A5 RF) c (b++c.params) o hc'.2.2.1 (by omega) (fun i hi o ho=>sI RF _ _ o (RF_cntK (by have:=dI hi;omega)) (bJ hc (List.getElem_mem hi)) (by have:=sP (List.getElem_mem hi);rw [List.length_append];omega) ho) (fun go i o=>rfl)]
 have hJ1:∀ x,O7 c b [] x=some (frees c.kids (b++c.params) (if x=true then []++[c.number]else [])):=fun x=>by
  unfold O7;cases x
  ·exact hJ2 [] (by simp)
  ·rw [if_pos rfl,if_pos rfl,q8 (by simp)];exact hJ2 _ (by simp)
 rw [jB,i7,L4 _ _ (by omega),L4 _ _ (by simp),i7,i7];simp only [hJ1];rw [jG];unfold freeOne;cases named c<;>cases b.contains c.number<;>rfl
theorem fin_impl (n:Nat)(cs:List dz)(main:Int)(params cap:List Int)(body:PC)(hp:params.length≤60)(hc:cap.length≤10000):
 ∃ sm cm,SlotM params sm∧SlotM cap cm∧m5 (n+1) cs main bm params cap body=itr (K2 (g8 n) bm params body cm) LF (0,main,cs,(params.length:Int),(params.length:Int),(cap.length:Int),sm,[]):=by
 obtain⟨cm,h1,⟨go1,e1⟩⟩:=ao2 (Li:=dF (g8 n) cs main bm params cap body) cap.length (by omega) (fun i m=>SlotM (cap.take i) m) ([]:List (Int×Int)) uU (fun i m hi hm=>by
  refine⟨mput m cap[i] (i:Int),?_,fun go=>?_⟩
  ·have:=uV hm cap[i];rw [List.length_take,Nat.min_eq_left (Nat.le_of_lt hi)]at this;rw [← List.take_append_getElem hi];exact this
  ·show I0 (g8 n) cs main bm params cap body go (i:Int) m=_;unfold I0;rw [if_pos (by omega),v6 hi,i7,q8 (show -9223372036854775808≤(i:Int)+1∧(i:Int)+1≤9223372036854775807 by omega)])
 obtain⟨b2,⟨sm,hb2,h2⟩,⟨go2,e2⟩⟩:=ao2 (Li:=dG (g8 n) bm params body cm) params.length (by omega)
  (fun i b=>∃ sm,b=(main,cs,(params.length:Int),(i:Int),(cap.length:Int),sm,([]:List dy))∧SlotM (params.take i) sm) (main,cs,(params.length:Int),0,(cap.length:Int),([]:List (Int×Int)),([]:List dy)) ⟨[],rfl,uU⟩ (fun i b hi ⟨sm,hb,hm⟩=>by
  subst hb;refine ⟨_,⟨mput sm params[i] (i:Int),rfl,?_⟩,fun go=>?_⟩
  ·have:=uV hm params[i];rw [List.length_take,Nat.min_eq_left (Nat.le_of_lt hi)]at this;rw [← List.take_append_getElem hi];exact this
  ·show I1 (g8 n) bm params body cm go (i:Int) _ _ _ _ _ _ _=_;unfold I1 bZ;rw [if_pos (by omega),v6 hi,i7,q8 (show -9223372036854775808≤(i:Int)+1∧(i:Int)+1≤9223372036854775807 by omega),i7,q8 (show -9223372036854775808≤(i:Int)+1∧(i:Int)+1≤9223372036854775807 by omega)];rfl)
 subst hb2;rw [List.take_length]at h1 h2;refine ⟨sm,cm,h2,h1,?_⟩;show X9 (m5 n) (g8 n) (o3 n) (p0 n) (p8 n) cs main bm params cap body=_;unfold X9;rw [e1];show I0 (g8 n) cs main bm params cap body go1 (cap.length:Int) cm=_;unfold I0;rw [if_neg (by omega),e2];show I1 (g8 n) bm params body cm go2 (params.length:Int) _ _ _ _ _ _ _=_;unfold I1;rw [if_neg (by omega)]
theorem fin_both (hB:BoxM bx bm)(hbl:bx.length≤1000000000){body:PC}(hb:CB bx bm body){params cap:List Int}{cs:List dz}(h:PreF body params cap cs)(n1 n2:Nat)(h1:8 * (body.cnt+1)≤n1)(h2:8 * (body.cnt+1)≤n2)(main:Int):
 ∃(cs':List dz) (j:Int),j=(cs'.length:Int)-1∧r9 (n1+1) cs params cap bx body=some (j,cs')∧m5 (n2+1) cs main bm params cap body=some (j,cs',main)∧OkF body cs cs':=by
 obtain⟨cs',j,hj,e1,e2,e3⟩:=fin_core hB hbl hb h n1 n2 h1 h2 main;obtain ⟨sm,cm,g1,g2,g3⟩:=fin_impl (bm:=bm) n2 cs main params cap body h.np h.nc;refine ⟨cs',j,hj,?_,by rw [g3];exact e2 sm cm g1 g2,e3⟩;show U6 (r9 n1) (m7 n1) (u9 n1) (E5 n1) cs params cap bx body=_;unfold U6;rw [dO _ (by have:=h.np;omega),i7];exact e1
theorem taken_both (fr:List Int)(hf:fr.length≤3100)(cs:List dz)(is:List dy)(sl cap:List Int)(sm cm:List (Int×Int))(p cp main op:Int)(params:List Int)(body:PC)(sC:List dz→List Int→List Int→List Int→PC→Option (Int×List dz))
 (iF:List dz→Int→List (Int×Int)→List Int→List Int→PC→Option (Int×List dz×Int)) (hs:SlotM sl sm) (hc:SlotM cap cm) (hg:G cs is) (hv:∀ v∈fr,v∈sl∨v∈cap) (hi:is.length+fr.length≤800000) (hl:sl.length≤1000000) (hlc:cap.length≤1000000):
 ∃ is1,OkC cs is sl fr.length 0 cs is1 sl sm∧wts wI is1=wts wI is+fr.length∧(∃ go,itr (cW sC cs cap bx op params body fr) LF (0,p,0,cp,is,sl)=cW sC cs cap bx op params body fr go ((fr.length:Int),p,0,cp,is1,sl))∧
  (∃ go,itr (Q7 iF bm cm op params body fr) LF (0,p,(sl.length:Int),cp,main,cs,sm,is)=Q7 iF bm cm op params body fr go ((fr.length:Int),p,(sl.length:Int),cp,main,cs,sm,is1)):=by
 obtain⟨a',b',⟨is1,ha,hb1,hok,hw1⟩,e1,e2⟩:=kY (Ls:=cW sC cs cap bx op params body fr) (Li:=Q7 iF bm cm op params body fr) fr.length (by omega)
  (fun i a b=>∃ is1,a=(p,0,cp,is1,sl)∧b=(p,(sl.length:Int),cp,main,cs,sm,is1)∧OkC cs is sl i 0 cs is1 sl sm∧wts wI is1=wts wI is+i) (p,0,cp,is,sl) (p,(sl.length:Int),cp,main,cs,sm,is) ⟨is,rfl,rfl,OkC.refl hs hg,rfl⟩ (fun i a b hi' ⟨is1,ha,hb1,hok,hw1⟩=>by
   subst ha;subst hb1;have c1:I64 ((i:Int)+1):=show -9223372036854775808≤(i:Int)+1∧(i:Int)+1≤9223372036854775807 by omega
   have hle:=hok.i2;refine ⟨_,_,⟨emI is1 (plO sl fr[i] 3 4) (plA sl cap fr[i]),rfl,rfl,hok.trans (OkC.emit hs hok.good _ _),by unfold emI;rw [sT,wI_zD];omega⟩,fun go=>?_,fun go=>?_⟩
   ·show U7 sC cs cap bx op params body fr go (i:Int) _ _ _ _ _=_;unfold U7;rw [if_pos (by omega),v6 hi',i7,s_raw_eq _ _ _ _ _ _ _ _ hl hlc (by omega),i7,q8 c1]
   ·show K4 iF bm cm op params body fr go (i:Int) _ _ _ _ _ _ _=_;unfold K4;rw [if_pos (by omega),v6 hi',i7,pY _ _ _ _ _ _ _ _ _ _ _ _ _ _ hs hc (hv _ (List.getElem_mem hi')) (by omega),i7,q8 c1])
 subst ha;subst hb1;exact ⟨is1,hok,hw1,e1,e2⟩
theorem filter_impl (n:Nat)(cs:List dz)(main:Int)(sm cm:List (Int×Int))(p sN cp:Int)(is:List dy)(op:Int)(params:List Int)(body:PC)(hp:params.length≤1000)(hn:body.nice)(hw:wK body≤40000000)(hc:body.cnt≤3000):
 p8 (n+1) cs main bm sm cm p sN cp is op params body=itr (Q7 (m5 n) bm cm op params body (free body params [])) LF (0,p,sN,cp,main,cs,sm,is):=by
 show aF (m5 n) (g8 n) (o3 n) (p0 n) (p8 n) cs main bm sm cm p sN cp is op params body=_;unfold aF;rw [iP body hn hw,i7];have hfl:=tG.1 body [] [];simp only [List.length_nil,Nat.zero_add]at hfl;generalize hfr:free body [] []=fr at hfl;have hfin:fr.filter (fun x=>!params.contains x)=free body params []:=by
  rw [← hfr,(free_filter params).1];rfl
 obtain⟨b',h1,⟨go,e1⟩⟩:=ao2 (Li:=eY (m5 n) cs main bm sm cm p sN cp is op params body fr) fr.length (by omega) (fun i (o:List Int)=>o=(fr.take i).filter (fun x=>!params.contains x)) ([]:List Int) rfl (fun i o hi ho=>by
  have c1:I64 ((i:Int)+1):=show -9223372036854775808≤(i:Int)+1∧(i:Int)+1≤9223372036854775807 by omega
  have hol:o.length≤3100:=by
   have:=List.length_filter_le (fun x=>!params.contains x) (fr.take i);rw [← ho,List.length_take]at this;omega
  have ht:(fr.take (i+1)).filter (fun x=>!params.contains x)=o++(if params.contains fr[i]=true then []else [fr[i]]):=by
   rw [← List.take_append_getElem hi,List.filter_append,← ho];by_cases h:params.contains fr[i]=true
   ·rw [if_pos h];simp;simpa using h
   ·rw [if_neg h];simp;simpa using h
  by_cases h:params.contains fr[i]=true
  ·refine ⟨o,by rw [ht,if_pos h,List.append_nil],fun go=>?_⟩;show D8 (m5 n) cs main bm sm cm p sN cp is op params body fr go (i:Int) o=_;unfold D8 M6;rw [if_pos (by omega),v6 hi,i7,tO _ _ (by omega),i7,if_pos h,q8 c1]
  ·refine ⟨o++[fr[i]],by rw [ht,if_neg h],fun go=>?_⟩;show D8 (m5 n) cs main bm sm cm p sN cp is op params body fr go (i:Int) o=_;unfold D8 M6;rw [if_pos (by omega),v6 hi,i7,tO _ _ (by omega),i7,if_neg h,q8 (by simp;omega),q8 c1])
 rw [e1];show D8 (m5 n) cs main bm sm cm p sN cp is op params body fr go (fr.length:Int) b'=_;unfold D8;rw [List.take_length,hfin]at h1;rw [if_neg (by omega),h1]
theorem inner_both (hB:BoxM bx bm)(hbl:bx.length≤1000000000){body:PC}(hb:CB bx bm body)(n1 n2:Nat)(h1:8 * (body.cnt+1)≤n1)(h2:8 * (body.cnt+1)≤n2)(cs:List dz)(is:List dy)(sl cap:List Int)(sm cm:List (Int×Int))(p cp main op:Int)(params:List Int)
 (hs:SlotM sl sm) (hc:SlotM cap cm) (hg:G cs is) (hsc:∀ v,fvc v body→v∉params→v∈sl∨v∈cap) (hp:params.length≤60) (hn:body.nice) (hw:wK body≤40000000) (hcn:body.cnt≤3000) (hi:is.length+body.cnt+10≤800000) (hlc:cs.length+200 * (body.cnt+1)≤1000000) (hl:sl.length≤1000000) (hlp:cap.length≤10000):
 ∃ cs' is',u9 (n1+2) cs p 0 cp is sl cap bx op params body=some (cs',p,0,cp,is',sl)∧p8 (n2+2) cs main bm sm cm p (sl.length:Int) cp is op params body=some (sm,p,(sl.length:Int),cp,is',cs',main)∧
  SlotM sl sm∧G cs' is'∧is.length≤is'.length∧is'.length≤is.length+body.cnt+2∧cs'.length≤cs.length+200 * (body.cnt+1)+1∧wts wC cs'+wts wI is'≤wts wC cs+wts wI is+100 * (200 * (body.cnt+1))+wK body+body.cnt+303:=by
 have hfl:=tG.1 body params [];simp only [List.length_nil,Nat.zero_add]at hfl;have hmem:∀ v,v∈free body params []↔(v∉params∧fvc v body):=fun v=>by rw [mem_free.1];simp
 obtain⟨is1,ok1,hw1,⟨go1,e1⟩,⟨go2,e2⟩⟩:=taken_both (bx:=bx) (bm:=bm) (free body params []) (by omega) cs is sl cap sm cm p cp main op params body (r9 (n1+1)) (m5 (n2+1)) hs hc hg (fun v hv=>by
  have:=(hmem v).1 hv;exact hsc v this.2 this.1) (by omega) hl (by omega)
 have z1:=ok1.i2;have z2:=ok1.i1;have z3:=ok1.wt;obtain ⟨cs',j,hj,f1,f2,f3⟩:=fin_both hB hbl hb (params:=params) (cap:=free body params []) (cs:=cs) ⟨fun v hv=>by
  by_cases h:v∈params
  ·exact .inl h
  ·exact .inr ((hmem v).2 ⟨h,hv⟩),⟨hg.1,fun x hx=>by cases hx⟩,hp,by omega,hcn,hlc⟩ n1 n2 h1 h2 main
 have y1:=f3.c2;have y2:=f3.wt;refine ⟨cs',emI is1 op j,?_,?_,hs,g_emI ⟨f3.good.1,ok1.good.2⟩ _ _,by rw [W2];omega,by rw [W2];omega,y1,?_⟩
 ·show eK (r9 (n1+1)) (m7 (n1+1)) (u9 (n1+1)) (E5 (n1+1)) cs p 0 cp is sl cap bx op params body=_;unfold eK;rw [s_freeA_eq body params hn (by omega) hw,i7,e1];show U7 (r9 (n1+1)) cs cap bx op params body (free body params []) go1 ((free body params []).length:Int) _ _ _ _ _=_;unfold U7;rw [if_neg (by omega),f1,i7,Z6 _ _ _ _ _ _ _ _ _ (by omega),i7]
 ·rw [filter_impl (n2+1) cs main sm cm p (sl.length:Int) cp is op params body (by omega) hn hw hcn,e2];show K4 (m5 (n2+1)) bm cm op params body (free body params []) go2 ((free body params []).length:Int) _ _ _ _ _ _ _=_;unfold K4;rw [if_neg (by omega),f2,i7,R2 _ _ _ _ _ _ _ _ _ _ _ (by omega),i7]
 ·unfold emI;rw [sT,wI_zD];omega
end Go.Abs

namespace Go.Abs
open PC
variable {bx:List Int} {bm:List (Int×Int)}
theorem kE:∀(ds:List PC) (i:Nat) (h:i<ds.length),cnts (ds.take (i+1))=cnts (ds.take i)+(1+cnt ds[i])
 |d::r,0,_=>by simp [cnts]
 |d::r,i+1,h=>by
  have:=kE r i (by simpa using h);rw [List.take_succ_cons,List.take_succ_cons,cnts,cnts,this,List.getElem_cons_succ];omega
theorem uX:∀(ds:List PC) (i:Nat) (h:i<ds.length),wKs (ds.take (i+1))=wKs (ds.take i)+(1+wK ds[i])
 |d::r,0,_=>by simp [wKs]
 |d::r,i+1,h=>by
  have:=uX r i (by simpa using h);rw [List.take_succ_cons,List.take_succ_cons,wKs,wKs,this,List.getElem_cons_succ];omega
theorem wQ:∀(ds:List PC) (i:Nat),cnts (ds.take i)≤cnts ds
 | [],i=>by simp
 |d::r,0=>by simp [cnts]
 |d::r,i+1=>by
  have:=wQ r i;rw [List.take_succ_cons,cnts,cnts];omega
theorem I64n {i:Nat}(h:i≤1000000000):I64 ((i:Int)+1):=show -9223372036854775808≤(i:Int)+1∧(i:Int)+1≤9223372036854775807 by omega
theorem I64m {i:Nat}(h:i≤1000000000):I64 ((i:Int)-1):=show -9223372036854775808≤(i:Int)-1∧(i:Int)-1≤9223372036854775807 by omega
theorem oE {cs cs1:List dz}{is is1:List dy}{sl sl1:List Int}{sm1:List (Int×Int)}{k w:Nat}(h:OkC cs is sl k w cs1 is1 sl1 sm1)(hl:is1.length≤1000000)(cap:List Int)(cm:List (Int×Int))(t:Bool)(p cp main:Int):
 ∃ is2,D5 cap bx t cs1 p 0 cp is1 sl1=some (cs1,p,0,cp,is2,sl1)∧w6 bm cm t p (sl1.length:Int) cp main cs1 sm1 is1=some (sm1,p,(sl1.length:Int),cp,is2,cs1,main)∧OkC cs is sl (k+1) w cs1 is2 sl1 sm1:=by
 cases t with
 |false=>exact⟨is1,rfl,rfl,h.weak (by omega) (Nat.le_refl _)⟩
 |true=>
  refine⟨emI is1 14 0,?_,?_,h.trans (OkC.emit h.slot h.good 14 0)⟩
  ·unfold D5;rw [if_pos rfl,Z6 _ _ _ _ _ _ _ _ _ hl,i7]
  ·unfold w6;rw [if_pos rfl,R2 _ _ _ _ _ _ _ _ _ _ _ hl,i7]
structure PreK (ks:List PC) (k:Nat) (cs:List dz) (is:List dy) (sl cap:List Int) (sm cm:List (Int×Int)):Prop where
 slot:SlotM sl sm
 capt:SlotM cap cm
 sc:∀ x∈ks,∀ v,fvc v x→v∈sl∨v∈cap
 good:G cs is
 li:is.length+200 * cnts ks+k≤800000
 lc:cs.length+200 * cnts ks+k≤1000000
 ls:sl.length+200 * cnts ks+k≤1000000
 lp:cap.length≤10000
theorem PreK.kid {ks:List PC}{k:Nat}{cs cs1:List dz}{is is1:List dy}{sl sl1 cap:List Int}{sm sm1 cm:List (Int×Int)}(h:PreK ks k cs is sl cap sm cm){i j w:Nat}(hi:i<ks.length)(hj:j≤k)(ok:OkC cs is sl (200 * cnts (ks.take i)+j) w cs1 is1 sl1 sm1):Pre ks[i] cs1 is1 sl1 cap sm1 cm:=by
 have e:=kE ks i hi;have e2:=wQ ks (i+1);have h1:=h.li;have h2:=h.lc;have h3:=h.ls;have g1:=ok.i2;have g2:=ok.c2;have g3:=ok.s2;exact ⟨ok.slot,h.capt,fun v hv=>(h.sc ks[i] (List.getElem_mem hi) v hv).imp (ok.sub v) id,ok.good,by omega,by omega,by omega,h.lp⟩
theorem kids_both {c:PC}(hC:∀ x∈c.kids,CB bx bm x)(n1 n2:Nat)(h1:∀ x∈c.kids,8 * (x.cnt+1)≤n1)(h2:∀ x∈c.kids,8 * (x.cnt+1)≤n2)(hk:c.kids.length≤60)(t:Bool)(cs:List dz)(is:List dy)(sl cap:List Int)(sm cm:List (Int×Int))(p cp main:Int)
 (h:PreK c.kids 0 cs is sl cap sm cm):∃ cs1 is1 sl1 sm1,OkC cs is sl (200 * cnts c.kids) (wKs c.kids) cs1 is1 sl1 sm1∧
  (∃ go,itr (eM (m7 n1) cap bx c t) LF (0,cs,p,0,cp,is,sl)=eM (m7 n1) cap bx c t go ((c.kids.length:Int),cs1,p,0,cp,is1,sl1))∧
  (∃ go,itr (R3 (g8 n2) bm cm c t) LF (0,p,(sl.length:Int),cp,main,cs,sm,is)=R3 (g8 n2) bm cm c t go ((c.kids.length:Int),p,(sl1.length:Int),cp,main,cs1,sm1,is1)):=by
 obtain⟨a',b',⟨cs1,is1,sl1,sm1,ha,hb1,hok⟩,e1,e2⟩:=kY (Ls:=eM (m7 n1) cap bx c t) (Li:=R3 (g8 n2) bm cm c t) c.kids.length (by omega)
  (fun i a b=>∃ cs1 is1 sl1 sm1,a=(cs1,p,0,cp,is1,sl1)∧b=(p,((sl1:List Int).length:Int),cp,main,cs1,sm1,is1)∧OkC cs is sl (200 * cnts (c.kids.take i)+0) (wKs (c.kids.take i)) cs1 is1 sl1 sm1) (cs,p,0,cp,is,sl) (p,(sl.length:Int),cp,main,cs,sm,is)
  ⟨cs,is,sl,sm,rfl,rfl,OkC.refl h.slot h.good⟩ (fun i a b hi ⟨cs1,is1,sl1,sm1,ha,hb1,hok⟩=>by
   subst ha;subst hb1;have hm:=List.getElem_mem hi;obtain ⟨cs2,is2,sl2,sm2,q1,q2,q3⟩:=hC _ hm n1 n2 false cs1 is1 sl1 cap sm1 cm p cp main (h1 _ hm) (h2 _ hm) (h.kid hi (Nat.le_refl _) hok);refine ⟨_,_,⟨cs2,is2,sl2,sm2,rfl,rfl,(hok.trans q3).weak (by rw [kE _ _ hi];omega) (by rw [uX _ _ hi];omega)⟩,fun go=>?_,fun go=>?_⟩
   ·show O1 (m7 n1) cap bx c t go (i:Int) _ _ _ _ _ _=_;unfold O1;rw [if_pos (by omega),v6 hi,i7,q1,i7,q8 (I64n (by omega))]
   ·show B7 (g8 n2) bm cm c t go (i:Int) _ _ _ _ _ _ _=_;unfold B7;rw [if_pos (by omega),v6 hi,i7,q2,i7,q8 (I64n (by omega))])
 subst ha;subst hb1;rw [List.take_length]at hok;exact ⟨cs1,is1,sl1,sm1,hok,e1,e2⟩
theorem list_both {c:PC}(hC:∀ x∈c.kids,CB bx bm x)(n1 n2:Nat)(h1:∀ x∈c.kids,8 * (x.cnt+1)≤n1)(h2:∀ x∈c.kids,8 * (x.cnt+1)≤n2)(hk:c.kids.length≤60)(t:Bool)(cs:List dz)(is:List dy)(sl cap:List Int)(sm cm:List (Int×Int))(p cp main:Int)
 (h:PreK c.kids 60 cs is sl cap sm cm):∃ cs1 is1 sl1 sm1,OkC cs is sl (200 * cnts c.kids+60) (wKs c.kids) cs1 is1 sl1 sm1∧
  itr (iU (m7 n1) cap bx c t) LF (0,cs,p,0,cp,is,sl)=some (cs1,p,0,cp,is1,sl1)∧
  p0 (n2+1) cs main bm sm cm p (sl.length:Int) cp is c.kids t=some (sm1,p,(sl1.length:Int),cp,is1,cs1,main):=by
 obtain⟨a',b',⟨cs1,is1,sl1,sm1,ha,hb1,hok⟩,⟨go1,e1⟩,⟨go2,e2⟩⟩:=kY (Ls:=iU (m7 n1) cap bx c t) (Li:=fX (g8 n2) bm cm c.kids t) c.kids.length (by omega)
  (fun i a b=>∃ cs1 is1 sl1 sm1,a=(cs1,p,0,cp,is1,sl1)∧b=(p,((sl1:List Int).length:Int),cp,main,cs1,sm1,is1)∧OkC cs is sl (200 * cnts (c.kids.take i)+i) (wKs (c.kids.take i)) cs1 is1 sl1 sm1) (cs,p,0,cp,is,sl) (p,(sl.length:Int),cp,main,cs,sm,is)
  ⟨cs,is,sl,sm,rfl,rfl,OkC.refl h.slot h.good⟩ (fun i a b hi ⟨cs1,is1,sl1,sm1,ha,hb1,hok⟩=>by
   subst ha;subst hb1;have hm:=List.getElem_mem hi;have hpre:=h.kid hi (show i≤60 by omega) hok;obtain ⟨cs2,is2,sl2,sm2,q1,q2,q3⟩:=hC _ hm n1 n2 (t&&decide (i+1=c.kids.length)) cs1 is1 sl1 cap sm1 cm p cp main (h1 _ hm) (h2 _ hm) hpre;have hl2:is2.length≤1000000:=by have:=q3.i2;have:=hpre.li;omega
   by_cases hla:i+1=c.kids.length
   ·have d1:decide (i+1=c.kids.length)=true:=decide_eq_true hla;have d2:decide ((i:Int)+1=(c.kids.length:Int))=true:=decide_eq_true (by omega);rw [d1,Bool.and_true]at q1 q2;refine ⟨_,_,⟨cs2,is2,sl2,sm2,rfl,rfl,(hok.trans q3).weak (by rw [kE _ _ hi];omega) (by rw [uX _ _ hi];omega)⟩,fun go=>?_,fun go=>?_⟩
    ·show O3 (m7 n1) cap bx c t go (i:Int) _ _ _ _ _ _=_;unfold O3 aL aK;rw [if_pos (by omega),v6 hi,i7,q8 (I64m (by omega)),if_pos (by omega),q1,i7,if_pos (by omega),q8 (I64n (by omega))]
    ·show G3 (g8 n2) bm cm c.kids t go (i:Int) _ _ _ _ _ _ _=_;unfold G3 P6 P5;rw [if_pos (by omega),v6 hi,i7,q8 (I64n (by omega))];cases t with
     |true=>rw [if_pos rfl,d2,q2,i7,if_pos (by omega),q8 (I64n (by omega))]
     |false=>rw [if_neg (by simp),q2,i7,if_pos (by omega),q8 (I64n (by omega))]
   ·have d1:decide (i+1=c.kids.length)=false:=decide_eq_false hla;have d2:decide ((i:Int)+1=(c.kids.length:Int))=false:=decide_eq_false (by omega);rw [d1,Bool.and_false]at q1 q2;refine ⟨_,_,⟨cs2,emI is2 17 0,sl2,sm2,rfl,rfl,((hok.trans q3).trans (OkC.emit q3.slot q3.good 17 0)).weak (by rw [kE _ _ hi];omega) (by rw [uX _ _ hi];omega)⟩,fun go=>?_,fun go=>?_⟩
    ·show O3 (m7 n1) cap bx c t go (i:Int) _ _ _ _ _ _=_;unfold O3 aL aK;rw [if_pos (by omega),v6 hi,i7,q8 (I64m (by omega)),if_neg (by omega),q1,i7,if_neg (by omega),Z6 _ _ _ _ _ _ _ _ _ hl2,i7,q8 (I64n (by omega))]
    ·show G3 (g8 n2) bm cm c.kids t go (i:Int) _ _ _ _ _ _ _=_;unfold G3 P6 P5;rw [if_pos (by omega),v6 hi,i7,q8 (I64n (by omega))];cases t with
     |true=>rw [if_pos rfl,d2,q2,i7,if_neg (by omega),R2 _ _ _ _ _ _ _ _ _ _ _ hl2,i7,q8 (I64n (by omega))]
     |false=>rw [if_neg (by simp),q2,i7,if_neg (by omega),R2 _ _ _ _ _ _ _ _ _ _ _ hl2,i7,q8 (I64n (by omega))])
 subst ha;subst hb1;rw [List.take_length]at hok;refine ⟨cs1,is1,sl1,sm1,hok.weak (by omega) (Nat.le_refl _),?_,?_⟩
 ·rw [e1];show O3 (m7 n1) cap bx c t go1 (c.kids.length:Int) _ _ _ _ _ _=_;unfold O3;rw [if_neg (by omega)]
 ·show bB (m5 n2) (g8 n2) (o3 n2) (p0 n2) (p8 n2) cs main bm sm cm p (sl.length:Int) cp is c.kids t=_;unfold bB;rw [e2];show G3 (g8 n2) bm cm c.kids t go2 (c.kids.length:Int) _ _ _ _ _ _ _=_;unfold G3;rw [if_neg (by omega)]
theorem boxes_both (c:PC)(n1 n2:Nat)(hp:c.params.length≤60)(t:Bool)(cs:List dz)(is:List dy)(sl cap:List Int)(sm cm:List (Int×Int))(p cp main:Int)(hs:SlotM sl sm)(hg:G cs is)(hi:is.length+60≤800000)(hl:sl.length+60≤1000000):
 ∃ is1 sm1,OkC cs is sl c.params.length 0 cs is1 (sl++c.params) sm1∧
  (∃ go,itr (aM (m7 n1) cs cap bx c t) LF (0,p,0,cp,is,sl)=aM (m7 n1) cs cap bx c t go ((c.params.length:Int),p,0,cp,is1,sl++c.params))∧
  (∃ go,itr (R4 (p0 n2) bm cm c t) LF (0,p,(sl.length:Int),cp,main,cs,sm,is)=R4 (p0 n2) bm cm c t go ((c.params.length:Int),p,((sl++c.params).length:Int),cp,main,cs,sm1,is1)):=by
 obtain⟨a',b',⟨is1,sm1,ha,hb1,hok⟩,e1,e2⟩:=kY (Ls:=aM (m7 n1) cs cap bx c t) (Li:=R4 (p0 n2) bm cm c t) c.params.length (by omega)
  (fun i a b=>∃ is1 sm1,a=(p,0,cp,is1,sl++c.params.take i)∧b=(p,((sl++c.params.take i).length:Int),cp,main,cs,sm1,is1)∧OkC cs is sl i 0 cs is1 (sl++c.params.take i) sm1) (p,0,cp,is,sl) (p,(sl.length:Int),cp,main,cs,sm,is)
  ⟨is,sm,by simp,by simp,by simpa using OkC.refl hs hg⟩ (fun i a b hi' ⟨is1,sm1,ha,hb1,hok⟩=>by
   subst ha;subst hb1;have et:sl++c.params.take (i+1)=(sl++c.params.take i)++[c.params[i]]:=by rw [← List.take_append_getElem hi',List.append_assoc]
   have hlt:(sl++c.params.take i).length≤1000000:=by rw [List.length_append,List.length_take];omega
   have hle:=hok.i2;have el:((((sl++c.params.take i)++[c.params[i]]).length:Nat):Int)-1=((sl++c.params.take i).length:Int):=by rw [List.length_append (as:=sl++c.params.take i)];simp
   have el2:((((sl++c.params.take i)++[c.params[i]]).length:Nat):Int)=((sl++c.params.take i).length:Int)+1:=by rw [List.length_append (as:=sl++c.params.take i)];simp
   have g1:OkC cs is1 (sl++c.params.take i) 1 0 cs (emI is1 9 ((sl++c.params.take i).length:Int)) ((sl++c.params.take i)++[c.params[i]]) (mput sm1 c.params[i] ((sl++c.params.take i).length:Int)):=
    ⟨uV hok.slot _,g_emI hok.good _ _,by rw [W2];omega,by rw [W2];omega,by omega,by rw [List.length_append (as:=sl++c.params.take i)];simp,fun v hv=>List.mem_append_left _ hv,by unfold emI;rw [sT,wI_zD];omega⟩
   refine⟨_,_,⟨emI is1 9 ((sl++c.params.take i).length:Int),mput sm1 c.params[i] ((sl++c.params.take i).length:Int),rfl,rfl,by rw [et];exact hok.trans g1⟩,fun go=>?_,fun go=>?_⟩
   ·show O2 (m7 n1) cs cap bx c t go (i:Int) _ _ _ _ _=_;unfold O2;rw [if_pos (by omega),v6 hi',i7,q8 (by simp only [List.length_singleton];omega),el,q8 (show -9223372036854775808≤((sl++c.params.take i).length:Int)∧((sl++c.params.take i).length:Int)≤9223372036854775807 by omega),Z6 _ _ _ _ _ _ _ _ _ (by omega),i7,q8 (I64n (by omega)),et]
   ·show G5 (p0 n2) bm cm c t go (i:Int) _ _ _ _ _ _ _=_;unfold G5 bZ;rw [if_pos (by omega),v6 hi',i7,q8 (show -9223372036854775808≤((sl++c.params.take i).length:Int)+1∧((sl++c.params.take i).length:Int)+1≤9223372036854775807 by omega),i7,R2 _ _ _ _ _ _ _ _ is1 _ _ (by omega),i7,q8 (I64n (by omega)),et,el2])
 subst ha;subst hb1;rw [List.take_length]at hok e1 e2;exact ⟨is1,sm1,hok,e1,e2⟩
end Go.Abs

namespace Go.Abs
open PC
variable {bx:List Int} {bm:List (Int×Int)}
theorem s_node_s (n:Nat)(cs:List dz)(p sN cp:Int)(is:List dy)(sl cap:List Int)(c:PC)(t:Bool):m7 (n+1) cs p sN cp is sl cap bx c t=gP (r9 n) (m7 n) (u9 n) (E5 n) cs p sN cp is sl cap bx c t:=rfl
theorem i_comp_s (n:Nat)(cs:List dz)(main:Int)(sm cm:List (Int×Int))(p sN cp:Int)(is:List dy)(c:PC)(t:Bool):g8 (n+1) cs main bm sm cm p sN cp is c t=V4 (m5 n) (g8 n) (o3 n) (p0 n) (p8 n) cs main bm sm cm p sN cp is c t:=rfl
theorem gD {c x:PC}(hv:okAll c=true)(hc:c.cnt≤3000)(hx:x∈c.kids):okAll x=true∧x.cnt+1≤c.cnt∧wK x+1≤wKs c.kids∧x.nice∧wK x≤40000000:=by
 have h1:okAll x=true:=by
  rw [okAll_eq]at hv;simp only [Bool.and_eq_true]at hv;exact ab6 hv.2 hx
 have h2:=al2 hx;exact ⟨h1,h2,sP hx,core_nice.1 x h1,ok_w h1 (by omega)⟩
theorem aj9 {c x:PC}{sl cap:List Int}(hs:∀ v,fvc v c→v∈sl∨v∈cap)(hx:x∈c.kids):∀ v,fvc v x→v∉c.params→v∈sl∨v∈cap:=fun v hv hn=>hs v (by
 rw [fvc_eq];exact .inr ⟨hn,fvs_mem hx hv⟩)
theorem aa8 {c:PC}{cs:List dz}{is:List dy}{sl cap:List Int}{sm cm:List (Int×Int)}(h:Pre c cs is sl cap sm cm)(op a:Int):OkC cs is sl 1 0 cs (emI is op a) sl sm:=OkC.emit h.slot h.good op a
theorem main_case (hB:BoxM bx bm)(hbl:bx.length≤1000000000)(c:PC)(hv:okAll c=true)(hc:c.cnt≤3000)(hC:∀ x∈c.kids,CB bx bm x):CB bx bm c:=by
 intro n1 n2 t cs is sl cap sm cm p cp main h1 h2 h;have hsh:=aq7 hv;obtain ⟨hpar,hkid,hdw⟩:=pC hsh;have hwe:=mX c;have hce:=cnt_eq c;have hli:=h.li;have hlc:=h.lc;have hls:=h.ls;have hlp:=h.lp;have hi1:is.length≤1000000:=by omega
 have hsl1:sl.length≤1000000:=by omega
 have hcl1:cap.length≤1000000:=by omega
 obtain⟨m1,rfl⟩:∃ m,n1=m+4:=⟨n1-4,by omega⟩
 obtain⟨m2,rfl⟩:∃ m,n2=m+4:=⟨n2-4,by omega⟩
 rw [s_node_s,i_comp_s];unfold gP V4;have hf1:∀ x∈c.kids,8 * (x.cnt+1)≤m1:=fun x hx=>by have:=(gD hv hc hx).2.1;omega
 have hf2:∀ x∈c.kids,8 * (x.cnt+1)≤m2:=fun x hx=>by have:=(gD hv hc hx).2.1;omega
 unfold shapeOK at hsh;rw [Bool.and_eq_true,Bool.and_eq_true]at hsh;obtain ⟨_,_,hsh⟩:=hsh;have inner:∀(op:Int) (params:List Int) (b:PC),c.kids=[b]→params=c.params→∃ cs' is',u9 (m1+3) cs p 0 cp is sl cap bx op params b=some (cs',p,0,cp,is',sl)∧p8 (m2+3) cs main bm sm cm p (sl.length:Int) cp is op params b=some (sm,p,(sl.length:Int),cp,is',cs',main)∧
  OkC cs is sl (200 * (c.cnt+1)-1) (wK c) cs' is' sl sm:=fun op params b hk hpp=>by
  have hb:b∈c.kids:=by rw [hk];simp
  obtain⟨k1,k2,k3,k4,k5⟩:=gD hv hc hb;have hcb:c.cnt=b.cnt+1:=by rw [hce,hk];simp [cnts];omega
  have g1:=hf1 b hb;have g2:=hf2 b hb;obtain ⟨cs',is',f1,f2,f3,f4,f5,f6,f7,f8⟩:=inner_both hB hbl (hC b hb) (m1+1) (m2+1) (by omega) (by omega) cs is sl cap sm cm p cp main op params h.slot h.capt h.good (fun v hv' hn=>aj9 h.sc hb v hv' (by rw [← hpp];exact hn)) (by rw [hpp];exact hpar) k4 k5 (by omega) (by omega) (by omega) hsl1 hlp;exact ⟨cs',is',f1,f2,⟨f3,f4,f5,by omega,by omega,by omega,fun v hv=>hv,by omega⟩⟩
 by_cases k1:c.kind=1
 ·have e6:¬ c.kind=6:=by omega
  have e7:¬ c.kind=7:=by omega
  have e8:¬ c.kind=8:=by omega
  have e9:¬ c.kind=9:=by omega
  have hds:c.datum.small:=aq9 (by omega);have hx1:nth (emI is 1 0) (((emI is 1 0).length:Int)-1)=some (dy.mk 1 0 zD):=by
   have e:((emI is 1 0).length:Int)-1=(is.length:Int):=by rw [W2];omega
   rw [e,v6 (by rw [W2];omega)];unfold emI;simp
  have hx2:(emI is 1 0).set (((emI is 1 0).length:Int)-1).toNat (dy.mk 1 0 c.datum)=is++[dy.mk 1 0 c.datum]:=by
   have e:(((emI is 1 0).length:Int)-1).toNat=is.length:=by rw [W2];omega
   rw [e];unfold emI;simp
  obtain⟨is2,j1,j2,j3⟩:=oE (bx:=bx) (bm:=bm) (OkC.datum h.slot h.good 1 0 hds) (by simp;omega) cap cm t p cp main;refine ⟨cs,is2,sl,sm,?_,?_,j3.weak (by omega) (by omega)⟩
  ·rw [if_pos k1,Z6 _ _ _ _ _ _ _ _ _ hi1,i7,q8 (show -9223372036854775808≤((emI is 1 0).length:Int)-1∧((emI is 1 0).length:Int)-1≤9223372036854775807 by rw [W2];omega),ad3 RF c.datum (by rw [RF_eq];have:=hds.2;omega) hds,i7,hx1,i7,hx2];exact j1
  ·rw [if_neg e6,if_neg e7,if_neg e8,if_neg e9,if_pos k1,(qQ RF).1 c.datum (by rw [RF_eq];have:=hds.2;omega) hds,i7,q8 (by simp;omega)];exact j2
 by_cases k3:c.kind=3
 ·have e6:¬ c.kind=6:=by omega
  have e7:¬ c.kind=7:=by omega
  have e8:¬ c.kind=8:=by omega
  have e9:¬ c.kind=9:=by omega
  obtain⟨is2,j1,j2,j3⟩:=oE (bx:=bx) (bm:=bm) (aa8 h 2 c.number) (by rw [W2];omega) cap cm t p cp main;refine ⟨cs,is2,sl,sm,?_,?_,j3.weak (by omega) (by omega)⟩
  ·rw [if_neg k1,if_pos k3,Z6 _ _ _ _ _ _ _ _ _ hi1,i7];exact j1
  ·rw [if_neg e6,if_neg e7,if_neg e8,if_neg e9,if_neg k1,if_pos k3,R2 _ _ _ _ _ _ _ _ _ _ _ hi1,i7];exact j2
 by_cases k2:c.kind=2
 ·have e6:¬ c.kind=6:=by omega
  have e7:¬ c.kind=7:=by omega
  have e8:¬ c.kind=8:=by omega
  have e9:¬ c.kind=9:=by omega
  have hvn:c.number∈sl∨c.number∈cap:=h.sc _ (by rw [fvc_eq];exact .inl ⟨by unfold named;simp [k2],rfl⟩);by_cases hb:bx.contains c.number=true
  ·obtain ⟨is2,j1,j2,j3⟩:=oE (bx:=bx) (bm:=bm) (aa8 h (plO sl c.number 5 6) (plA sl cap c.number)) (by rw [W2];omega) cap cm t p cp main;refine ⟨cs,is2,sl,sm,?_,?_,j3.weak (by omega) (by omega)⟩
   ·rw [if_neg k1,if_neg k3,if_pos k2,sV hB hbl,i7,if_pos hb,rZ _ _ _ _ _ _ _ _ _ _ hsl1 hcl1 hi1,i7];exact j1
   ·rw [if_neg e6,if_neg e7,if_neg e8,if_neg e9,if_neg k1,if_neg k3,if_pos k2,if_pos ((hB _).2 hb),pY _ _ _ _ _ _ _ _ _ _ _ _ _ _ h.slot h.capt hvn hi1,i7];exact j2
  ·obtain ⟨is2,j1,j2,j3⟩:=oE (bx:=bx) (bm:=bm) (aa8 h (plO sl c.number 3 4) (plA sl cap c.number)) (by rw [W2];omega) cap cm t p cp main;refine ⟨cs,is2,sl,sm,?_,?_,j3.weak (by omega) (by omega)⟩
   ·rw [if_neg k1,if_neg k3,if_pos k2,sV hB hbl,i7,if_neg hb,s_raw_eq _ _ _ _ _ _ _ _ hsl1 hcl1 hi1,i7];exact j1
   ·rw [if_neg e6,if_neg e7,if_neg e8,if_neg e9,if_neg k1,if_neg k3,if_pos k2,if_neg (fun e=>hb ((hB _).1 e)),pY _ _ _ _ _ _ _ _ _ _ _ _ _ _ h.slot h.capt hvn hi1,i7];exact j2
 by_cases k4:c.kind=4
 ·have e6:¬ c.kind=6:=by omega
  have e7:¬ c.kind=7:=by omega
  have e8:¬ c.kind=8:=by omega
  have e9:¬ c.kind=9:=by omega
  rw [if_neg k1,if_neg k2,if_neg k3,if_pos k4]at hsh;simp only [Bool.and_eq_true,decide_eq_true_eq]at hsh;have hp0:c.params=[]:=List.eq_nil_of_length_eq_zero (by omega);obtain ⟨b,hk⟩:∃ b,c.kids=[b]:=List.length_eq_one_iff.1 (by omega);have hb:b∈c.kids:=by rw [hk];simp
  obtain⟨g1,g2,g3,g4,g5⟩:=gD hv hc hb;have hcb:c.cnt=b.cnt+1:=by rw [hce,hk];simp [cnts];omega
  have hwb:wKs c.kids=1+wK b:=by rw [hk];simp [wKs]
  have hn0:nth c.kids 0=some b:=by rw [hk];rfl
  have q1':=hf1 b hb;have q2':=hf2 b hb;obtain ⟨cs1,is1,sl1,sm1,f1,f2,f3⟩:=hC b hb (m1+3) (m2+3) false cs is sl cap sm cm p cp main (by omega) (by omega) ⟨h.slot,h.capt,fun v hv'=>aj9 h.sc hb v hv' (by rw [hp0];simp),h.good,by omega,by omega,by omega,hlp⟩;have z1:=f3.i2;have z2:=f3.s2;have hvn:c.number∈sl1∨c.number∈cap:=(h.sc _ (by rw [fvc_eq];exact .inl ⟨by unfold named;simp [k4],rfl⟩)).imp (f3.sub _) id;obtain ⟨is2,j1,j2,j3⟩:=oE (bx:=bx) (bm:=bm) (f3.trans (OkC.emit f3.slot f3.good (plO sl1 c.number 7 8) (plA sl1 cap c.number))) (by rw [W2];omega) cap cm t p cp main;refine ⟨cs1,is2,sl1,sm1,?_,?_,j3.weak (by omega) (by omega)⟩
  ·rw [if_neg k1,if_neg k3,if_neg k2,if_pos k4,hn0,i7,f1,i7,rZ _ _ _ is1 sl1 _ _ _ _ _ (by omega) hcl1 (by omega),i7];exact j1
  ·rw [if_neg e6,if_neg e7,if_neg e8,if_neg e9,if_neg k1,if_neg k3,if_neg k2,if_pos k4,hn0,i7,f2,i7,pY _ _ _ _ _ _ _ _ is1 _ _ _ _ _ f3.slot h.capt hvn (by omega),i7];exact j2
 by_cases k5:c.kind=5
 ·have e6:¬ c.kind=6:=by omega
  have e7:¬ c.kind=7:=by omega
  have e8:¬ c.kind=8:=by omega
  have e9:¬ c.kind=9:=by omega
  rw [if_neg k1,if_neg k2,if_neg k3,if_neg k4,if_pos k5]at hsh;simp only [Bool.and_eq_true,decide_eq_true_eq]at hsh;obtain ⟨b,hk⟩:∃ b,c.kids=[b]:=List.length_eq_one_iff.1 (by omega);have hn0:nth c.kids 0=some b:=by rw [hk];rfl
  obtain⟨cs1,is1,f1,f2,f3⟩:=inner 11 c.params b hk rfl;have z1:=f3.i2;obtain ⟨is2,j1,j2,j3⟩:=oE (bx:=bx) (bm:=bm) f3 (by omega) cap cm t p cp main;refine ⟨cs1,is2,sl,sm,?_,?_,j3.weak (by omega) (by omega)⟩
  ·rw [if_neg k1,if_neg k3,if_neg k2,if_neg k4,if_pos k5,hn0,i7,f1,i7];exact j1
  ·rw [if_neg e6,if_neg e7,if_neg e8,if_neg e9,if_neg k1,if_neg k3,if_neg k2,if_neg k4,if_pos k5,hn0,i7,f2,i7];exact j2
 by_cases k6:c.kind=6
 ·rw [if_neg k1,if_neg k2,if_neg k3,if_neg k4,if_neg k5,if_pos k6]at hsh;simp only [Bool.and_eq_true,decide_eq_true_eq]at hsh;have hp0:c.params=[]:=List.eq_nil_of_length_eq_zero (by omega);obtain ⟨cs1,is1,sl1,sm1,ok1,⟨go1,e1⟩,⟨go2,e2⟩⟩:=kids_both hC (m1+3) (m2+3) (fun x hx=>by have:=hf1 x hx;omega) (fun x hx=>by have:=hf2 x hx;omega) hkid t cs is sl cap sm cm p cp main ⟨h.slot,h.capt,fun x hx v hv'=>aj9 h.sc hx v hv' (by rw [hp0];simp),h.good,by omega,by omega,by omega,hlp⟩;have z1:=ok1.i2;have e10:¬ c.kind=10:=by omega
  have e11:¬ c.kind=11:=by omega
  cases t with
  |true=>
   refine⟨cs1,emI is1 13 ((c.kids.length:Int)-1),sl1,sm1,?_,?_,(ok1.trans (OkC.emit ok1.slot ok1.good 13 ((c.kids.length:Int)-1))).weak (by omega) (by omega)⟩
   ·rw [if_neg k1,if_neg k3,if_neg k2,if_neg k4,if_neg k5,if_neg e10,if_neg e11,if_pos k6,e1];show O1 (m7 (m1+3)) cap bx c true go1 (c.kids.length:Int) _ _ _ _ _ _=_;unfold O1;rw [if_neg (by omega),if_pos rfl,q8 (I64m (by omega)),Z6 _ _ _ _ _ _ _ _ _ (by omega),i7]
   ·rw [if_pos k6,e2];show B7 (g8 (m2+3)) bm cm c true go2 (c.kids.length:Int) _ _ _ _ _ _ _=_;unfold B7;rw [if_neg (by omega),if_pos rfl,q8 (I64m (by omega)),R2 _ _ _ _ _ _ _ _ is1 _ _ (by omega),i7]
  |false=>
   refine⟨cs1,emI is1 12 ((c.kids.length:Int)-1),sl1,sm1,?_,?_,(ok1.trans (OkC.emit ok1.slot ok1.good 12 ((c.kids.length:Int)-1))).weak (by omega) (by omega)⟩
   ·rw [if_neg k1,if_neg k3,if_neg k2,if_neg k4,if_neg k5,if_neg e10,if_neg e11,if_pos k6,e1];show O1 (m7 (m1+3)) cap bx c false go1 (c.kids.length:Int) _ _ _ _ _ _=_;unfold O1 D5;rw [if_neg (by omega),if_neg (by simp),q8 (I64m (by omega)),Z6 _ _ _ _ _ _ _ _ _ (by omega),i7,if_neg (by simp)]
   ·rw [if_pos k6,e2];show B7 (g8 (m2+3)) bm cm c false go2 (c.kids.length:Int) _ _ _ _ _ _ _=_;unfold B7;rw [if_neg (by omega),if_neg (by simp),q8 (I64m (by omega)),R2 _ _ _ _ _ _ _ _ is1 _ _ (by omega),i7]
 by_cases k7:c.kind=7
 ·rw [if_neg k1,if_neg k2,if_neg k3,if_neg k4,if_neg k5,if_neg k6,if_pos k7]at hsh;simp only [Bool.and_eq_true,decide_eq_true_eq]at hsh;have hp0:c.params=[]:=List.eq_nil_of_length_eq_zero (by omega);have e10:¬ c.kind=10:=by omega
  have e11:¬ c.kind=11:=by omega
  obtain⟨x,y,z,hk⟩:∃ x y z,c.kids=[x,y,z]:=by
   have h3:c.kids.length=3:=by omega
   match hkk:c.kids,h3 with
   | [x,y,z],_=>exact⟨x,y,z,rfl⟩
  have hx:x∈c.kids:=by rw [hk];simp
  have hy:y∈c.kids:=by rw [hk];simp
  have hz:z∈c.kids:=by rw [hk];simp
  have hcb:c.cnt=x.cnt+y.cnt+z.cnt+3:=by rw [hce,hk];simp [cnts];omega
  have hwb:wKs c.kids=wK x+wK y+wK z+3:=by rw [hk];simp [wKs];omega
  have n0:nth c.kids 0=some x:=by rw [hk];rfl
  have n1':nth c.kids 1=some y:=by rw [hk];rfl
  have n2':nth c.kids 2=some z:=by rw [hk];rfl
  have fx1:=hf1 x hx;have fx2:=hf2 x hx;have fy1:=hf1 y hy;have fy2:=hf2 y hy;have fz1:=hf1 z hz;have fz2:=hf2 z hz;have scp:∀{a:PC},a∈c.kids→∀ v,fvc v a→v∈sl∨v∈cap:=fun ha v hv'=>aj9 h.sc ha v hv' (by rw [hp0];simp);obtain ⟨cs1,is1,sl1,sm1,a1,a2,a3⟩:=hC x hx (m1+3) (m2+2) false cs is sl cap sm cm p cp main (by omega) (by omega) ⟨h.slot,h.capt,scp hx,h.good,by omega,by omega,by omega,hlp⟩;have u1:=a3.i2;have u2:=a3.c2;have u3:=a3.s2;have okt:=a3.trans (OkC.emit a3.slot a3.good 16 0);have lt1:(emI is1 16 0).length=is1.length+1:=W2 _ _ _;obtain ⟨cs2,is2,sl2,sm2,b1,b2,b3⟩:=hC y hy (m1+2) (m2+2) t cs1 (emI is1 16 0) sl1 cap sm1 cm p cp main (by omega) (by omega) ⟨a3.slot,h.capt,fun v hv'=>(scp hy v hv').imp (a3.sub v) id,okt.good,by omega,by omega,by omega,hlp⟩;have v1:=b3.i2;have v2:=b3.c2;have v3:=b3.s2;have v4:=b3.i1;have ok2:=okt.trans b3;obtain ⟨is3,hj1,ok3,sj,ij⟩:∃ is3:List dy,(is2.length≤is3.length∧is3.length≤is2.length+1∧(t=false→is2.length<is3.length))∧OkC cs is sl (200 * (x.cnt+1)+1+200 * (y.cnt+1)+1) (wK x+0+wK y) cs2 is3 sl2 sm2∧
   (t=false→is3=emI is2 15 0)∧(t=true→is3=is2):=by
   cases t with
   |true=>exact⟨is2,⟨Nat.le_refl _,by omega,fun e=>Bool.noConfusion e⟩,ok2.weak (by omega) (by omega),fun e=>Bool.noConfusion e,fun _=>rfl⟩
   |false=>exact⟨emI is2 15 0,⟨by rw [W2];omega,by rw [W2];omega,fun _=>by rw [W2];omega⟩,(ok2.trans (OkC.emit ok2.slot ok2.good 15 0)).weak (by omega) (by omega),fun _=>rfl,fun e=>Bool.noConfusion e⟩
  have ht:is1.length<is3.length:=by omega
  have ok4:=ok3.patch is1.length ht (is3.length:Int);generalize hq4:is3.set is1.length (dy.mk is3[is1.length].op (is3.length:Int) is3[is1.length].d)=is4 at ok4;have l4:is4.length=is3.length:=by rw [← hq4,List.length_set]
  obtain⟨cs5,is5,sl5,sm5,d1,d2,d3⟩:=hC z hz (m1+2) (m2+2) t cs2 is4 sl2 cap sm2 cm p cp main (by omega) (by omega) ⟨ok4.slot,h.capt,fun v hv'=>(scp hz v hv').imp (ok4.sub v) id,ok4.good,by omega,by omega,by omega,hlp⟩;have w1:=d3.i1;have w2:=d3.i2;have ok5:=ok4.trans d3;have nt:nth is3 (is1.length:Int)=some is3[is1.length]:=v6 ht;have tn:((is1.length:Int)).toNat=is1.length:=by simp
  have tn2:((is2.length:Int)).toNat=is2.length:=by simp
  cases t with
  |true=>
   have e3:=ij rfl;subst e3;refine ⟨cs5,is5,sl5,sm5,?_,?_,ok5.weak (by omega) (by omega)⟩
   ·rw [if_neg k1,if_neg k3,if_neg k2,if_neg k4,if_neg k5,if_neg e10,if_neg e11,if_neg k6,if_pos k7,n0,i7,a1,i7];show bnd (gN (r9 (m1+2)) (m7 (m1+2)) (u9 (m1+2)) (E5 (m1+2)) cs1 p 0 cp is1 sl1 cap bx c true) _=_;unfold gN dM;rw [Z6 _ _ _ _ _ _ _ _ _ (by omega),i7,n1',i7,b1,i7,if_pos rfl,nt,i7,n2',i7,tn,hq4,d1,i7,if_pos rfl,i7]
   ·rw [if_neg k6,if_pos k7];show bnd (I4 (m5 (m2+2)) (g8 (m2+2)) (o3 (m2+2)) (p0 (m2+2)) (p8 (m2+2)) cs main bm sm cm p (sl.length:Int) cp is c true) _=_;unfold I4 G4;rw [n0,i7,a2,i7,R2 _ _ _ _ _ _ _ _ is1 _ _ (by omega),i7,n1',i7,b2,i7,if_pos rfl,nt,i7,n2',i7,tn,hq4,d2,i7,if_pos rfl,i7]
  |false=>
   have e3:=sj rfl;have ho:is2.length<is5.length:=by have:=hj1.2.2 rfl;omega
   have ok6:=ok5.patch is2.length ho (is5.length:Int);have no:nth is5 (is2.length:Int)=some is5[is2.length]:=v6 ho;subst e3;refine ⟨cs5,_,sl5,sm5,?_,?_,ok6.weak (by omega) (by omega)⟩
   ·rw [if_neg k1,if_neg k3,if_neg k2,if_neg k4,if_neg k5,if_neg e10,if_neg e11,if_neg k6,if_pos k7,n0,i7,a1,i7];show bnd (gN (r9 (m1+2)) (m7 (m1+2)) (u9 (m1+2)) (E5 (m1+2)) cs1 p 0 cp is1 sl1 cap bx c false) _=_;unfold gN dM;rw [Z6 _ _ _ _ _ _ _ _ _ (by omega),i7,n1',i7,b1,i7,if_neg (by simp),Z6 _ _ _ is2 _ _ _ _ _ (by omega),i7,nt,i7,n2',i7,tn,hq4,d1,i7,if_neg (by simp),no,i7,tn2,i7]
   ·rw [if_neg k6,if_pos k7];show bnd (I4 (m5 (m2+2)) (g8 (m2+2)) (o3 (m2+2)) (p0 (m2+2)) (p8 (m2+2)) cs main bm sm cm p (sl.length:Int) cp is c false) _=_;unfold I4 G4;rw [n0,i7,a2,i7,R2 _ _ _ _ _ _ _ _ is1 _ _ (by omega),i7,n1',i7,b2,i7,if_neg (by simp),R2 _ _ _ _ _ _ _ _ is2 _ _ (by omega),i7,nt,i7,n2',i7,tn,hq4,d2,i7,if_neg (by simp),no,i7,tn2,i7]
 by_cases k10:c.kind=10
 ·have e8:¬ c.kind=8:=by omega
  have e9:¬ c.kind=9:=by omega
  rw [if_neg k1,if_neg k2,if_neg k3,if_neg k4,if_neg k5,if_neg k6,if_neg k7,if_neg e8,if_neg e9,if_pos k10]at hsh;simp only [Bool.and_eq_true,decide_eq_true_eq]at hsh;have hp0:c.params=[]:=List.eq_nil_of_length_eq_zero (by omega);obtain ⟨b,hk⟩:∃ b,c.kids=[b]:=List.length_eq_one_iff.1 (by omega);have hn0:nth c.kids 0=some b:=by rw [hk];rfl
  obtain⟨cs1,is1,f1,f2,f3⟩:=inner 18 [] b hk hp0.symm;have z1:=f3.i2;obtain ⟨is2,j1,j2,j3⟩:=oE (bx:=bx) (bm:=bm) f3 (by omega) cap cm t p cp main;refine ⟨cs1,is2,sl,sm,?_,?_,j3.weak (by omega) (by omega)⟩
  ·rw [if_neg k1,if_neg k3,if_neg k2,if_neg k4,if_neg k5,if_pos k10,hn0,i7,f1,i7];exact j1
  ·rw [if_neg k6,if_neg k7,if_neg e8,if_neg e9,if_neg k1,if_neg k3,if_neg k2,if_neg k4,if_neg k5,if_pos k10,hn0,i7,f2,i7];exact j2
 by_cases k11:c.kind=11
 ·have e8:¬ c.kind=8:=by omega
  have e9:¬ c.kind=9:=by omega
  rw [if_neg k1,if_neg k2,if_neg k3,if_neg k4,if_neg k5,if_neg k6,if_neg k7,if_neg e8,if_neg e9,if_neg k10,if_pos k11]at hsh;simp only [Bool.and_eq_true,decide_eq_true_eq]at hsh;obtain ⟨b,hk⟩:∃ b,c.kids=[b]:=List.length_eq_one_iff.1 (by omega);have hn0:nth c.kids 0=some b:=by rw [hk];rfl
  obtain⟨cs1,is1,f1,f2,f3⟩:=inner 19 c.params b hk rfl;have z1:=f3.i2;obtain ⟨is2,j1,j2,j3⟩:=oE (bx:=bx) (bm:=bm) f3 (by omega) cap cm t p cp main;refine ⟨cs1,is2,sl,sm,?_,?_,j3.weak (by omega) (by omega)⟩
  ·rw [if_neg k1,if_neg k3,if_neg k2,if_neg k4,if_neg k5,if_neg k10,if_pos k11,hn0,i7,f1,i7];exact j1
  ·rw [if_neg k6,if_neg k7,if_neg e8,if_neg e9,if_neg k1,if_neg k3,if_neg k2,if_neg k4,if_neg k5,if_neg k10,if_pos k11,hn0,i7,f2,i7];exact j2
 obtain⟨is1,sm1,ok1,⟨go1,e1⟩,⟨go2,e2⟩⟩:=boxes_both (bx:=bx) (bm:=bm) (cap:=cap) (cm:=cm) c (m1+3) (m2+3) hpar t cs is sl sm p cp main h.slot h.good (by omega) (by omega);have y1:=ok1.i2;have y2:=ok1.c2;have y3:=ok1.s2;obtain ⟨cs2,is2,sl2,sm2,ok2,f1,f2⟩:=list_both (bx:=bx) (bm:=bm) hC (m1+3) (m2+2) (fun x hx=>by have:=hf1 x hx;omega) (fun x hx=>by have:=hf2 x hx;omega) hkid t cs is1 (sl++c.params) cap sm1 cm p cp main ⟨ok1.slot,h.capt,fun x hx v hv'=>by
  by_cases hn:v∈c.params
  ·exact .inl (List.mem_append_right _ hn)
  ·exact (aj9 h.sc hx v hv' hn).imp (fun e=>List.mem_append_left _ e) id,ok1.good,by omega,by omega,by omega,hlp⟩
 have okf:=(ok1.trans ok2).weak (k2:=200 * (c.cnt+1)) (w2:=wK c) (by omega) (by omega);have hsS:aM (m7 (m1+3)) cs cap bx c t go1 ((c.params.length:Int),p,0,cp,is1,sl++c.params)=some (cs2,p,0,cp,is2,sl2):=by
  show O2 (m7 (m1+3)) cs cap bx c t go1 (c.params.length:Int) _ _ _ _ _=_;unfold O2;rw [if_neg (by omega),f1]
 by_cases k9:c.kind=9
 ·have e8:¬ c.kind=8:=by omega
  refine⟨cs2,is2,sl2,sm2,?_,?_,okf⟩
  ·rw [if_neg k1,if_neg k3,if_neg k2,if_neg k4,if_neg k5,if_neg k10,if_neg k11,if_neg k6,if_neg k7,e1,hsS]
  ·rw [if_neg k6,if_neg k7,if_neg e8,if_pos k9,e2];show G5 (p0 (m2+3)) bm cm c t go2 (c.params.length:Int) _ _ _ _ _ _ _=_;unfold G5;rw [if_neg (by omega),f2,i7]
 ·by_cases k8:c.kind=8
  ·rw [if_neg k1,if_neg k2,if_neg k3,if_neg k4,if_neg k5,if_neg k6,if_neg k7,if_pos k8]at hsh;simp only [Bool.and_eq_true,decide_eq_true_eq]at hsh;have hp0:c.params=[]:=List.eq_nil_of_length_eq_zero (by omega);obtain ⟨cs3,is3,sl3,sm3,ok3,g1,g2⟩:=list_both (bx:=bx) (bm:=bm) hC (m1+3) (m2+2) (fun x hx=>by have:=hf1 x hx;omega) (fun x hx=>by have:=hf2 x hx;omega) hkid t cs is sl cap sm cm p cp main ⟨h.slot,h.capt,fun x hx v hv'=>aj9 h.sc hx v hv' (by rw [hp0];simp),h.good,by omega,by omega,by omega,hlp⟩;refine ⟨cs3,is3,sl3,sm3,?_,?_,ok3.weak (by omega) (by omega)⟩
   ·obtain ⟨go,e3,_⟩:=pZ (aM (m7 (m1+3)) cs cap bx c t) (0,p,0,cp,is,sl);rw [if_neg k1,if_neg k3,if_neg k2,if_neg k4,if_neg k5,if_neg k10,if_neg k11,if_neg k6,if_neg k7,e3];show O2 (m7 (m1+3)) cs cap bx c t go 0 _ _ _ _ _=_;unfold O2;rw [if_neg (by rw [hp0];simp),g1]
   ·rw [if_neg k6,if_neg k7,if_pos k8,g2,i7]
  ·rw [if_neg k1,if_neg k2,if_neg k3,if_neg k4,if_neg k5,if_neg k6,if_neg k7,if_neg k8,if_neg k9,if_neg k10,if_neg k11]at hsh;cases hsh
theorem node_both (hB:BoxM bx bm)(hbl:bx.length≤1000000000):∀(N:Nat) (c:PC),c.cnt≤N→okAll c=true→c.cnt≤3000→CB bx bm c:=by
 intro N;induction N with
 |zero=>exact fun c h hv hc=>main_case hB hbl c hv hc fun x hx=>absurd (al2 hx) (by omega)
 |succ N ih=>exact fun c h hv hc=>main_case hB hbl c hv hc fun x hx=>ih x (by have:=(gD hv hc hx).2.1;omega) (gD hv hc hx).1 (by have:=(gD hv hc hx).2.1;omega)
end Go.Abs

namespace Go.Abs
open PD
def mN (k:Int)(x:dy):Int×dy:=((mAll mD (k+1+1+1+1+1) x.d.items).1,dy.mk k (k+1) (PD.mk (k+1+1) (k+1+1+1) (mtx (k+1+1+1+1)) (mAll mD (k+1+1+1+1+1) x.d.items).2))
theorem mN_le (k:Int)(x:dy):k≤(mN k x).1∧(mN k x).1≤k+6 * ((1+wI x:Nat):Int):=by
 have h:=mD_le.2 x.d.items (k+1+1+1+1+1);have h2:=wP x.d;have h3:wI x=wD x.d:=rfl;unfold mN;dsimp only;omega
def mC (k:Int)(c:dz):Int×dz:=((mAll mN (k+1+1+1) c.instrs).1,dz.mk k (k+1) (k+1+1) (mAll mN (k+1+1+1) c.instrs).2)
theorem mC_le (k:Int)(c:dz):k≤(mC k c).1∧(mC k c).1≤k+6 * ((1+wC c:Nat):Int):=by
 have h:=vY mN_le c.instrs (k+1+1+1);have h3:wC c=wts wI c.instrs:=rfl;unfold mC;dsimp only;omega
theorem mInstrS_eq (xs:List dy)(k:Int)(hw:wts wI xs≤130000000000)(h0:0≤k)(h1:k+6 * ((wts wI xs:Nat):Int)≤1000000000000):eU xs k=some (mAll mN k xs):=by
 unfold eU;have hlen:xs.length≤wts wI xs:=by unfold wts;omega
 have hws:wts wI xs=xs.length+wsum wI xs:=rfl;refine kM (L:=iE xs) wI (fun x=>wD x.d≤130000000000) 1000000000000 (fun k x=>mN_le k x) (fun go i k1 a hi ha hx hk hB=>?_) (fun go k1 a=>?_) xs (fun x hx=>by
  have:=vC (wt:=wI) hx;have e:wI x=wD x.d:=rfl;omega) (by omega) k h0 h1
 ·show N3 xs go k1 (i:Int) a=_;unfold N3;have hwi:wI a[i]=wD a[i].d:=rfl;have hwd:=wP a[i].d;have hcc:=zE.2 a[i].d.items;simp only [Int.toNat_natCast,List.set_set];rw [if_pos (by omega),v6 hi,i7,q8 (by omega),Z1 hi,i7,q8 (by omega),Z1 hi,i7,q8 (by omega),Z1 hi,i7,q8 (by omega),gF (by omega),i7,Z1 hi,i7,q8 (by omega),Z1 hi,i7];try simp only [uB,ab1,oG,ab2]
  rw [fD RF a[i].d.items (k1+1+1+1+1+1) (by rw [RF_eq];omega) (by omega) (by omega) (by omega),i7];refine (q8 (N9 mD a[i].d.items _)).trans ((q8 (by omega)).trans ?_);rfl
 ·show N3 xs go k1 _ a=_;unfold N3;rw [if_neg (by omega)]
theorem hInstrS_eq (xs:List dy)(k:Int)(hw:wts wI xs≤130000000000)(h0:0≤k)(h1:k+6 * ((wts wI xs:Nat):Int)≤1000000000000):eT (mAll mN k xs).2 k=some (mAll mN k xs).1:=by
 unfold eT;have hlen:xs.length≤wts wI xs:=by unfold wts;omega
 have hws:wts wI xs=xs.length+wsum wI xs:=rfl;have hal:(mAll mN k xs).2.length=xs.length:=N9 _ _ _;refine vM (L:=hY (mAll mN k xs).2) wI (fun x=>wD x.d≤130000000000) 1000000000000 (mAll mN k xs).2 (fun k x=>mN_le k x) (fun go i k1 hi x hx hS hk hB=>?_) (fun go k1=>?_) xs (fun x hx=>by
  have:=vC (wt:=wI) hx;have e:wI x=wD x.d:=rfl;omega) (by omega) k h0 h1 rfl
 ·show N1 (mAll mN k xs).2 go k1 (i:Int)=_;unfold N1;have hwi:wI x=wD x.d:=rfl;have hwd:=wP x.d;have hcc:=zE.2 x.d.items;have hle:=mD_le.2 x.d.items (k1+1+1+1+1+1);have hx:(mAll mN k xs).2[i]=dy.mk k1 (k1+1) (PD.mk (k1+1+1) (k1+1+1+1) (mtx (k1+1+1+1+1)) (mAll mD (k1+1+1+1+1+1) x.d.items).2):=hx;rw [if_pos (by omega),v6 hi,hx];simp only [i7,uB,ab1,oG,ab2];rw [if_pos trivial,q8 (by omega),if_pos trivial,q8 (by omega),if_pos trivial,q8 (by omega),if_pos trivial,q8 (by omega),gF (by omega),i7];refine (if_pos rfl).trans ?_;rw [q8 (by omega),tK RF x.d.items (k1+1+1+1+1+1) (by rw [RF_eq];omega) (by omega) (by omega) (by omega),i7,if_neg (by omega),q8 (by omega)];rfl
 ·show N1 (mAll mN k xs).2 go k1 _=_;unfold N1;rw [if_neg (by omega)]
theorem mCodeS_eq (xs:List dz)(k:Int)(hw:wts wC xs≤130000000000)(h0:0≤k)(h1:k+6 * ((wts wC xs:Nat):Int)≤1000000000000):hZ xs k=some (mAll mC k xs):=by
 unfold hZ;have hlen:xs.length≤wts wC xs:=by unfold wts;omega
 have hws:wts wC xs=xs.length+wsum wC xs:=rfl;refine kM (L:=jW) wC (fun x=>wC x≤130000000000) 1000000000000 (fun k x=>mC_le k x) (fun go i k1 a hi ha hx hk hB=>?_) (fun go k1 a=>?_) xs (fun x hx=>by
  have:=vC (wt:=wC) hx;omega) (by omega) k h0 h1
 ·show Q3 go k1 (i:Int) a=_;unfold Q3;have hwi:wC a[i]=wts wI a[i].instrs:=rfl;simp only [Int.toNat_natCast,List.set_set];rw [if_pos (by omega),v6 hi,i7,q8 (by omega),Z1 hi,i7,q8 (by omega),Z1 hi,i7,q8 (by omega),Z1 hi,i7];try simp only [uB,ab1,oG,ab2]
  rw [mInstrS_eq a[i].instrs (k1+1+1+1) (by omega) (by omega) (by omega),i7];refine (q8 (N9 mN a[i].instrs _)).trans ((q8 (by omega)).trans ?_);rfl
 ·show Q3 go k1 _ a=_;unfold Q3;rw [if_neg (by omega)]
theorem hCodeS_eq (xs:List dz)(k:Int)(hw:wts wC xs≤130000000000)(h0:0≤k)(h1:k+6 * ((wts wC xs:Nat):Int)≤1000000000000):hO (mAll mC k xs).2 k=some (mAll mC k xs).1:=by
 unfold hO;have hlen:xs.length≤wts wC xs:=by unfold wts;omega
 have hws:wts wC xs=xs.length+wsum wC xs:=rfl;have hal:(mAll mC k xs).2.length=xs.length:=N9 _ _ _;refine vM (L:=jU (mAll mC k xs).2) wC (fun x=>wC x≤130000000000) 1000000000000 (mAll mC k xs).2 (fun k x=>mC_le k x) (fun go i k1 hi x hx hS hk hB=>?_) (fun go k1=>?_) xs (fun x hx=>by
  have:=vC (wt:=wC) hx;omega) (by omega) k h0 h1 rfl
 ·show Q2 (mAll mC k xs).2 go k1 (i:Int)=_;unfold Q2;have hwi:wC x=wts wI x.instrs:=rfl;have hle:=vY mN_le x.instrs (k1+1+1+1);have hx:(mAll mC k xs).2[i]=dz.mk k1 (k1+1) (k1+1+1) (mAll mN (k1+1+1+1) x.instrs).2:=hx;rw [if_pos (by omega),v6 hi,hx];simp only [i7];rw [if_pos trivial,q8 (by omega),if_pos trivial,q8 (by omega),if_pos trivial,q8 (by omega),hInstrS_eq x.instrs (k1+1+1+1) (by omega) (by omega) (by omega),i7,if_neg (by omega),q8 (by omega)];rfl
 ·show Q2 (mAll mC k xs).2 go k1 _=_;unfold Q2;rw [if_neg (by omega)]
def endM (m:ea):Int:=(mAll mC 1 m.codes).1
theorem mImage_eq (m:ea)(hw:wM m≤130000000000):iD m 1=some (endM m,(mAll mC 1 m.codes).2)∧(mAll mC 1 m.codes).2.length=m.codes.length∧0≤endM m:=by
 have hwm:wM m=wts wC m.codes:=rfl;have hle:=vY mC_le m.codes 1;have hl:(mAll mC 1 m.codes).2.length=m.codes.length:=N9 _ _ _;refine ⟨?_,hl,by unfold endM;omega⟩;unfold iD;rw [mCodeS_eq m.codes 1 (by omega) (by omega) (by omega),i7];exact q8 hl
theorem hImage_eq (m:ea)(n:Int)(hw:wM m≤130000000000):dS (ea.mk (mAll mC 1 m.codes).2 n) 1=some (endM m):=by
 have hwm:wM m=wts wC m.codes:=rfl;have hle:=vY mC_le m.codes 1;unfold dS;rw [hCodeS_eq m.codes 1 (by omega) (by omega) (by omega),i7,if_neg (by omega)];rfl
end Go.Abs

namespace Go.Abs
open PC
def isCoreB (c:PC):Bool:=c.tree&&(uniq [] (bnds c)&&(free c [] []).isEmpty)
theorem core_loop1 (fr:LI):itr (lR [] fr) LF 0=some fr.isEmpty:=by
 obtain⟨go,e,_⟩:=pZ (lR [] fr) 0;rw [e];show eB [] fr go 0=_;unfold eB;cases fr with
 |nil=>rw [if_neg (by simp)];rfl
 |cons x r=>rw [if_pos (show (0:Int)<((x::r).length:Int)by rw [List.length_cons];omega),show nth (x::r) 0=some x from rfl,i7,if_pos (mget_nil x)];rfl
theorem core_loop2 (fr:LI):itr (mL [] fr) LF 0=some fr.isEmpty:=by
 obtain⟨go,e,_⟩:=pZ (mL [] fr) 0;rw [e];show eJ [] fr go 0=_;unfold eJ;cases fr with
 |nil=>rw [if_neg (by simp)];rfl
 |cons x r=>rw [if_pos (show (0:Int)<((x::r).length:Int)by rw [List.length_cons];omega),show nth (x::r) 0=some x from rfl,i7,L4 _ _ (by simp),i7,if_neg (by simp)];rfl
theorem i_IsCore_eq (c:PC)(hc:c.nice)(hb:wK c≤1048576):tR c []=some (isCoreB c):=by
 unfold tR isCoreB;have hcw:=qO.1 c;have h2:=ak9.1 c;rw [qR RF c 1 0 (RF_cntK (by omega)) hc (by omega) (by omega) (by omega) (by omega),i7,meas_tree,rB c hc hb,i7,lX _ _ (by simp) (by omega),i7,List.nil_append];have e:itr (lQ c []) LF (0,([]:MI))=some (free c [] []).isEmpty:=by
  obtain⟨go,e,_⟩:=pZ (lQ c []) (0,([]:MI));rw [e];show eA c [] go 0 []=_;unfold eA;rw [if_neg (by simp),iP c hc (by omega),i7,core_loop1]
 rw [e];cases c.tree<;>cases uniq [] (bnds c)<;>rfl
theorem s_IsCore_eq (c:PC)(hc:c.nice)(hb:wK c≤1048576):uN c []=some (isCoreB c):=by
 unfold uN isCoreB;have hcw:=qO.1 c;have h1:=free_small c hb;have h2:=ak9.1 c;rw [s_l5Small_eq c hc (by omega),uK c hc (by omega),xV RF c (RF_cntK (by omega)) hc (by omega),xK RF c (RF_cntK (by omega)) hc,xG RF c [] (RF_cntK (by omega)) hc (by simp;omega),← few_tree];rw [i7,i7,i7,i7,dO _ (by simp),i7,i7,q8 (by simp;omega),List.nil_append,List.nil_append,aq5 _ (by omega),i7,core_loop2];by_cases g1:0≤few c 3000<;>by_cases g2:c.depth≤150<;>cases c.okAll<;>cases uniq [] (bnds c)<;>simp [g1,g2,show(150<c.depth)=¬ c.depth≤150 from propext ⟨fun h=>by omega,fun h=>by omega⟩]
theorem isCoreB_ok {c:PC}(h:isCoreB c=true):okAll c=true∧c.cnt≤3000∧∀ v,¬ fvc v c:=by
 unfold isCoreB tree at h;simp only [Bool.and_eq_true,decide_eq_true_eq]at h;refine ⟨h.1.2.2,by omega,fun v hv=>?_⟩;have hm:v∈free c [] []:=(mem_free.1 c [] [] v).2 (.inr ⟨by simp,hv⟩);rw [List.isEmpty_iff.1 h.2.2]at hm;cases hm
theorem boxM_of (l:LI):BoxM l (putMs [] l):=fun v=>by
 rw [aj1,mget_nil];by_cases h:l.contains v=true
 ·rw [if_pos h];exact⟨fun _=>h,fun _=>rfl⟩
 ·rw [if_neg h];exact⟨fun e=>absurd e (by decide),fun e=>absurd e h⟩
theorem compileN_eq (bx:LI)(c:PC):cV [] [] bx c=r9 (RF+1) [] [] [] bx c:=by
 show _=U6 (r9 RF) (m7 RF) (u9 RF) (E5 RF) [] [] [] bx c;unfold cV U6;rw [dO _ (by simp),i7,i7];obtain ⟨g1,e1,_⟩:=pZ (fA [] [] bx c) (0,(([]:LI).length:Int),0,0,[],[]);obtain ⟨g2,e2,_⟩:=pZ (P8 (m7 RF) [] [] [] bx c) (0,(([]:LI).length:Int),0,(([]:LI).length:Int),[],[]);rw [e1,e2];show V7 [] [] bx c g1 0 _ _ _ _ _=B9 (m7 RF) [] [] [] bx c g2 0 _ _ _ _ _;unfold V7 B9;rw [if_neg (by simp),if_neg (by simp)];rfl
theorem CompileCore_eq (c:PC)(hc:c.nice)(hw:wK c≤1048576):∃ r:ea×Bool,cS c=some r∧aV c=some r∧r.1.small∧wM r.1≤130000000000:=by
 have hcc:=qO.1 c;have hz:(ea.mk [] 0).small:=⟨by simp [ea.codes],fun x hx=>by cases hx⟩
 have hzw:wM (ea.mk [] 0)≤130000000000:=by show 0≤_;omega
 unfold cS aV;rw [s_IsCore_eq c hc hw,i_IsCore_eq c hc hw,i7,i7];by_cases h:isCoreB c=true
 ·obtain ⟨h1,h2,h3⟩:=isCoreB_ok h;have hbl:=al0.1 c [];simp only [List.length_nil,Nat.zero_add]at hbl;rw [if_pos h,if_pos h,rX c hc (by omega) (by omega),i7,rD c hc (by omega) (by omega),i7,i_setOf_eq _ (by simp) (fun l hl=>by rw [List.mem_singleton]at hl;subst hl;omega),i7];have e:([boxd c []]:List (LI)).flatten=boxd c []:=by simp
  rw [e];generalize boxd c []=bx at hbl;have hB:=boxM_of bx;have hcb:=node_both hB (by omega) c.cnt c (Nat.le_refl _) h1 h2;obtain ⟨n,hn⟩:∃ n,RF=n+1:=⟨RF-1,by rw [RF_eq]⟩
  obtain⟨cs',j,hj,f1,f2,f3⟩:=fin_both hB (by omega) hcb (params:=[]) (cap:=[]) (cs:=[]) ⟨fun v hv=>absurd hv (h3 v),⟨fun _ hx=>(List.not_mem_nil hx).elim,fun _ hx=>(List.not_mem_nil hx).elim⟩,by simp,by simp,h2,by simp;omega⟩ RF n (by rw [RF_eq];omega) (by rw [RF_eq]at hn;omega) 0;have hs:(ea.mk cs' j).small:=⟨by have:=f3.c2;show cs'.length≤_;simp at this;omega,fun x hx=>⟨by have:=(f3.good.1 x hx).1;omega,(f3.good.1 x hx).2⟩⟩
  have hwm:wM (ea.mk cs' j)≤130000000000:=by
   have:=f3.wt;have hw0:wts wC ([]:List dz)=0:=rfl;show wts wC cs'≤_;omega
  rw [compileN_eq,f1,i7,s_IsImage_eq _ hs,i7];have f2':m5 RF [] 0 (putMs [] bx) [] [] c=some (j,cs',0):=by rw [hn];exact f2
  rw [f2',i7,i_IsImage_eq _ hs,i7];by_cases hi:isImg (ea.mk cs' j) 0=true
  ·exact ⟨(ea.mk cs' j,true),if_pos hi,if_pos hi,hs,hwm⟩
  ·exact ⟨(ea.mk [] 0,false),if_neg hi,if_neg hi,hz,hzw⟩
 ·rw [if_neg h,if_neg h];exact⟨_,rfl,rfl,hz,hzw⟩
set_option maxRecDepth 20000 in
theorem jR (c:PC)(hc:c.wf):V3 c=some true:=by
 unfold V3;rw [(w_szK_eq RF).1 c hc _ (by omega) (by omega) (by rw [RF_eq];omega),i7];by_cases h:szw (wK c) 1048576<0
 ·rw [if_pos h]
 have f:=szw_pos h;rw [if_neg h];have wc:wK c≤1048576:=by omega
 have nc:c.nice:=nice_wK.1 c wc;have cc:=qO.1 c;obtain ⟨r,es,ei,rs,rw'⟩:=CompileCore_eq c nc wc;have m1:=markCore_eq c 1 nc (by omega) (by omega) (by omega);have l1:=endK_le 1 c;obtain ⟨n1,n2,n3⟩:=mImage_eq r.1 rw';have n4:=hImage_eq r.1 r.1.main rw';rw [toCore_eq nc (by omega),i7,es,i7,i7,ei,i7,ai8 r.1 rs,i7,if_pos rfl,if_pos rfl,i7,eqCore_eq nc (by omega),i7,if_pos rfl,m1,i7];refine (q8 (mP_len _ _)).trans ((q8 (mQ_len _ _)).trans ((q8 (mR_len _ _)).trans ?_));refine (if_neg (by show ¬ endK 1 c<0;omega)).trans ?_;rw [i7,if_pos rfl,if_pos rfl,n1,i7];refine (q8 n2).trans ?_;simp only [n4,i7];rw [if_neg (by omega),if_pos trivial,ei];simp only [i7,ai8 r.1 rs,n4,if_true];rw [if_neg (by omega)]
end Go.Abs
