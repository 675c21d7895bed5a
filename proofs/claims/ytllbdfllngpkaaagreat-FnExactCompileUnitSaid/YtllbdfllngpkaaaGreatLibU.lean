
import Derived.Test.YtllbdfllngpkaaaGreatLibT
import Derived.Test.YtllbdfllngpkaaaGreatLibS
set_option linter.all false
namespace Go.Abs
open PC
def putMs (m:List (Int×Int))(l:List Int):List (Int×Int):=l.foldl (fun m n=>mput m n 1) m
theorem mget_put (m:List (Int×Int))(n v k:Int):mget (mput m n v) k=if k=n then v else mget m k:=by
 unfold mget;induction m with
 |nil=>
  by_cases h:k=n
  .simp [mput,mlook,h]
  .simp [mput,mlook,h]
 |cons p r ih=>
  by_cases h:n=p.1
  .by_cases h2:k=n
   .simp [mput,mlook,h,h2]
   .have:¬ k=p.1:=fun e=>h2 (e.trans h.symm);simp [mput,mlook,h,this]
  .simp only [mput,if_neg h,mlook];by_cases h2:k=p.1
   .have:¬ k=n:=fun e=>h (e.symm.trans h2);simp [h2,Ne.symm h]
   .simp only [if_neg h2];exact ih
theorem ap4:∀(l:List Int) (m:List (Int×Int)) (k:Int),mget (putMs m l) k=if l.contains k=true then 1 else mget m k
 | [],m,k=>rfl
 |n::l,m,k=>by
  show mget (putMs (mput m n 1) l) k=_;rw [ap4 l,mget_put,List.contains_cons];by_cases h1:l.contains k=true
  .rw [if_pos h1,if_pos (by rw [h1,Bool.or_true])]
  .by_cases h2:k=n
   .simp [h2]
   .have:¬ (k == n)=true:=by simpa using h2
    rw [if_neg h1,if_neg h2,if_neg (by simp only [Bool.or_eq_true,not_or];exact⟨this,h1⟩)]
theorem putMs_app (m:List (Int×Int))(a b:List Int):putMs m (a++b)=putMs (putMs m a) b:=by unfold putMs;rw [List.foldl_append]
theorem i_setOf_eq (ls:List (List Int))(h:ls.length<=1048576)(hl:∀ l∈ls,l.length<=1000000000000):ag4 ls=some (putMs [] ls.flatten):=by
 unfold ag4;rw [I3 (L:=yN ls) ls.length (fun i m=>m=putMs [] (ls.take i).flatten) (fun _ _=>some (putMs [] ls.flatten)) (by omega) (fun go i m hi hm hgo=>?_) (fun go m hm=>?_) (by simp [putMs])]
 .show cS ls go i m=_;unfold cS;subst hm;rw [if_pos (by omega),w6 hi,g8];have hli:=hl _ (List.getElem_mem hi);rw [I3 (L:=yO (i:Int) go ls[i]) ls[i].length (fun j m=>m=putMs [] ((ls.take i).flatten++ls[i].take j)) (fun _ _=>some (putMs [] ls.flatten)) (by omega) (fun go2 j m hj hm hgo2=>?_) (fun go2 m hm=>?_) (by simp)]
  .show cT (i:Int) go ls[i] go2 j m=_;unfold cT;subst hm;rw [if_pos (by omega),w6 hj,g8,p0 (by omega)];refine hgo2 _ ?_;rw [List.take_add_one,List.getElem?_eq_getElem hj,<- List.append_assoc];exact (putMs_app [] _ [ls[i][j]]).symm
  .show cT (i:Int) go ls[i] go2 _ m=_;unfold cT;subst hm;rw [if_neg (by omega),p0 (by omega)];refine hgo _ ?_;rw [List.take_add_one,List.getElem?_eq_getElem hi,List.take_length,List.flatten_append];simp
 .show cS ls go _ m=_;unfold cS;subst hm;rw [if_neg (by omega),List.take_length]
def addU (o:List Int)(n:Int):List Int:=if o.contains n=true then o else o++[n]
def boxOne (c:PC)(o:List Int):List Int:=if c.kind=4 then addU o c.number else if c.kind=9 then c.params.foldl addU o else o
mutual
def boxd:PC->List Int->List Int
 |.mk k n p d ks,o=>boxds ks (boxOne (.mk k n p d ks) o)
def boxds:List PC->List Int->List Int
 | [],o=>o
 |c::r,o=>boxds r (boxd c o)
end
theorem boxd_eq (c:PC)(o:List Int):boxd c o=boxds c.kids (boxOne c o):=by cases c;rw [boxd];rfl
theorem addU_len (o:List Int)(n:Int):(addU o n).length<=o.length+1:=by unfold addU;split<;>simp
theorem pP:∀(p o:List Int),(p.foldl addU o).length<=o.length+p.length
 | [],o=>by simp
 |x::r,o=>by
  have h1:=addU_len o x;have h2:=pP r (addU o x);simp only [List.foldl_cons,List.length_cons];omega
theorem ao7 (c:PC)(o:List Int):(boxOne c o).length<=o.length+1+c.params.length:=by
 unfold boxOne;have h1:=addU_len o c.number;have h2:=pP c.params o;split
 .omega
 .split<;>omega
theorem ar1:(∀ (c:PC) (o:List Int),(boxd c o).length<=o.length+1+2 * wK c)/\∀(ds:List PC) (o:List Int),(boxds ds o).length<=o.length+2 * wKs ds:=by
 refine ind (fun ds h=>?_) (fun c h=>?_)
 .induction ds with
  |nil=>intro o;simp [boxds]
  |cons x r ih=>
   intro o;have h1:=h x (by simp) o;have h2:=ih (fun y hy=>h y (by simp [hy])) (boxd x o);unfold boxds wKs;omega
 .intro o;have h1:=ao7 c o;have h2:=h (boxOne c o);rw [boxd_eq,oR];omega
theorem zW:∀(n:Nat) (c:PC) (o:List Int),c.cnt<n->c.nice->o.length+1+2 * wK c<=1000000000->t8 n c o=some (boxd c o)
 |0,c,_,h,_,_=>by omega
 |n+1,c,o,h,hc,hl=>by
  show jD (t8 n) c o=_;have hc':=(W0 c).1 hc;have hw:=oR c;have hk:∀ o2:List Int,o2.length+2 * wKs c.kids<=1000000000->itr (kL (t8 n) c) LF (0,o2)=some (boxds c.kids o2):=fun o2 h2=>by
   rw [I3 (L:=kL (t8 n) c) c.kids.length (fun i a=>a.length+2 * wKs (c.kids.drop i)<=1000000000) (fun i a=>some (boxds (c.kids.drop i) a)) (by omega) (fun go i a hi ha hgo=>?_) (fun go a ha=>?_) (by simpa using h2)]
   .rw [List.drop_zero]
   .show Z6 (t8 n) c go i a=_;unfold Z6;rw [ay3 hi]at ha;have hb:=ar1.1 c.kids[i] a;rw [if_pos (by omega),w6 hi,g8,zW n _ a (by have:=eR hi;omega) (cK hc (List.getElem_mem hi)) (by omega),g8,p0 (by omega),hgo _ (by omega),List.drop_eq_getElem_cons hi,boxds]
   .show Z6 (t8 n) c go _ a=_;unfold Z6;rw [if_neg (by omega),List.drop_length,boxds]
  have hp:∀ o2:List Int,o2.length+c.params.length+2 * wKs c.kids<=1000000000->bK (t8 n) c o2=some (boxds c.kids (if c.kind=9 then c.params.foldl addU o2 else o2)):=fun o2 h2=>by
   unfold bK;by_cases h9:c.kind=9
   .rw [if_pos h9];rw [I3 (L:=fV (t8 n) c) c.params.length (fun i a=>a=(c.params.take i).foldl addU o2) (fun _ _=>some (boxds c.kids (c.params.foldl addU o2))) (by omega) (a:=o2) (fun go i a hi ha hgo=>?_) (fun go a ha=>?_) rfl]
    .show Q9 (t8 n) c go i a=_;unfold Q9 X8 dM;have hal:=pP (c.params.take i) o2;rw [<- ha,List.length_take]at hal;have hstep:(c.params.take (i+1)).foldl addU o2=addU a c.params[i]:=by
      rw [List.take_add_one,List.getElem?_eq_getElem hi,List.foldl_append,<- ha];rfl
     rw [if_pos (by omega),decide_eq_true h9,if_pos rfl,w6 hi,g8,L3 _ _ (by omega),g8];have hg:=hgo _ hstep.symm;unfold addU at hg;by_cases hs:a.contains c.params[i]=true
     .rw [if_pos hs]at hg;rw [if_pos hs,p0 (by omega)];exact hg
     .rw [if_neg hs]at hg;rw [if_neg hs,g8,p0 (by simp;omega),p0 (by omega)];exact hg
    .show Q9 (t8 n) c go _ a=_;unfold Q9 X8;have hal:=pP c.params o2;rw [List.take_length]at ha;rw [if_neg (by omega),if_neg (by decide),ha];exact hk _ (by omega)
   .rw [if_neg h9];have h0:∀ go,fV (t8 n) c go (0,o2)=some (boxds c.kids o2):=fun go=>by
     show Q9 (t8 n) c go 0 o2=_;unfold Q9 X8;rw [decide_eq_false h9];split<;>exact hk _ (by omega)
    exact wN (L:=fV (t8 n) c) (fun _=>some (boxds c.kids o2)) (fun v=>v=(0,o2)) (fun _=>0) (fun go v hv _=>by rw [hv];exact h0 go) _ rfl (by omega)
  unfold jD dL;rw [boxd_eq];unfold boxOne;by_cases h4:c.kind=4
  .rw [if_pos h4,if_pos h4,L3 _ _ (by omega),g8];unfold addU;have h9:¬ c.kind=9:=by omega
   cases o.contains c.number
   .rw [if_pos (show (!false)=true from rfl),if_neg (show ¬ false=true by decide),p0 (by simp;omega),hp _ (by simp;omega),if_neg h9]
   .rw [if_neg (show ¬ (!true)=true by decide),if_pos (show true=true from rfl),hp _ (by omega),if_neg h9]
  .rw [if_neg h4,if_neg h4,if_neg (by decide),hp _ (by omega)]
theorem uG (c:PC)(hc:c.nice)(hcc:c.cnt<=1048576)(hw:wK c<=40000000):aD c=some (boxd c []):=by
 unfold aD;rw [zW RF c [] (RF_cntK (by omega)) hc (by simp;omega),g8]
theorem add_ok {l:List Int}{s:Option (List (Int×Int))}(h:seenOK s l)(hl:l.length<=1000000000000)(x:Int):∃ s2,K5 l s x=some (addU l x,s2)/\seenOK s2 (addU l x):=O3 h hl x
theorem kC:∀(n:Nat) (c:PC) (o:List Int) (s:Option (List (Int×Int))),c.cnt<n->c.nice->seenOK s o->o.length+1+2 * wK c<=1000000000->∃ r,y8 n c o s=some r/\(r.1=boxd c o/\seenOK r.2 r.1)
 |0,c,_,_,h,_,_,_=>by omega
 |n+1,c,o,s,h,hc,hs,hl=>by
  show ∃ r,iC (y8 n) c o s=some r/\_;have hc':=(W0 c).1 hc;have hw:=oR c;have hk:∀(o2:List Int) (s2:Option (List (Int×Int))),boxds c.kids o2=boxd c o->seenOK s2 o2->o2.length+2 * wKs c.kids<=1000000000->∃ r,X7 (y8 n) c o2 s2=some r/\(r.1=boxd c o/\seenOK r.2 r.1):=fun o2 s2 g1 g2 g3=>by
   unfold X7;refine ah0 (L:=pY (y8 n) c) c.kids.length (fun i v=>boxds (c.kids.drop i) v.1=boxd c o/\seenOK v.2 v.1/\v.1.length+2 * wKs (c.kids.drop i)<=1000000000) _ (by omega) (fun go i v hi hv hgo=>?_) (fun go v hv=>?_) ⟨by simpa using g1,g2,by simpa using g3⟩
   .obtain ⟨l,s3⟩:=v;obtain ⟨q1,q2,q3⟩:=hv;show ∃ r,Y2 (y8 n) c go i l s3=some r/\_;unfold Y2;simp only at q1 q2 q3;rw [ay3 hi]at q3;rw [List.drop_eq_getElem_cons hi,boxds]at q1;have hb:=ar1.1 c.kids[i] l;obtain ⟨r,e1,e2,e3⟩:=kC n c.kids[i] l s3 (by have:=eR hi;omega) (cK hc (List.getElem_mem hi)) q2 (by omega);rw [if_pos (by omega),w6 hi,g8,e1,g8,p0 (by omega)];refine hgo (r.1,r.2) ⟨by show boxds _ r.1=_;rw [e2];exact q1,e3,by show r.1.length+_<=_;rw [e2];omega⟩
   .obtain ⟨l,s3⟩:=v;obtain ⟨q1,q2,q3⟩:=hv;show ∃ r,Y2 (y8 n) c go _ l s3=some r/\_;unfold Y2;rw [if_neg (by omega)];rw [List.drop_length,boxds]at q1;exact ⟨_,rfl,q1,q2⟩
  have hbo:=ao7 c o;have he:=boxd_eq c o;unfold boxOne at he hbo;unfold iC;by_cases h4:c.kind=4
  .rw [if_pos h4]at he hbo |-;obtain ⟨s2,e1,e2⟩:=add_ok hs (by omega) c.number;rw [e1,g8];exact hk _ s2 he.symm e2 (by show(addU o c.number).length+_<=_;omega)
  .rw [if_neg h4]at he hbo |-;by_cases h9:c.kind=9
   .rw [if_pos h9]at he hbo |-;refine ah0 (L:=pZ (y8 n) c) c.params.length (fun i v=>v.1=(c.params.take i).foldl addU o/\seenOK v.2 v.1) _ (by omega) (fun go i v hi hv hgo=>?_) (fun go v hv=>?_) ⟨rfl,hs⟩
    .obtain ⟨l,s3⟩:=v;obtain ⟨q1,q2⟩:=hv;show ∃ r,Y3 (y8 n) c go i l s3=some r/\_;unfold Y3;simp only at q1 q2;have hal:=pP (c.params.take i) o;rw [<- q1,List.length_take]at hal;obtain ⟨s2,e1,e2⟩:=add_ok q2 (by omega) c.params[i];rw [if_pos (by omega),w6 hi,g8,e1,g8,p0 (by omega)];refine hgo (addU l c.params[i],s2) ⟨?_,e2⟩;show addU l _=_;rw [List.take_add_one,List.getElem?_eq_getElem hi,List.foldl_append,<- q1];rfl
    .obtain ⟨l,s3⟩:=v;obtain ⟨q1,q2⟩:=hv;show ∃ r,Y3 (y8 n) c go _ l s3=some r/\_;unfold Y3;simp only at q1 q2;rw [List.take_length]at q1;rw [if_neg (by omega)];exact hk l s3 (by rw [q1];exact he.symm) q2 (by rw [q1];omega)
   .rw [if_neg h9]at he hbo |-;exact hk o s he.symm hs (by omega)
theorem tO (c:PC)(hc:c.nice)(hcc:c.cnt<=1048576)(hw:wK c<=40000000):Z9 c=some (boxd c []):=by
 unfold Z9;obtain ⟨r,e1,e2,e3⟩:=kC RF c [] none (RF_cntK (by omega)) hc af5 (by simp;omega);rw [e1,g8,e2]
end Go.Abs

namespace Go.Abs
open PC
def lkN (l:List Int)(x:Int):Nat->Int
 |0=> -1
 |k+1=>if l.getD k 0=x then(k:Int)else lkN l x k
def lk (l:List Int)(x:Int):Int:=lkN l x l.length
theorem lkN_app (l r:List Int)(x:Int):∀ k,k<=l.length->lkN (l++r) x k=lkN l x k
 |0,_=>rfl
 |k+1,h=>by
  unfold lkN;rw [lkN_app l r x k (by omega)];have e:(l++r).getD k 0=l.getD k 0:=by simp [List.getD,List.getElem?_append_left (show k<l.length by omega)]
  rw [e]
theorem lk_app (l:List Int)(y x:Int):lk (l++[y]) x=if y=x then(l.length:Int)else lk l x:=by
 unfold lk;rw [List.length_append];have e:(l++[y]).getD l.length 0=y:=by simp [List.getD]
 show(if (l++[y]).getD l.length 0=x then(l.length:Int)else lkN (l++[y]) x l.length)=_;rw [e,lkN_app l [y] x l.length (Nat.le_refl _)]
theorem lkN_mem (l:List Int)(x:Int):∀ k,k<=l.length->(0<=lkN l x k↔x∈l.take k)
 |0,_=>by unfold lkN;simp
 |k+1,h=>by
  have ih:=lkN_mem l x k (by omega);have hk:k<l.length:=by omega
  have e:l.getD k 0=l[k]:=by simp [List.getD,List.getElem?_eq_getElem hk]
  unfold lkN;rw [<- List.take_append_getElem hk,List.mem_append,e];by_cases hx:l[k]=x
  .rw [if_pos hx];simp [hx]
  .rw [if_neg hx,ih];constructor
   .exact .inl
   .rintro (h|h)
    .exact h
    .simp at h;exact absurd h.symm hx
theorem lk_mem (l:List Int)(x:Int):0<=lk l x↔x∈l:=by
 unfold lk;rw [lkN_mem l x l.length (Nat.le_refl _),List.take_length]
theorem aj8 (l:List Int)(x:Int)(h:l.length<=1000000000000):kN l x=some (lk l x):=by
 unfold kN lk;rw [p0 (show -9223372036854775808<=(l.length:Int)-1/\(l.length:Int)-1<=9223372036854775807 by omega)];refine (wN (L:=uT l x) (fun v=>some (lkN l x (v+1).toNat)) (fun v=> -1<=v/\v<l.length) (fun v=>(v+1).toNat) (fun go v hv hgo=>?_) ((l.length:Int)-1) (by omega) (by omega)).trans ?_
 .show fW l x go v=_;unfold fW;by_cases h0:v>=0
  .obtain ⟨i,rfl⟩:=Int.eq_ofNat_of_zero_le h0;have hi:i<l.length:=by omega
   have e:((i:Int)+1).toNat=i+1:=by omega
   have e2:l.getD i 0=l[i]:=by simp [List.getD,List.getElem?_eq_getElem hi]
   rw [if_pos h0,w6 hi,g8,e];unfold lkN;rw [e2];by_cases hx:l[i]=x
   .rw [if_pos hx,if_pos hx]
   .rw [if_neg hx,if_neg hx,p0 (show -9223372036854775808<=(i:Int)-1/\(i:Int)-1<=9223372036854775807 by omega),hgo _ (by omega) (by omega)];have e3:((i:Int)-1+1).toNat=i:=by omega
    rw [e3]
  .have e:(v+1).toNat=0:=by omega
   rw [if_neg h0,e];rfl
 .show some (lkN l x ((l.length:Int)-1+1).toNat)=_;have e:((l.length:Int)-1+1).toNat=l.length:=by omega
  rw [e]
def SlotM (sl:List Int)(m:List (Int×Int)):Prop:=∀ v,mlook m v=if 0<=lk sl v then some (lk sl v)else none
theorem xN:SlotM [] []:=fun v=>rfl
theorem xO {sl:List Int}{m:List (Int×Int)}(h:SlotM sl m)(n:Int):SlotM (sl++[n]) (mput m n (sl.length:Int)):=fun v=>by
 rw [yR,lk_app];by_cases e:v=n
 .subst e;rw [if_pos rfl,if_pos rfl,if_pos (by omega)]
 .have e2:¬ n=v:=fun e2=>e e2.symm;rw [if_neg e,if_neg e2];exact h v
theorem slotM_has {sl:List Int}{m:List (Int×Int)}(h:SlotM sl m)(v:Int):(mhas m v=true↔0<=lk sl v)/\(0<=lk sl v->mget m v=lk sl v):=by
 unfold mhas mget;rw [h v];by_cases e:0<=lk sl v
 .rw [if_pos e];simp [e]
 .rw [if_neg e];simp [e]
def BoxM (bx:List Int)(m:List (Int×Int)):Prop:=∀ v,mget m v=1↔bx.contains v=true
mutual
def fvc (v:Int):PC->Prop
 |.mk k n p d ks=>(named (.mk k n p d ks)=true/\n=v)\/(v∉p/\fvs v ks)
def fvs (v:Int):List PC->Prop
 | []=>False
 |c::r=>fvc v c\/fvs v r
end
theorem fvc_eq (v:Int)(c:PC):fvc v c=((named c=true/\c.number=v)\/(v∉c.params/\fvs v c.kids)):=by cases c;rw [fvc];rfl
theorem fvs_mem {v:Int}{x:PC}:∀{ds:List PC},x∈ds->fvc v x->fvs v ds
 |_::_,h,hf=>by
  rw [fvs];rcases List.mem_cons.1 h with rfl|h
  .exact .inl hf
  .exact .inr (fvs_mem h hf)
theorem mem_freeOne (c:PC)(b o:List Int)(v:Int):v∈freeOne c b o↔v∈o\/(v∉b/\named c=true/\c.number=v):=by
 unfold freeOne;split
 .rename_i h;simp only [Bool.and_eq_true,Bool.not_eq_true',List.contains_eq_mem,decide_eq_false_iff_not]at h;rw [List.mem_append,List.mem_singleton];constructor
  .rintro (h1|rfl)
   .exact .inl h1
   .exact .inr ⟨h.2.1,h.1,rfl⟩
  .rintro (h1|⟨_,_,h1⟩)
   .exact .inl h1
   .exact .inr h1.symm
 .rename_i h;simp only [Bool.and_eq_true,Bool.not_eq_true',List.contains_eq_mem,decide_eq_false_iff_not]at h;constructor
  .exact .inl
  .rintro (h1|⟨h1,h2,rfl⟩)
   .exact h1
   .by_cases h3:c.number∈o
    .exact h3
    .exact absurd ⟨h2,h1,h3⟩ h
theorem mem_free:(∀ (c:PC) (b o:List Int) (v:Int),v∈free c b o↔v∈o\/(v∉b/\fvc v c))/\∀(ds:List PC) (b o:List Int) (v:Int),v∈frees ds b o↔v∈o\/(v∉b/\fvs v ds):=by
 refine ind (fun ds h=>?_) (fun c h=>?_)
 .induction ds with
  |nil=>intro b o v;rw [frees,fvs];simp
  |cons x r ih=>
   intro b o v;rw [frees,ih (fun y hy=>h y (by simp [hy])),h x (by simp),fvs];constructor
   .rintro ((h1|h1)|h1)
    .exact .inl h1
    .exact .inr ⟨h1.1,.inl h1.2⟩
    .exact .inr ⟨h1.1,.inr h1.2⟩
   .rintro (h1|⟨h1,h2|h2⟩)
    .exact .inl (.inl h1)
    .exact .inl (.inr ⟨h1,h2⟩)
    .exact .inr ⟨h1,h2⟩
 .intro b o v;rw [gZ,h,mem_freeOne,fvc_eq,List.mem_append];constructor
  .rintro ((h1|⟨h1,h2⟩)|⟨h1,h2⟩)
   .exact .inl h1
   .exact .inr ⟨h1,.inl h2⟩
   .exact .inr ⟨fun e=>h1 (.inl e),.inr ⟨fun e=>h1 (.inr e),h2⟩⟩
  .rintro (h1|⟨h1,h2|⟨h2,h3⟩⟩)
   .exact .inl (.inl h1)
   .exact .inl (.inr ⟨h1,h2⟩)
   .exact .inr ⟨fun e=>e.elim h1 h2,h3⟩
theorem as2 (c:PC){b b':List Int}(h:∀ x,b.contains x=b'.contains x)(o:List Int):freeOne c b o=freeOne c b' o:=by unfold freeOne;rw [h]
theorem free_congr:(∀ (c:PC) (b b' o:List Int),(∀ x,b.contains x=b'.contains x)->free c b o=free c b' o)/\∀(ds:List PC) (b b' o:List Int),(∀ x,b.contains x=b'.contains x)->frees ds b o=frees ds b' o:=by
 refine ind (fun ds h=>?_) (fun c h=>?_)
 .induction ds with
  |nil=>intro b b' o _;rfl
  |cons x r ih=>
   intro b b' o hb;rw [frees,frees,h x (by simp) b b' o hb,ih (fun y hy=>h y (by simp [hy])) b b' _ hb]
 .intro b b' o hb;rw [gZ,gZ,as2 c hb,h];intro x;have:=hb x;simp only [List.contains_eq_mem,List.mem_append]at this |-;simp only [decide_eq_decide]at this |-;rw [this]
theorem free_filter (P:List Int):(∀ (c:PC) (b o:List Int),(free c b o).filter (fun x=>!P.contains x)=free c (b++P) (o.filter fun x=>!P.contains x))/\∀(ds:List PC) (b o:List Int),(frees ds b o).filter (fun x=>!P.contains x)=frees ds (b++P) (o.filter fun x=>!P.contains x):=by
 refine ind (fun ds h=>?_) (fun c h=>?_)
 .induction ds with
  |nil=>intro b o;rfl
  |cons x r ih=>
   intro b o;rw [frees,frees,ih (fun y hy=>h y (by simp [hy])),h x (by simp)]
 .intro b o;rw [gZ,gZ,h];have e:(freeOne c b o).filter (fun x=>!P.contains x)=freeOne c (b++P) (o.filter fun x=>!P.contains x):=by
   unfold freeOne;by_cases hP:P.contains c.number=true
   .have h1:(b++P).contains c.number=true:=by simp only [List.contains_eq_mem,List.mem_append,decide_eq_true_eq]at hP |-;exact .inr hP
    rw [h1];simp only [Bool.not_true,Bool.false_and,Bool.and_false,Bool.false_eq_true,if_false];split
    .rw [List.filter_append];simp [hP];simpa using hP
    .rfl
   .have hP':P.contains c.number=false:=by simpa using hP
    have h1:(b++P).contains c.number=b.contains c.number:=by
     simp only [List.contains_eq_mem,List.mem_append,decide_eq_false_iff_not]at hP' |-;simp [hP']
    have h2:(o.filter fun x=>!P.contains x).contains c.number=o.contains c.number:=by
     simp only [List.contains_eq_mem,List.mem_filter];have:¬ c.number∈P:=by simpa using hP'
     simp [this]
    rw [h1,h2];split
    .rw [List.filter_append];simp;simpa using hP'
    .rfl
  rw [e];refine free_congr.2 _ _ _ _ fun x=>?_;simp only [List.contains_eq_mem,List.mem_append,decide_eq_decide];constructor
  .rintro ((h|h)|h)
   .exact .inl (.inl h)
   .exact .inr h
   .exact .inl (.inr h)
  .rintro ((h|h)|h)
   .exact .inl (.inl h)
   .exact .inr h
   .exact .inl (.inr h)
theorem itr_LF_s {σ R:Type}(L:(σ->Option R)->σ->Option R)(v:σ):∃ go,itr L LF v=L go v/\go=itr L (LF-1):=by
 have e:LF=(LF-1)+1:=by rw [LF_eq]
 have h:itr L LF v=L (itr L (LF-1)) v:=by
  conv=>lhs;rw [e]
  rfl
 exact⟨itr L (LF-1),h,rfl⟩
theorem two_step {A B RS RI:Type}{Ls:(Int×A->Option RS)->Int×A->Option RS}{Li:(Int×B->Option RI)->Int×B->Option RI}(N:Nat)(I:Nat->A->B->Prop)
 (step:∀(i:Nat) a b,i<N->I i a b->∃ a' b',I (i+1) a' b'/\(∀ go,Ls go ((i:Int),a)=go ((i:Int)+1,a'))/\(∀ go,Li go ((i:Int),b)=go ((i:Int)+1,b'))):
 ∀(k M1 M2 i:Nat) (a:A) (b:B),i+k=N->k<M1->k<M2->I i a b->∃ a' b',I N a' b'/\(∃ go,itr Ls M1 ((i:Int),a)=Ls go ((N:Int),a'))/\(∃ go,itr Li M2 ((i:Int),b)=Li go ((N:Int),b'))
 |0,M1,M2,i,a,b,hk,h1,h2,hI=>by
  obtain⟨M1,rfl⟩:∃ m,M1=m+1:=⟨M1-1,by omega⟩
  obtain⟨M2,rfl⟩:∃ m,M2=m+1:=⟨M2-1,by omega⟩
  obtain rfl:i=N:=by omega
  exact⟨a,b,hI,⟨_,rfl⟩,⟨_,rfl⟩⟩
 |k+1,M1,M2,i,a,b,hk,h1,h2,hI=>by
  obtain⟨M1,rfl⟩:∃ m,M1=m+1:=⟨M1-1,by omega⟩
  obtain⟨M2,rfl⟩:∃ m,M2=m+1:=⟨M2-1,by omega⟩
  obtain⟨a',b',g1,g2,g3⟩:=step i a b (by omega) hI;obtain ⟨a2,b2,f1,f2,f3⟩:=two_step N I step k M1 M2 (i+1) a' b' (by omega) (by omega) (by omega) g1;refine ⟨a2,b2,f1,?_,?_⟩
  .obtain ⟨go,h⟩:=f2;exact ⟨go,((show itr Ls (M1+1) ((i:Int),a)=Ls (itr Ls M1) ((i:Int),a)from rfl).trans (g2 _)).trans (by simpa using h)⟩
  .obtain ⟨go,h⟩:=f3;exact ⟨go,((show itr Li (M2+1) ((i:Int),b)=Li (itr Li M2) ((i:Int),b)from rfl).trans (g3 _)).trans (by simpa using h)⟩
theorem mZ {A B RS RI:Type}{Ls:(Int×A->Option RS)->Int×A->Option RS}{Li:(Int×B->Option RI)->Int×B->Option RI}(N:Nat)(hN:N<=1000000000000)(I:Nat->A->B->Prop)(a:A)(b:B)(h0:I 0 a b)
 (step:∀(i:Nat) a b,i<N->I i a b->∃ a' b',I (i+1) a' b'/\(∀ go,Ls go ((i:Int),a)=go ((i:Int)+1,a'))/\(∀ go,Li go ((i:Int),b)=go ((i:Int)+1,b'))):
 ∃ a' b',I N a' b'/\(∃ go,itr Ls LF (0,a)=Ls go ((N:Int),a'))/\(∃ go,itr Li LF (0,b)=Li go ((N:Int),b')):=
 two_step N I step N LF LF 0 a b (by omega) (by rw [LF_eq];omega) (by rw [LF_eq];omega) h0
end Go.Abs

namespace Go.Abs
open PC
def zD:PD:=PD.mk 0 0 ([]:List UInt8) []
def emI (is:List ej)(op a:Int):List ej:=is++[ej.mk op a zD]
theorem X9 (is:List ej)(op a:Int):(emI is op a).length=is.length+1:=by unfold emI;simp
theorem U7 (cs:List ek)(main:Int)(bm sm cm:List (Int×Int))(p sN cp:Int)(is:List ej)(op a:Int)(h:is.length<=1000000):E8 cs main bm sm cm p sN cp is op a=some (sm,p,sN,cp,emI is op a,cs,main):=by
 unfold E8;rw [p0 (by simp;omega)];rfl
theorem aP (p sN cp:Int)(is:List ej)(sl cap bx:List Int)(op a:Int)(h:is.length<=1000000):Q8 p sN cp is sl cap bx op a=some ((is.length:Int),p,sN,cp,emI is op a,sl):=by
 unfold Q8;have e:(((is++([(ej.mk op a (PD.mk 0 0 ([]:List UInt8) []))]:List ej)).length:Nat):Int)-1=(is.length:Int):=by simp
 rw [p0 (by simp;omega),e,p0 (show -9223372036854775808<=(is.length:Int)/\(is.length:Int)<=9223372036854775807 by omega)];rfl
theorem mem_lk {l:List Int}{v:Int}(h:v∈l):0<=lk l v:=(lk_mem l v).2 h
def plO (sl:List Int)(v l c:Int):Int:=if 0<=lk sl v then l else c
def plA (sl cap:List Int)(v:Int):Int:=if 0<=lk sl v then lk sl v else lk cap v
theorem sD (cs:List ek)(main:Int)(bm sm cm:List (Int×Int))(p sN cp:Int)(is:List ej)(sl cap:List Int)(v l c:Int)(hs:SlotM sl sm)(hc:SlotM cap cm)(hv:v∈sl\/v∈cap)(h:is.length<=1000000):
 V0 cs main bm sm cm p sN cp is v l c=some (sm,p,sN,cp,emI is (plO sl v l c) (plA sl cap v),cs,main):=by
 unfold V0 plO plA;obtain ⟨h1,h2⟩:=slotM_has hs v;by_cases e:0<=lk sl v
 .rw [if_pos (h1.2 e),U7 _ _ _ _ _ _ _ _ _ _ _ h,g8,if_pos e,if_pos e,h2 e]
 .have hm:v∈cap:=hv.resolve_left fun hh=>e (mem_lk hh);rw [if_neg (fun hh=>e (h1.1 hh)),U7 _ _ _ _ _ _ _ _ _ _ _ h,g8,if_neg e,if_neg e,(slotM_has hc v).2 (mem_lk hm)]
theorem uL (p sN cp:Int)(is:List ej)(sl cap bx:List Int)(v l c:Int)(hs:sl.length<=1000000)(hc:cap.length<=3000000)(h:is.length<=1000000):
 eU p sN cp is sl cap bx v l c=some (p,sN,cp,emI is (plO sl v l c) (plA sl cap v),sl):=by
 unfold eU plO plA;rw [aj8 _ _ (by omega),g8];by_cases e:0<=lk sl v
 .rw [if_pos (show lk sl v>=0 from e),aP _ _ _ _ _ _ _ _ _ h,g8,if_pos e,if_pos e]
 .rw [if_neg (show ¬ lk sl v>=0 from e),aj8 _ _ (by omega),g8,aP _ _ _ _ _ _ _ _ _ h,g8,if_neg e,if_neg e]
theorem s_raw_eq (p sN cp:Int)(is:List ej)(sl cap bx:List Int)(v:Int)(hs:sl.length<=1000000)(hc:cap.length<=3000000)(h:is.length<=1000000):
 xG p sN cp is sl cap bx v=some (p,sN,cp,emI is (plO sl v 3 4) (plA sl cap v),sl):=uL p sN cp is sl cap bx v 3 4 hs hc h
def G (cs:List ek)(is:List ej):Prop:=(∀ c∈cs,c.instrs.length<=800000/\∀ x∈c.instrs,x.d.small)/\∀ x∈is,x.d.small
theorem zD_small:zD.small:=ax8 (by show wD zD<=_;simp [zD,wD,wDs])
theorem wI_zD (op a:Int):wI (ej.mk op a zD)=0:=by show wD zD=0;simp [zD,wD,wDs]
theorem g_emI {cs:List ek}{is:List ej}(h:G cs is)(op a:Int):G cs (emI is op a):=⟨h.1,fun x hx=>by
 unfold emI at hx;rcases List.mem_append.1 hx with hx|hx
 .exact h.2 x hx
 .rw [List.mem_singleton]at hx;subst hx;exact zD_small⟩
structure OkC (cs:List ek) (is:List ej) (sl:List Int) (k w:Nat) (cs':List ek) (is':List ej) (sl':List Int) (sm':List (Int×Int)):Prop where
 slot:SlotM sl' sm'
 good:G cs' is'
 i1:is.length<=is'.length
 i2:is'.length<=is.length+k
 c2:cs'.length<=cs.length+k
 s2:sl'.length<=sl.length+k
 sub:∀ v∈sl,v∈sl'
 wt:wts wC cs'+wts wI is'<=wts wC cs+wts wI is+100 * k+w
theorem OkC.refl {cs:List ek}{is:List ej}{sl:List Int}{sm:List (Int×Int)}(hs:SlotM sl sm)(hg:G cs is):OkC cs is sl 0 0 cs is sl sm:=
 ⟨hs,hg,Nat.le_refl _,by omega,by omega,by omega,fun _ h=>h,by omega⟩
theorem OkC.trans {cs cs1 cs2:List ek}{is is1 is2:List ej}{sl sl1 sl2:List Int}{k1 k2 w1 w2:Nat}{sm1 sm2:List (Int×Int)}(a:OkC cs is sl k1 w1 cs1 is1 sl1 sm1)(b:OkC cs1 is1 sl1 k2 w2 cs2 is2 sl2 sm2):OkC cs is sl (k1+k2) (w1+w2) cs2 is2 sl2 sm2:=
 ⟨b.slot,b.good,Nat.le_trans a.i1 b.i1,by have:=a.i2;have:=b.i2;omega,by have:=a.c2;have:=b.c2;omega,by have:=a.s2;have:=b.s2;omega,fun v h=>b.sub v (a.sub v h),by have:=a.wt;have:=b.wt;omega⟩
theorem OkC.weak {cs cs1:List ek}{is is1:List ej}{sl sl1:List Int}{k1 k2 w1 w2:Nat}{sm1:List (Int×Int)}(a:OkC cs is sl k1 w1 cs1 is1 sl1 sm1)(hk:k1<=k2)(hw:w1<=w2):OkC cs is sl k2 w2 cs1 is1 sl1 sm1:=
 ⟨a.slot,a.good,a.i1,by have:=a.i2;omega,by have:=a.c2;omega,by have:=a.s2;omega,a.sub,by have:=a.wt;omega⟩
theorem vB {α:Type}(f:α->Nat)(a:List α)(x:α):wts f (a++[x])=wts f a+1+f x:=by
 induction a with
 |nil=>rw [List.nil_append,eM];simp [wts,wsum]<;>omega
 |cons y r ih=>rw [List.cons_append,eM,eM,ih];omega
theorem OkC.emit {cs:List ek}{is:List ej}{sl:List Int}{sm:List (Int×Int)}(hs:SlotM sl sm)(hg:G cs is)(op a:Int):OkC cs is sl 1 0 cs (emI is op a) sl sm:=
 ⟨hs,g_emI hg op a,by rw [X9];omega,by rw [X9];omega,by omega,by omega,fun _ h=>h,by unfold emI;rw [vB,wI_zD];omega⟩
theorem OkC.datum {cs:List ek}{is:List ej}{sl:List Int}{sm:List (Int×Int)}(hs:SlotM sl sm)(hg:G cs is)(op a:Int){d:PD}(hd:d.small):OkC cs is sl 1 (wD d) cs (is++[ej.mk op a d]) sl sm:=
 ⟨hs,⟨hg.1,fun x hx=>by
  rcases List.mem_append.1 hx with hx|hx
  .exact hg.2 x hx
  .rw [List.mem_singleton]at hx;subst hx;exact hd⟩,by simp,by simp,by omega,by omega,fun _ h=>h,by
   rw [vB];have:wI (ej.mk op a d)=wD d:=rfl;omega⟩
theorem OkC.patch {cs cs1:List ek}{is is1:List ej}{sl sl1:List Int}{k w:Nat}{sm1:List (Int×Int)}(h:OkC cs is sl k w cs1 is1 sl1 sm1)(j:Nat)(hj:j<is1.length)(a:Int):OkC cs is sl k w cs1 (is1.set j (ej.mk is1[j].op a is1[j].d)) sl1 sm1:=by
 have hw:wts wI (is1.set j (ej.mk is1[j].op a is1[j].d))=wts wI is1:=by
  have key:∀(l:List ej) (j:Nat) (hj:j<l.length),wts wI (l.set j (ej.mk l[j].op a l[j].d))=wts wI l:=by
   intro l;induction l with
   |nil=>intro j hj;simp at hj
   |cons y r ih=>
    intro j hj;cases j with
    |zero=>show wts wI (ej.mk y.op a y.d::r)=_;rw [eM,eM];rfl
    |succ j=>
     have hj':j<r.length:=by simpa using hj
     have:=ih j hj';show wts wI (y::r.set j (ej.mk (r[j]'hj').op a (r[j]'hj').d))=_;rw [eM,eM,this]
  exact key is1 j hj
 exact⟨h.slot,⟨h.good.1,fun x hx=>by
  rcases List.mem_or_eq_of_mem_set hx with hx|rfl
  .exact h.good.2 x hx
  .exact h.good.2 is1[j] (List.getElem_mem hj)⟩,by rw [List.length_set];exact h.i1,by rw [List.length_set];exact h.i2,h.c2,h.s2,h.sub,by rw [hw];exact h.wt⟩
end Go.Abs

namespace Go.Abs
open PC
structure Pre (c:PC) (cs:List ek) (is:List ej) (sl cap:List Int) (sm cm:List (Int×Int)):Prop where
 slot:SlotM sl sm
 capt:SlotM cap cm
 sc:∀ v,fvc v c->v∈sl\/v∈cap
 good:G cs is
 li:is.length+200 * (c.cnt+1)<=800000
 lc:cs.length+200 * (c.cnt+1)<=1000000
 ls:sl.length+200 * (c.cnt+1)<=1000000
 lp:cap.length<=3000000
def CB (bx:List Int)(bm:List (Int×Int))(c:PC):Prop:=
 ∀(n1 n2:Nat) (t:Bool) (cs:List ek) (is:List ej) (sl cap:List Int) (sm cm:List (Int×Int)) (p cp main:Int),8 * (c.cnt+1)<=n1->8 * (c.cnt+1)<=n2->Pre c cs is sl cap sm cm->
  ∃ cs' is' sl' sm',n8 n1 cs p 0 cp is sl cap bx c t=some (cs',p,0,cp,is',sl')/\g7 n2 cs main bm sm cm p (sl.length:Int) cp is c t=some (sm',p,(sl'.length:Int),cp,is',cs',main)/\OkC cs is sl (200 * (c.cnt+1)) (wK c) cs' is' sl' sm'
variable {bx:List Int} {bm:List (Int×Int)}
theorem vD (hB:BoxM bx bm)(hbl:bx.length<=1000000000)(v:Int):N3 bx v=some (bx.contains v):=L3 bx v (by omega)
theorem ok_slots {cs:List ek}{sl:List Int}:∀(l:List Int) (sm:List (Int×Int)),SlotM sl sm->SlotM (sl++l) (l.foldl (fun (m:List (Int×Int)×Int) n=>(mput m.1 n m.2,m.2+1)) (sm,(sl.length:Int))).1:=by
 intro l;induction l generalizing sl with
 |nil=>intro sm h;simpa using h
 |cons x r ih=>
  intro sm h;have:=ih (sl:=sl++[x]) (mput sm x sl.length) (xO h x);simpa using this
structure PreF (body:PC) (params cap:List Int) (cs:List ek):Prop where
 sc:∀ v,fvc v body->v∈params\/v∈cap
 good:G cs []
 np:params.length<=60
 nc:cap.length<=3000000
 cn:body.cnt<=3000
 lc:cs.length+200 * (body.cnt+1)<=1000000
structure OkF (body:PC) (cs cs':List ek):Prop where
 good:G cs' []
 c2:cs'.length<=cs.length+200 * (body.cnt+1)+1
 wt:wts wC cs'<=wts wC cs+100 * (200 * (body.cnt+1))+wK body+100
theorem wC_mk (a b c:Int)(is:List ej):wC (ek.mk a b c is)=wts wI is:=rfl
def boxP (bx params:List Int):List ej:=params.zipIdx.foldl (fun is q=>if bx.contains q.1=true then emI is 10 (q.2:Int)else is) []
theorem boxP_take (bx params:List Int)(i:Nat)(h:i<params.length):boxP bx (params.take (i+1))=if bx.contains params[i]=true then emI (boxP bx (params.take i)) 10 (i:Int)else boxP bx (params.take i):=by
 unfold boxP;rw [<- List.take_append_getElem h,List.zipIdx_append,List.foldl_append];simp only [List.zipIdx_cons,List.zipIdx_nil,List.foldl_cons,List.foldl_nil,List.length_take,Nat.zero_add,Nat.min_eq_left (Nat.le_of_lt h)]
theorem fin_core (hB:BoxM bx bm)(hbl:bx.length<=1000000000){body:PC}(hb:CB bx bm body){params cap:List Int}{cs:List ek}(h:PreF body params cap cs)(n1 n2:Nat)(h1:8 * (body.cnt+1)<=n1)(h2:8 * (body.cnt+1)<=n2)(main:Int):
 ∃(cs':List ek) (j:Int),j=(cs'.length:Int)-1/\itr (X5 (n8 n1) cs params cap bx body) LF (0,(params.length:Int),0,(cap.length:Int),params,[])=some (j,cs')/\
  (∀ sm cm,SlotM params sm->SlotM cap cm->itr (M9 (g7 n2) bm params body cm) LF (0,main,cs,(params.length:Int),(params.length:Int),(cap.length:Int),sm,[])=some (j,cs',main))/\OkF body cs cs':=by
 have hnp:=h.np;have hcn:=h.cn;have hlc:=h.lc;have hpc:I64 ((params.length:Int)):=show -9223372036854775808<=(params.length:Int)/\(params.length:Int)<=9223372036854775807 by omega
 have key:∀(sm cm:List (Int×Int)),SlotM params sm->∃ is1:List ej,(is1=boxP bx params/\G cs is1/\is1.length<=params.length/\wts wI is1=is1.length)/\
  (∃ go,itr (X5 (n8 n1) cs params cap bx body) LF (0,(params.length:Int),0,(cap.length:Int),params,[])=X5 (n8 n1) cs params cap bx body go ((params.length:Int),(params.length:Int),0,(cap.length:Int),params,is1))/\
  (∃ go,itr (M9 (g7 n2) bm params body cm) LF (0,main,cs,(params.length:Int),(params.length:Int),(cap.length:Int),sm,[])=M9 (g7 n2) bm params body cm go ((params.length:Int),main,cs,(params.length:Int),(params.length:Int),(cap.length:Int),sm,is1)):=by
  intro sm cm hsm;obtain ⟨a',b',⟨is1,ha,hb1,hg⟩,e1,e2⟩:=mZ (Ls:=X5 (n8 n1) cs params cap bx body) (Li:=M9 (g7 n2) bm params body cm) params.length (by omega)
   (fun i a b=>∃ is1:List ej,a=((params.length:Int),0,(cap.length:Int),params,is1)/\b=(main,cs,(params.length:Int),(params.length:Int),(cap.length:Int),sm,is1)/\(is1=boxP bx (params.take i)/\G cs is1/\is1.length<=i/\wts wI is1=is1.length))
   ((params.length:Int),0,(cap.length:Int),params,[]) (main,cs,(params.length:Int),(params.length:Int),(cap.length:Int),sm,[]) ⟨[],rfl,rfl,rfl,h.good,Nat.le_refl _,rfl⟩
   (fun i a b hi ⟨is1,ha,hb1,hg⟩=>by
    subst ha;subst hb1;have c1:I64 ((i:Int)+1):=show -9223372036854775808<=(i:Int)+1/\(i:Int)+1<=9223372036854775807 by omega
    have hl:=hg.2.2.1;have hbt:=boxP_take bx params i hi;by_cases hbx:bx.contains params[i]=true
    .refine ⟨_,_,⟨emI is1 10 (i:Int),rfl,rfl,by rw [hbt,if_pos hbx,hg.1],g_emI hg.2.1 _ _,by rw [X9];omega,by unfold emI;rw [vB,wI_zD,hg.2.2.2];simp⟩,fun go=>?_,fun go=>?_⟩
     .show J1 (n8 n1) cs params cap bx body go (i:Int) _ _ _ _ _=_;unfold J1 R8;rw [if_pos (by omega),w6 hi,g8,vD hB hbl,g8,if_pos hbx,aP _ _ _ _ _ _ _ _ _ (by omega),g8,p0 c1]
     .show F0 (g7 n2) bm params body cm go (i:Int) _ _ _ _ _ _ _=_;unfold F0 M8;rw [if_pos (by omega),w6 hi,g8,if_pos ((hB _).2 hbx),U7 _ _ _ _ _ _ _ _ _ _ _ (by omega),g8,p0 c1]
    .refine ⟨_,_,⟨is1,rfl,rfl,by rw [hbt,if_neg hbx,hg.1],hg.2.1,by omega,hg.2.2.2⟩,fun go=>?_,fun go=>?_⟩
     .show J1 (n8 n1) cs params cap bx body go (i:Int) _ _ _ _ _=_;unfold J1 R8;rw [if_pos (by omega),w6 hi,g8,vD hB hbl,g8,if_neg hbx,p0 c1]
     .show F0 (g7 n2) bm params body cm go (i:Int) _ _ _ _ _ _ _=_;unfold F0 M8;rw [if_pos (by omega),w6 hi,g8,if_neg (fun e=>hbx ((hB _).1 e)),p0 c1])
  subst ha;subst hb1;rw [List.take_length]at hg;exact ⟨is1,hg,e1,e2⟩
 obtain⟨sm0,hsm0⟩:∃ sm0,SlotM params sm0:=⟨_,by simpa using ok_slots (cs:=cs) params [] xN⟩
 obtain⟨cm0,hcm0⟩:∃ cm0,SlotM cap cm0:=⟨_,by simpa using ok_slots (cs:=cs) cap [] xN⟩
 obtain⟨is0,hg0,⟨go0,es⟩,_⟩:=key sm0 cm0 hsm0;obtain ⟨cs',is',sl',sm',q1,_,q3⟩:=hb n1 n2 true cs is0 params cap sm0 cm0 (params.length:Int) (cap.length:Int) main h1 h2 ⟨hsm0,hcm0,h.sc,hg0.2.1,by have:=hg0.2.2.1;omega,hlc,by omega,h.nc⟩;have z1:=q3.c2;have z2:=q3.i2;have z3:=q3.s2;have z4:=hg0.2.2.1;have fit:(cs'.length+([(ek.mk (params.length:Int) (sl'.length:Int) (cap.length:Int) is')]:List ek).length) * 48<=140737488355328:=by simp;omega
 have fit2:I64 ((((cs'++([(ek.mk (params.length:Int) (sl'.length:Int) (cap.length:Int) is')]:List ek)).length:Nat):Int)-1):=by
  show -9223372036854775808<=_/\_<=9223372036854775807;rw [List.length_append,List.length_singleton];omega
 refine⟨cs'++[ek.mk (params.length:Int) (sl'.length:Int) (cap.length:Int) is'],_,rfl,?_,fun sm cm hsm hcm=>?_,⟨⟨fun c hc=>?_,fun x hx=>by cases hx⟩,?_,?_⟩⟩
 .rw [es];show J1 (n8 n1) cs params cap bx body go0 (params.length:Int) _ _ _ _ _=_;unfold J1;rw [if_neg (by omega),q1,g8,p0 fit,p0 fit2]
 .obtain ⟨is2,hg2,⟨_,es2⟩,⟨gi,ei⟩⟩:=key sm cm hsm;have e02:is2=is0:=by rw [hg2.1,hg0.1]
  subst e02;obtain ⟨cs2,is3,sl2,sm2,r1,r2,_⟩:=hb n1 n2 true cs is2 params cap sm cm (params.length:Int) (cap.length:Int) main h1 h2 ⟨hsm,hcm,h.sc,hg2.2.1,by have:=hg2.2.2.1;omega,hlc,by omega,h.nc⟩;rw [q1]at r1;simp only [Option.some.injEq,Prod.mk.injEq,true_and]at r1;obtain ⟨rfl,rfl,rfl⟩:=r1;rw [ei];show F0 (g7 n2) bm params body cm gi (params.length:Int) _ _ _ _ _ _ _=_;unfold F0;rw [if_neg (by omega),r2,g8,p0 fit,p0 fit2]
 .rcases List.mem_append.1 hc with hc|hc
  .exact q3.good.1 c hc
  .rw [List.mem_singleton]at hc;subst hc;exact ⟨by show is'.length<=_;omega,q3.good.2⟩
 .rw [List.length_append,List.length_singleton];omega
 .have z5:=q3.wt;have z6:=hg0.2.2.2;rw [vB,wC_mk];omega
end Go.Abs

namespace Go.Abs
open PC
variable {bx:List Int} {bm:List (Int×Int)}
theorem au8 {B RI:Type}{Li:(Int×B->Option RI)->Int×B->Option RI}(N:Nat)(hN:N<=1000000000000)(I:Nat->B->Prop)(b:B)(h0:I 0 b)
 (step:∀(i:Nat) b,i<N->I i b->∃ b',I (i+1) b'/\(∀ go,Li go ((i:Int),b)=go ((i:Int)+1,b'))):∃ b',I N b'/\(∃ go,itr Li LF (0,b)=Li go ((N:Int),b')):=by
 obtain⟨a',b',⟨h1,_⟩,h2,_⟩:=mZ (Ls:=Li) (Li:=Li) N hN (fun i a b=>I i a/\a=b) b b ⟨h0,rfl⟩ (fun i a b hi ⟨h1,h2⟩=>by
  subst h2;obtain ⟨b',g1,g2⟩:=step i a hi h1;exact ⟨b',b',⟨g1,rfl⟩,g2,g2⟩)
 exact⟨a',h1,h2⟩
theorem s_freeA_eq (c:PC)(b:List Int)(hc:c.nice)(hb:b.length<=1000)(hw:wK c<=40000000):jE c b []=some (free c b []):=by
 unfold jE;have hc':=(W0 c).1 hc;have hwe:=oR c;have hcc:=cnt_eq c;have hcw:=sY.1 c;have hJ2:∀ o:List Int,o.length<=1->V1 c b o=some (frees c.kids (b++c.params) o):=fun o ho=>by
  unfold V1;rw [Z5 _ (by omega),g8,p0 (by omega),yE (L:=kM c b) (E:=B7 RF) c (b++c.params) o hc'.2.2.1 (by omega) (fun i hi o ho=>uS RF _ _ o (RF_cntK (by have:=eR hi;omega)) (cK hc (List.getElem_mem hi)) (by have:=uZ (List.getElem_mem hi);rw [List.length_append];omega) ho) (fun go i o=>rfl)]
 have hJ1:∀ x,R2 c b [] x=some (frees c.kids (b++c.params) (if x=true then []++[c.number]else [])):=fun x=>by
  unfold R2;cases x
  .exact hJ2 [] (by simp)
  .rw [if_pos rfl,if_pos rfl,p0 (by simp)];exact hJ2 _ (by simp)
 rw [kO,g8,L3 _ _ (by omega),L3 _ _ (by simp),g8,g8];simp only [hJ1];rw [gZ];unfold freeOne;cases named c<;>cases b.contains c.number<;>rfl
theorem fin_impl (n:Nat)(cs:List ek)(main:Int)(params cap:List Int)(body:PC)(hp:params.length<=60)(hc:cap.length<=3000000):
 ∃ sm cm,SlotM params sm/\SlotM cap cm/\l7 (n+1) cs main bm params cap body=itr (M9 (g7 n) bm params body cm) LF (0,main,cs,(params.length:Int),(params.length:Int),(cap.length:Int),sm,[]):=by
 obtain⟨cm,h1,⟨go1,e1⟩⟩:=au8 (Li:=eP (g7 n) cs main bm params cap body) cap.length (by omega) (fun i m=>SlotM (cap.take i) m) ([]:List (Int×Int)) xN (fun i m hi hm=>by
  refine⟨mput m cap[i] (i:Int),?_,fun go=>?_⟩
  .have:=xO hm cap[i];rw [List.length_take,Nat.min_eq_left (Nat.le_of_lt hi)]at this;rw [<- List.take_append_getElem hi];exact this
  .show K0 (g7 n) cs main bm params cap body go (i:Int) m=_;unfold K0;rw [if_pos (by omega),w6 hi,g8,p0 (show -9223372036854775808<=(i:Int)+1/\(i:Int)+1<=9223372036854775807 by omega)])
 obtain⟨b2,⟨sm,hb2,h2⟩,⟨go2,e2⟩⟩:=au8 (Li:=eQ (g7 n) bm params body cm) params.length (by omega)
  (fun i b=>∃ sm,b=(main,cs,(params.length:Int),(i:Int),(cap.length:Int),sm,([]:List ej))/\SlotM (params.take i) sm) (main,cs,(params.length:Int),0,(cap.length:Int),([]:List (Int×Int)),([]:List ej)) ⟨[],rfl,xN⟩ (fun i b hi ⟨sm,hb,hm⟩=>by
  subst hb;refine ⟨_,⟨mput sm params[i] (i:Int),rfl,?_⟩,fun go=>?_⟩
  .have:=xO hm params[i];rw [List.length_take,Nat.min_eq_left (Nat.le_of_lt hi)]at this;rw [<- List.take_append_getElem hi];exact this
  .show K1 (g7 n) bm params body cm go (i:Int) _ _ _ _ _ _ _=_;unfold K1 dC;rw [if_pos (by omega),w6 hi,g8,p0 (show -9223372036854775808<=(i:Int)+1/\(i:Int)+1<=9223372036854775807 by omega),g8,p0 (show -9223372036854775808<=(i:Int)+1/\(i:Int)+1<=9223372036854775807 by omega)];rfl)
 subst hb2;rw [List.take_length]at h1 h2;refine ⟨sm,cm,h2,h1,?_⟩;show aA (l7 n) (g7 n) (o8 n) (p8 n) (p9 n) cs main bm params cap body=_;unfold aA;rw [e1];show K0 (g7 n) cs main bm params cap body go1 (cap.length:Int) cm=_;unfold K0;rw [if_neg (by omega),e2];show K1 (g7 n) bm params body cm go2 (params.length:Int) _ _ _ _ _ _ _=_;unfold K1;rw [if_neg (by omega)]
theorem fin_both (hB:BoxM bx bm)(hbl:bx.length<=1000000000){body:PC}(hb:CB bx bm body){params cap:List Int}{cs:List ek}(h:PreF body params cap cs)(n1 n2:Nat)(h1:8 * (body.cnt+1)<=n1)(h2:8 * (body.cnt+1)<=n2)(main:Int):
 ∃(cs':List ek) (j:Int),j=(cs'.length:Int)-1/\r9 (n1+1) cs params cap bx body=some (j,cs')/\l7 (n2+1) cs main bm params cap body=some (j,cs',main)/\OkF body cs cs':=by
 obtain⟨cs',j,hj,e1,e2,e3⟩:=fin_core hB hbl hb h n1 n2 h1 h2 main;obtain ⟨sm,cm,g1,g2,g3⟩:=fin_impl (bm:=bm) n2 cs main params cap body h.np h.nc;refine ⟨cs',j,hj,?_,by rw [g3];exact e2 sm cm g1 g2,e3⟩;show cB (r9 n1) (n8 n1) (w7 n1) (I1 n1) cs params cap bx body=_;unfold cB;rw [Z5 _ (by have:=h.np;omega),g8];exact e1
theorem taken_both (fr:List Int)(hf:fr.length<=3100)(cs:List ek)(is:List ej)(sl cap:List Int)(sm cm:List (Int×Int))(p cp main op:Int)(params:List Int)(body:PC)(sC:List ek->List Int->List Int->List Int->PC->Option (Int×List ek))
 (iF:List ek->Int->List (Int×Int)->List Int->List Int->PC->Option (Int×List ek×Int)) (hs:SlotM sl sm) (hc:SlotM cap cm) (hg:G cs is) (hv:∀ v∈fr,v∈sl\/v∈cap) (hi:is.length+fr.length<=800000) (hl:sl.length<=1000000) (hlc:cap.length<=3000000):
 ∃ is1,OkC cs is sl fr.length 0 cs is1 sl sm/\wts wI is1=wts wI is+fr.length/\(∃ go,itr (eC sC cs cap bx op params body fr) LF (0,p,0,cp,is,sl)=eC sC cs cap bx op params body fr go ((fr.length:Int),p,0,cp,is1,sl))/\
  (∃ go,itr (U2 iF bm cm op params body fr) LF (0,p,(sl.length:Int),cp,main,cs,sm,is)=U2 iF bm cm op params body fr go ((fr.length:Int),p,(sl.length:Int),cp,main,cs,sm,is1)):=by
 obtain⟨a',b',⟨is1,ha,hb1,hok,hw1⟩,e1,e2⟩:=mZ (Ls:=eC sC cs cap bx op params body fr) (Li:=U2 iF bm cm op params body fr) fr.length (by omega)
  (fun i a b=>∃ is1,a=(p,0,cp,is1,sl)/\b=(p,(sl.length:Int),cp,main,cs,sm,is1)/\OkC cs is sl i 0 cs is1 sl sm/\wts wI is1=wts wI is+i) (p,0,cp,is,sl) (p,(sl.length:Int),cp,main,cs,sm,is) ⟨is,rfl,rfl,OkC.refl hs hg,rfl⟩ (fun i a b hi' ⟨is1,ha,hb1,hok,hw1⟩=>by
   subst ha;subst hb1;have c1:I64 ((i:Int)+1):=show -9223372036854775808<=(i:Int)+1/\(i:Int)+1<=9223372036854775807 by omega
   have hle:=hok.i2;refine ⟨_,_,⟨emI is1 (plO sl fr[i] 3 4) (plA sl cap fr[i]),rfl,rfl,hok.trans (OkC.emit hs hok.good _ _),by unfold emI;rw [vB,wI_zD];omega⟩,fun go=>?_,fun go=>?_⟩
   .show W6 sC cs cap bx op params body fr go (i:Int) _ _ _ _ _=_;unfold W6;rw [if_pos (by omega),w6 hi',g8,s_raw_eq _ _ _ _ _ _ _ _ hl hlc (by omega),g8,p0 c1]
   .show N1 iF bm cm op params body fr go (i:Int) _ _ _ _ _ _ _=_;unfold N1;rw [if_pos (by omega),w6 hi',g8,sD _ _ _ _ _ _ _ _ _ _ _ _ _ _ hs hc (hv _ (List.getElem_mem hi')) (by omega),g8,p0 c1])
 subst ha;subst hb1;exact ⟨is1,hok,hw1,e1,e2⟩
theorem filter_impl (n:Nat)(cs:List ek)(main:Int)(sm cm:List (Int×Int))(p sN cp:Int)(is:List ej)(op:Int)(params:List Int)(body:PC)(hp:params.length<=1000)(hn:body.nice)(hw:wK body<=40000000)(hc:body.cnt<=3000):
 p9 (n+1) cs main bm sm cm p sN cp is op params body=itr (U2 (l7 n) bm cm op params body (free body params [])) LF (0,p,sN,cp,main,cs,sm,is):=by
 show bA (l7 n) (g7 n) (o8 n) (p8 n) (p9 n) cs main bm sm cm p sN cp is op params body=_;unfold bA;rw [dS body hn hw,g8];have hfl:=rX.1 body [] [];simp only [List.length_nil,Nat.zero_add]at hfl;generalize hfr:free body [] []=fr at hfl;have hfin:fr.filter (fun x=>!params.contains x)=free body params []:=by
  rw [<- hfr,(free_filter params).1];rfl
 obtain⟨b',h1,⟨go,e1⟩⟩:=au8 (Li:=gI (l7 n) cs main bm sm cm p sN cp is op params body fr) fr.length (by omega) (fun i (o:List Int)=>o=(fr.take i).filter (fun x=>!params.contains x)) ([]:List Int) rfl (fun i o hi ho=>by
  have c1:I64 ((i:Int)+1):=show -9223372036854775808<=(i:Int)+1/\(i:Int)+1<=9223372036854775807 by omega
  have hol:o.length<=3100:=by
   have:=List.length_filter_le (fun x=>!params.contains x) (fr.take i);rw [<- ho,List.length_take]at this;omega
  have ht:(fr.take (i+1)).filter (fun x=>!params.contains x)=o++(if params.contains fr[i]=true then []else [fr[i]]):=by
   rw [<- List.take_append_getElem hi,List.filter_append,<- ho];by_cases h:params.contains fr[i]=true
   .rw [if_pos h];simp;simpa using h
   .rw [if_neg h];simp;simpa using h
  by_cases h:params.contains fr[i]=true
  .refine ⟨o,by rw [ht,if_pos h,List.append_nil],fun go=>?_⟩;show F9 (l7 n) cs main bm sm cm p sN cp is op params body fr go (i:Int) o=_;unfold F9 O7;rw [if_pos (by omega),w6 hi,g8,nR _ _ (by omega),g8,if_pos h,p0 c1]
  .refine ⟨o++[fr[i]],by rw [ht,if_neg h],fun go=>?_⟩;show F9 (l7 n) cs main bm sm cm p sN cp is op params body fr go (i:Int) o=_;unfold F9 O7;rw [if_pos (by omega),w6 hi,g8,nR _ _ (by omega),g8,if_neg h,p0 (by simp;omega),p0 c1])
 rw [e1];show F9 (l7 n) cs main bm sm cm p sN cp is op params body fr go (fr.length:Int) b'=_;unfold F9;rw [List.take_length,hfin]at h1;rw [if_neg (by omega),h1]
theorem inner_both (hB:BoxM bx bm)(hbl:bx.length<=1000000000){body:PC}(hb:CB bx bm body)(n1 n2:Nat)(h1:8 * (body.cnt+1)<=n1)(h2:8 * (body.cnt+1)<=n2)(cs:List ek)(is:List ej)(sl cap:List Int)(sm cm:List (Int×Int))(p cp main op:Int)(params:List Int)
 (hs:SlotM sl sm) (hc:SlotM cap cm) (hg:G cs is) (hsc:∀ v,fvc v body->v∉params->v∈sl\/v∈cap) (hp:params.length<=60) (hn:body.nice) (hw:wK body<=40000000) (hcn:body.cnt<=3000) (hi:is.length+body.cnt+10<=800000) (hlc:cs.length+200 * (body.cnt+1)<=1000000) (hl:sl.length<=1000000) (hlp:cap.length<=3000000):
 ∃ cs' is',w7 (n1+2) cs p 0 cp is sl cap bx op params body=some (cs',p,0,cp,is',sl)/\p9 (n2+2) cs main bm sm cm p (sl.length:Int) cp is op params body=some (sm,p,(sl.length:Int),cp,is',cs',main)/\
  SlotM sl sm/\G cs' is'/\is.length<=is'.length/\is'.length<=is.length+body.cnt+2/\cs'.length<=cs.length+200 * (body.cnt+1)+1/\wts wC cs'+wts wI is'<=wts wC cs+wts wI is+100 * (200 * (body.cnt+1))+wK body+body.cnt+303:=by
 have hfl:=rX.1 body params [];simp only [List.length_nil,Nat.zero_add]at hfl;have hmem:∀ v,v∈free body params []↔(v∉params/\fvc v body):=fun v=>by rw [mem_free.1];simp
 obtain⟨is1,ok1,hw1,⟨go1,e1⟩,⟨go2,e2⟩⟩:=taken_both (bx:=bx) (bm:=bm) (free body params []) (by omega) cs is sl cap sm cm p cp main op params body (r9 (n1+1)) (l7 (n2+1)) hs hc hg (fun v hv=>by
  have:=(hmem v).1 hv;exact hsc v this.2 this.1) (by omega) hl (by omega)
 have z1:=ok1.i2;have z2:=ok1.i1;have z3:=ok1.wt;obtain ⟨cs',j,hj,f1,f2,f3⟩:=fin_both hB hbl hb (params:=params) (cap:=free body params []) (cs:=cs) ⟨fun v hv=>by
  by_cases h:v∈params
  .exact .inl h
  .exact .inr ((hmem v).2 ⟨h,hv⟩),⟨hg.1,fun x hx=>by cases hx⟩,hp,by omega,hcn,hlc⟩ n1 n2 h1 h2 main
 have y1:=f3.c2;have y2:=f3.wt;refine ⟨cs',emI is1 op j,?_,?_,hs,g_emI ⟨f3.good.1,ok1.good.2⟩ _ _,by rw [X9];omega,by rw [X9];omega,y1,?_⟩
 .show fS (r9 (n1+1)) (n8 (n1+1)) (w7 (n1+1)) (I1 (n1+1)) cs p 0 cp is sl cap bx op params body=_;unfold fS;rw [s_freeA_eq body params hn (by omega) hw,g8,e1];show W6 (r9 (n1+1)) cs cap bx op params body (free body params []) go1 ((free body params []).length:Int) _ _ _ _ _=_;unfold W6;rw [if_neg (by omega),f1,g8,aP _ _ _ _ _ _ _ _ _ (by omega),g8]
 .rw [filter_impl (n2+1) cs main sm cm p (sl.length:Int) cp is op params body (by omega) hn hw hcn,e2];show N1 (l7 (n2+1)) bm cm op params body (free body params []) go2 ((free body params []).length:Int) _ _ _ _ _ _ _=_;unfold N1;rw [if_neg (by omega),f2,g8,U7 _ _ _ _ _ _ _ _ _ _ _ (by omega),g8]
 .unfold emI;rw [vB,wI_zD];omega
end Go.Abs

namespace Go.Abs
open PC
variable {bx:List Int} {bm:List (Int×Int)}
theorem lS:∀(ds:List PC) (i:Nat) (h:i<ds.length),cnts (ds.take (i+1))=cnts (ds.take i)+(1+cnt ds[i])
 |d::r,0,_=>by simp [cnts]
 |d::r,i+1,h=>by
  have:=lS r i (by simpa using h);rw [List.take_succ_cons,List.take_succ_cons,cnts,cnts,this,List.getElem_cons_succ];omega
theorem xP:∀(ds:List PC) (i:Nat) (h:i<ds.length),wKs (ds.take (i+1))=wKs (ds.take i)+(1+wK ds[i])
 |d::r,0,_=>by simp [wKs]
 |d::r,i+1,h=>by
  have:=xP r i (by simpa using h);rw [List.take_succ_cons,List.take_succ_cons,wKs,wKs,this,List.getElem_cons_succ];omega
theorem zC:∀(ds:List PC) (i:Nat),cnts (ds.take i)<=cnts ds
 | [],i=>by simp
 |d::r,0=>by simp [cnts]
 |d::r,i+1=>by
  have:=zC r i;rw [List.take_succ_cons,cnts,cnts];omega
theorem I64n {i:Nat}(h:i<=1000000000):I64 ((i:Int)+1):=show -9223372036854775808<=(i:Int)+1/\(i:Int)+1<=9223372036854775807 by omega
theorem I64m {i:Nat}(h:i<=1000000000):I64 ((i:Int)-1):=show -9223372036854775808<=(i:Int)-1/\(i:Int)-1<=9223372036854775807 by omega
theorem qD {cs cs1:List ek}{is is1:List ej}{sl sl1:List Int}{sm1:List (Int×Int)}{k w:Nat}(h:OkC cs is sl k w cs1 is1 sl1 sm1)(hl:is1.length<=1000000)(cap:List Int)(cm:List (Int×Int))(t:Bool)(p cp main:Int):
 ∃ is2,F7 cap bx t cs1 p 0 cp is1 sl1=some (cs1,p,0,cp,is2,sl1)/\A0 bm cm t p (sl1.length:Int) cp main cs1 sm1 is1=some (sm1,p,(sl1.length:Int),cp,is2,cs1,main)/\OkC cs is sl (k+1) w cs1 is2 sl1 sm1:=by
 cases t with
 |false=>exact⟨is1,rfl,rfl,h.weak (by omega) (Nat.le_refl _)⟩
 |true=>
  refine⟨emI is1 14 0,?_,?_,h.trans (OkC.emit h.slot h.good 14 0)⟩
  .unfold F7;rw [if_pos rfl,aP _ _ _ _ _ _ _ _ _ hl,g8]
  .unfold A0;rw [if_pos rfl,U7 _ _ _ _ _ _ _ _ _ _ _ hl,g8]
structure PreK (ks:List PC) (k:Nat) (cs:List ek) (is:List ej) (sl cap:List Int) (sm cm:List (Int×Int)):Prop where
 slot:SlotM sl sm
 capt:SlotM cap cm
 sc:∀ x∈ks,∀ v,fvc v x->v∈sl\/v∈cap
 good:G cs is
 li:is.length+200 * cnts ks+k<=800000
 lc:cs.length+200 * cnts ks+k<=1000000
 ls:sl.length+200 * cnts ks+k<=1000000
 lp:cap.length<=3000000
theorem PreK.kid {ks:List PC}{k:Nat}{cs cs1:List ek}{is is1:List ej}{sl sl1 cap:List Int}{sm sm1 cm:List (Int×Int)}(h:PreK ks k cs is sl cap sm cm){i j w:Nat}(hi:i<ks.length)(hj:j<=k)(ok:OkC cs is sl (200 * cnts (ks.take i)+j) w cs1 is1 sl1 sm1):Pre ks[i] cs1 is1 sl1 cap sm1 cm:=by
 have e:=lS ks i hi;have e2:=zC ks (i+1);have h1:=h.li;have h2:=h.lc;have h3:=h.ls;have g1:=ok.i2;have g2:=ok.c2;have g3:=ok.s2;exact ⟨ok.slot,h.capt,fun v hv=>(h.sc ks[i] (List.getElem_mem hi) v hv).imp (ok.sub v) id,ok.good,by omega,by omega,by omega,h.lp⟩
theorem kids_both {c:PC}(hC:∀ x∈c.kids,CB bx bm x)(n1 n2:Nat)(h1:∀ x∈c.kids,8 * (x.cnt+1)<=n1)(h2:∀ x∈c.kids,8 * (x.cnt+1)<=n2)(hk:c.kids.length<=60)(t:Bool)(cs:List ek)(is:List ej)(sl cap:List Int)(sm cm:List (Int×Int))(p cp main:Int)
 (h:PreK c.kids 0 cs is sl cap sm cm):∃ cs1 is1 sl1 sm1,OkC cs is sl (200 * cnts c.kids) (wKs c.kids) cs1 is1 sl1 sm1/\
  (∃ go,itr (fT (n8 n1) cap bx c t) LF (0,cs,p,0,cp,is,sl)=fT (n8 n1) cap bx c t go ((c.kids.length:Int),cs1,p,0,cp,is1,sl1))/\
  (∃ go,itr (U8 (g7 n2) bm cm c t) LF (0,p,(sl.length:Int),cp,main,cs,sm,is)=U8 (g7 n2) bm cm c t go ((c.kids.length:Int),p,(sl1.length:Int),cp,main,cs1,sm1,is1)):=by
 obtain⟨a',b',⟨cs1,is1,sl1,sm1,ha,hb1,hok⟩,e1,e2⟩:=mZ (Ls:=fT (n8 n1) cap bx c t) (Li:=U8 (g7 n2) bm cm c t) c.kids.length (by omega)
  (fun i a b=>∃ cs1 is1 sl1 sm1,a=(cs1,p,0,cp,is1,sl1)/\b=(p,((sl1:List Int).length:Int),cp,main,cs1,sm1,is1)/\OkC cs is sl (200 * cnts (c.kids.take i)+0) (wKs (c.kids.take i)) cs1 is1 sl1 sm1) (cs,p,0,cp,is,sl) (p,(sl.length:Int),cp,main,cs,sm,is)
  ⟨cs,is,sl,sm,rfl,rfl,OkC.refl h.slot h.good⟩ (fun i a b hi ⟨cs1,is1,sl1,sm1,ha,hb1,hok⟩=>by
   subst ha;subst hb1;have hm:=List.getElem_mem hi;obtain ⟨cs2,is2,sl2,sm2,q1,q2,q3⟩:=hC _ hm n1 n2 false cs1 is1 sl1 cap sm1 cm p cp main (h1 _ hm) (h2 _ hm) (h.kid hi (Nat.le_refl _) hok);refine ⟨_,_,⟨cs2,is2,sl2,sm2,rfl,rfl,(hok.trans q3).weak (by rw [lS _ _ hi];omega) (by rw [xP _ _ hi];omega)⟩,fun go=>?_,fun go=>?_⟩
   .show Q5 (n8 n1) cap bx c t go (i:Int) _ _ _ _ _ _=_;unfold Q5;rw [if_pos (by omega),w6 hi,g8,q1,g8,p0 (I64n (by omega))]
   .show D5 (g7 n2) bm cm c t go (i:Int) _ _ _ _ _ _ _=_;unfold D5;rw [if_pos (by omega),w6 hi,g8,q2,g8,p0 (I64n (by omega))])
 subst ha;subst hb1;rw [List.take_length]at hok;exact ⟨cs1,is1,sl1,sm1,hok,e1,e2⟩
theorem list_both {c:PC}(hC:∀ x∈c.kids,CB bx bm x)(n1 n2:Nat)(h1:∀ x∈c.kids,8 * (x.cnt+1)<=n1)(h2:∀ x∈c.kids,8 * (x.cnt+1)<=n2)(hk:c.kids.length<=60)(t:Bool)(cs:List ek)(is:List ej)(sl cap:List Int)(sm cm:List (Int×Int))(p cp main:Int)
 (h:PreK c.kids 60 cs is sl cap sm cm):∃ cs1 is1 sl1 sm1,OkC cs is sl (200 * cnts c.kids+60) (wKs c.kids) cs1 is1 sl1 sm1/\
  itr (kG (n8 n1) cap bx c t) LF (0,cs,p,0,cp,is,sl)=some (cs1,p,0,cp,is1,sl1)/\
  p8 (n2+1) cs main bm sm cm p (sl.length:Int) cp is c.kids t=some (sm1,p,(sl1.length:Int),cp,is1,cs1,main):=by
 obtain⟨a',b',⟨cs1,is1,sl1,sm1,ha,hb1,hok⟩,⟨go1,e1⟩,⟨go2,e2⟩⟩:=mZ (Ls:=kG (n8 n1) cap bx c t) (Li:=iG (g7 n2) bm cm c.kids t) c.kids.length (by omega)
  (fun i a b=>∃ cs1 is1 sl1 sm1,a=(cs1,p,0,cp,is1,sl1)/\b=(p,((sl1:List Int).length:Int),cp,main,cs1,sm1,is1)/\OkC cs is sl (200 * cnts (c.kids.take i)+i) (wKs (c.kids.take i)) cs1 is1 sl1 sm1) (cs,p,0,cp,is,sl) (p,(sl.length:Int),cp,main,cs,sm,is)
  ⟨cs,is,sl,sm,rfl,rfl,OkC.refl h.slot h.good⟩ (fun i a b hi ⟨cs1,is1,sl1,sm1,ha,hb1,hok⟩=>by
   subst ha;subst hb1;have hm:=List.getElem_mem hi;have hpre:=h.kid hi (show i<=60 by omega) hok;obtain ⟨cs2,is2,sl2,sm2,q1,q2,q3⟩:=hC _ hm n1 n2 (t&&decide (i+1=c.kids.length)) cs1 is1 sl1 cap sm1 cm p cp main (h1 _ hm) (h2 _ hm) hpre;have hl2:is2.length<=1000000:=by have:=q3.i2;have:=hpre.li;omega
   by_cases hla:i+1=c.kids.length
   .have d1:decide (i+1=c.kids.length)=true:=decide_eq_true hla;have d2:decide ((i:Int)+1=(c.kids.length:Int))=true:=decide_eq_true (by omega);rw [d1,Bool.and_true]at q1 q2;refine ⟨_,_,⟨cs2,is2,sl2,sm2,rfl,rfl,(hok.trans q3).weak (by rw [lS _ _ hi];omega) (by rw [xP _ _ hi];omega)⟩,fun go=>?_,fun go=>?_⟩
    .show Q7 (n8 n1) cap bx c t go (i:Int) _ _ _ _ _ _=_;unfold Q7 bE bD;rw [if_pos (by omega),w6 hi,g8,p0 (I64m (by omega)),if_pos (by omega),q1,g8,if_pos (by omega),p0 (I64n (by omega))]
    .show J0 (g7 n2) bm cm c.kids t go (i:Int) _ _ _ _ _ _ _=_;unfold J0 R7 R6;rw [if_pos (by omega),w6 hi,g8,p0 (I64n (by omega))];cases t with
     |true=>rw [if_pos rfl,d2,q2,g8,if_pos (by omega),p0 (I64n (by omega))]
     |false=>rw [if_neg (by simp),q2,g8,if_pos (by omega),p0 (I64n (by omega))]
   .have d1:decide (i+1=c.kids.length)=false:=decide_eq_false hla;have d2:decide ((i:Int)+1=(c.kids.length:Int))=false:=decide_eq_false (by omega);rw [d1,Bool.and_false]at q1 q2;refine ⟨_,_,⟨cs2,emI is2 17 0,sl2,sm2,rfl,rfl,((hok.trans q3).trans (OkC.emit q3.slot q3.good 17 0)).weak (by rw [lS _ _ hi];omega) (by rw [xP _ _ hi];omega)⟩,fun go=>?_,fun go=>?_⟩
    .show Q7 (n8 n1) cap bx c t go (i:Int) _ _ _ _ _ _=_;unfold Q7 bE bD;rw [if_pos (by omega),w6 hi,g8,p0 (I64m (by omega)),if_neg (by omega),q1,g8,if_neg (by omega),aP _ _ _ _ _ _ _ _ _ hl2,g8,p0 (I64n (by omega))]
    .show J0 (g7 n2) bm cm c.kids t go (i:Int) _ _ _ _ _ _ _=_;unfold J0 R7 R6;rw [if_pos (by omega),w6 hi,g8,p0 (I64n (by omega))];cases t with
     |true=>rw [if_pos rfl,d2,q2,g8,if_neg (by omega),U7 _ _ _ _ _ _ _ _ _ _ _ hl2,g8,p0 (I64n (by omega))]
     |false=>rw [if_neg (by simp),q2,g8,if_neg (by omega),U7 _ _ _ _ _ _ _ _ _ _ _ hl2,g8,p0 (I64n (by omega))])
 subst ha;subst hb1;rw [List.take_length]at hok;refine ⟨cs1,is1,sl1,sm1,hok.weak (by omega) (Nat.le_refl _),?_,?_⟩
 .rw [e1];show Q7 (n8 n1) cap bx c t go1 (c.kids.length:Int) _ _ _ _ _ _=_;unfold Q7;rw [if_neg (by omega)]
 .show bY (l7 n2) (g7 n2) (o8 n2) (p8 n2) (p9 n2) cs main bm sm cm p (sl.length:Int) cp is c.kids t=_;unfold bY;rw [e2];show J0 (g7 n2) bm cm c.kids t go2 (c.kids.length:Int) _ _ _ _ _ _ _=_;unfold J0;rw [if_neg (by omega)]
theorem boxes_both (c:PC)(n1 n2:Nat)(hp:c.params.length<=60)(t:Bool)(cs:List ek)(is:List ej)(sl cap:List Int)(sm cm:List (Int×Int))(p cp main:Int)(hs:SlotM sl sm)(hg:G cs is)(hi:is.length+60<=800000)(hl:sl.length+60<=1000000):
 ∃ is1 sm1,OkC cs is sl c.params.length 0 cs is1 (sl++c.params) sm1/\
  (∃ go,itr (bF (n8 n1) cs cap bx c t) LF (0,p,0,cp,is,sl)=bF (n8 n1) cs cap bx c t go ((c.params.length:Int),p,0,cp,is1,sl++c.params))/\
  (∃ go,itr (U9 (p8 n2) bm cm c t) LF (0,p,(sl.length:Int),cp,main,cs,sm,is)=U9 (p8 n2) bm cm c t go ((c.params.length:Int),p,((sl++c.params).length:Int),cp,main,cs,sm1,is1)):=by
 obtain⟨a',b',⟨is1,sm1,ha,hb1,hok⟩,e1,e2⟩:=mZ (Ls:=bF (n8 n1) cs cap bx c t) (Li:=U9 (p8 n2) bm cm c t) c.params.length (by omega)
  (fun i a b=>∃ is1 sm1,a=(p,0,cp,is1,sl++c.params.take i)/\b=(p,((sl++c.params.take i).length:Int),cp,main,cs,sm1,is1)/\OkC cs is sl i 0 cs is1 (sl++c.params.take i) sm1) (p,0,cp,is,sl) (p,(sl.length:Int),cp,main,cs,sm,is)
  ⟨is,sm,by simp,by simp,by simpa using OkC.refl hs hg⟩ (fun i a b hi' ⟨is1,sm1,ha,hb1,hok⟩=>by
   subst ha;subst hb1;have et:sl++c.params.take (i+1)=(sl++c.params.take i)++[c.params[i]]:=by rw [<- List.take_append_getElem hi',List.append_assoc]
   have hlt:(sl++c.params.take i).length<=1000000:=by rw [List.length_append,List.length_take];omega
   have hle:=hok.i2;have el:((((sl++c.params.take i)++[c.params[i]]).length:Nat):Int)-1=((sl++c.params.take i).length:Int):=by rw [List.length_append (as:=sl++c.params.take i)];simp
   have el2:((((sl++c.params.take i)++[c.params[i]]).length:Nat):Int)=((sl++c.params.take i).length:Int)+1:=by rw [List.length_append (as:=sl++c.params.take i)];simp
   have g1:OkC cs is1 (sl++c.params.take i) 1 0 cs (emI is1 9 ((sl++c.params.take i).length:Int)) ((sl++c.params.take i)++[c.params[i]]) (mput sm1 c.params[i] ((sl++c.params.take i).length:Int)):=
    ⟨xO hok.slot _,g_emI hok.good _ _,by rw [X9];omega,by rw [X9];omega,by omega,by rw [List.length_append (as:=sl++c.params.take i)];simp,fun v hv=>List.mem_append_left _ hv,by unfold emI;rw [vB,wI_zD];omega⟩
   refine⟨_,_,⟨emI is1 9 ((sl++c.params.take i).length:Int),mput sm1 c.params[i] ((sl++c.params.take i).length:Int),rfl,rfl,by rw [et];exact hok.trans g1⟩,fun go=>?_,fun go=>?_⟩
   .show Q6 (n8 n1) cs cap bx c t go (i:Int) _ _ _ _ _=_;unfold Q6;rw [if_pos (by omega),w6 hi',g8,p0 (by simp only [List.length_singleton];omega),el,p0 (show -9223372036854775808<=((sl++c.params.take i).length:Int)/\((sl++c.params.take i).length:Int)<=9223372036854775807 by omega),aP _ _ _ _ _ _ _ _ _ (by omega),g8,p0 (I64n (by omega)),et]
   .show J4 (p8 n2) bm cm c t go (i:Int) _ _ _ _ _ _ _=_;unfold J4 dC;rw [if_pos (by omega),w6 hi',g8,p0 (show -9223372036854775808<=((sl++c.params.take i).length:Int)+1/\((sl++c.params.take i).length:Int)+1<=9223372036854775807 by omega),g8,U7 _ _ _ _ _ _ _ _ is1 _ _ (by omega),g8,p0 (I64n (by omega)),et,el2])
 subst ha;subst hb1;rw [List.take_length]at hok e1 e2;exact ⟨is1,sm1,hok,e1,e2⟩
end Go.Abs

namespace Go.Abs
open PC
variable {bx:List Int} {bm:List (Int×Int)}
theorem s_node_s (n:Nat)(cs:List ek)(p sN cp:Int)(is:List ej)(sl cap:List Int)(c:PC)(t:Bool):n8 (n+1) cs p sN cp is sl cap bx c t=jA (r9 n) (n8 n) (w7 n) (I1 n) cs p sN cp is sl cap bx c t:=rfl
theorem i_comp_s (n:Nat)(cs:List ek)(main:Int)(sm cm:List (Int×Int))(p sN cp:Int)(is:List ej)(c:PC)(t:Bool):g7 (n+1) cs main bm sm cm p sN cp is c t=X2 (l7 n) (g7 n) (o8 n) (p8 n) (p9 n) cs main bm sm cm p sN cp is c t:=rfl
theorem iN {c x:PC}(hv:okAll c=true)(hc:c.cnt<=3000)(hx:x∈c.kids):okAll x=true/\x.cnt+1<=c.cnt/\wK x+1<=wKs c.kids/\x.nice/\wK x<=40000000:=by
 have h1:okAll x=true:=by
  rw [okAll_eq]at hv;simp only [Bool.and_eq_true]at hv;exact ah7 hv.2 hx
 have h2:=ar5 hx;exact ⟨h1,h2,uZ hx,core_nice.1 x h1,ok_w h1 (by omega)⟩
theorem aq1 {c x:PC}{sl cap:List Int}(hs:∀ v,fvc v c->v∈sl\/v∈cap)(hx:x∈c.kids):∀ v,fvc v x->v∉c.params->v∈sl\/v∈cap:=fun v hv hn=>hs v (by
 rw [fvc_eq];exact .inr ⟨hn,fvs_mem hx hv⟩)
theorem ah1 {c:PC}{cs:List ek}{is:List ej}{sl cap:List Int}{sm cm:List (Int×Int)}(h:Pre c cs is sl cap sm cm)(op a:Int):OkC cs is sl 1 0 cs (emI is op a) sl sm:=OkC.emit h.slot h.good op a
theorem main_case (hB:BoxM bx bm)(hbl:bx.length<=1000000000)(c:PC)(hv:okAll c=true)(hc:c.cnt<=3000)(hC:∀ x∈c.kids,CB bx bm x):CB bx bm c:=by
 intro n1 n2 t cs is sl cap sm cm p cp main h1 h2 h;have hsh:=ax6 hv;obtain ⟨hpar,hkid,hdw⟩:=rC hsh;have hwe:=oR c;have hce:=cnt_eq c;have hli:=h.li;have hlc:=h.lc;have hls:=h.ls;have hlp:=h.lp;have hi1:is.length<=1000000:=by omega
 have hsl1:sl.length<=1000000:=by omega
 have hcl1:cap.length<=3000000:=by omega
 obtain⟨m1,rfl⟩:∃ m,n1=m+4:=⟨n1-4,by omega⟩
 obtain⟨m2,rfl⟩:∃ m,n2=m+4:=⟨n2-4,by omega⟩
 rw [s_node_s,i_comp_s];unfold jA X2;have hf1:∀ x∈c.kids,8 * (x.cnt+1)<=m1:=fun x hx=>by have:=(iN hv hc hx).2.1;omega
 have hf2:∀ x∈c.kids,8 * (x.cnt+1)<=m2:=fun x hx=>by have:=(iN hv hc hx).2.1;omega
 unfold shapeOK at hsh;rw [Bool.and_eq_true,Bool.and_eq_true]at hsh;obtain ⟨_,_,hsh⟩:=hsh;have inner:∀(op:Int) (params:List Int) (b:PC),c.kids=[b]->params=c.params->∃ cs' is',w7 (m1+3) cs p 0 cp is sl cap bx op params b=some (cs',p,0,cp,is',sl)/\p9 (m2+3) cs main bm sm cm p (sl.length:Int) cp is op params b=some (sm,p,(sl.length:Int),cp,is',cs',main)/\
  OkC cs is sl (200 * (c.cnt+1)-1) (wK c) cs' is' sl sm:=fun op params b hk hpp=>by
  have hb:b∈c.kids:=by rw [hk];simp
  obtain⟨k1,k2,k3,k4,k5⟩:=iN hv hc hb;have hcb:c.cnt=b.cnt+1:=by rw [hce,hk];simp [cnts];omega
  have g1:=hf1 b hb;have g2:=hf2 b hb;obtain ⟨cs',is',f1,f2,f3,f4,f5,f6,f7,f8⟩:=inner_both hB hbl (hC b hb) (m1+1) (m2+1) (by omega) (by omega) cs is sl cap sm cm p cp main op params h.slot h.capt h.good (fun v hv' hn=>aq1 h.sc hb v hv' (by rw [<- hpp];exact hn)) (by rw [hpp];exact hpar) k4 k5 (by omega) (by omega) (by omega) hsl1 hlp;exact ⟨cs',is',f1,f2,⟨f3,f4,f5,by omega,by omega,by omega,fun v hv=>hv,by omega⟩⟩
 by_cases k1:c.kind=1
 .have e6:¬ c.kind=6:=by omega
  have e7:¬ c.kind=7:=by omega
  have e8:¬ c.kind=8:=by omega
  have e9:¬ c.kind=9:=by omega
  have hds:c.datum.small:=ax8 (by omega);have hx1:nth (emI is 1 0) (((emI is 1 0).length:Int)-1)=some (ej.mk 1 0 zD):=by
   have e:((emI is 1 0).length:Int)-1=(is.length:Int):=by rw [X9];omega
   rw [e,w6 (by rw [X9];omega)];unfold emI;simp
  have hx2:(emI is 1 0).set (((emI is 1 0).length:Int)-1).toNat (ej.mk 1 0 c.datum)=is++[ej.mk 1 0 c.datum]:=by
   have e:(((emI is 1 0).length:Int)-1).toNat=is.length:=by rw [X9];omega
   rw [e];unfold emI;simp
  obtain⟨is2,j1,j2,j3⟩:=qD (bx:=bx) (bm:=bm) (OkC.datum h.slot h.good 1 0 hds) (by simp;omega) cap cm t p cp main;refine ⟨cs,is2,sl,sm,?_,?_,j3.weak (by omega) (by omega)⟩
  .rw [if_pos k1,aP _ _ _ _ _ _ _ _ _ hi1,g8,p0 (show -9223372036854775808<=((emI is 1 0).length:Int)-1/\((emI is 1 0).length:Int)-1<=9223372036854775807 by rw [X9];omega),aj5 RF c.datum (by rw [RF_eq];have:=hds.2;omega) hds,g8,hx1,g8,hx2];exact j1
  .rw [if_neg e6,if_neg e7,if_neg e8,if_neg e9,if_pos k1,(tA RF).1 c.datum (by rw [RF_eq];have:=hds.2;omega) hds,g8,p0 (by simp;omega)];exact j2
 by_cases k3:c.kind=3
 .have e6:¬ c.kind=6:=by omega
  have e7:¬ c.kind=7:=by omega
  have e8:¬ c.kind=8:=by omega
  have e9:¬ c.kind=9:=by omega
  obtain⟨is2,j1,j2,j3⟩:=qD (bx:=bx) (bm:=bm) (ah1 h 2 c.number) (by rw [X9];omega) cap cm t p cp main;refine ⟨cs,is2,sl,sm,?_,?_,j3.weak (by omega) (by omega)⟩
  .rw [if_neg k1,if_pos k3,aP _ _ _ _ _ _ _ _ _ hi1,g8];exact j1
  .rw [if_neg e6,if_neg e7,if_neg e8,if_neg e9,if_neg k1,if_pos k3,U7 _ _ _ _ _ _ _ _ _ _ _ hi1,g8];exact j2
 by_cases k2:c.kind=2
 .have e6:¬ c.kind=6:=by omega
  have e7:¬ c.kind=7:=by omega
  have e8:¬ c.kind=8:=by omega
  have e9:¬ c.kind=9:=by omega
  have hvn:c.number∈sl\/c.number∈cap:=h.sc _ (by rw [fvc_eq];exact .inl ⟨by unfold named;simp [k2],rfl⟩);by_cases hb:bx.contains c.number=true
  .obtain ⟨is2,j1,j2,j3⟩:=qD (bx:=bx) (bm:=bm) (ah1 h (plO sl c.number 5 6) (plA sl cap c.number)) (by rw [X9];omega) cap cm t p cp main;refine ⟨cs,is2,sl,sm,?_,?_,j3.weak (by omega) (by omega)⟩
   .rw [if_neg k1,if_neg k3,if_pos k2,vD hB hbl,g8,if_pos hb,uL _ _ _ _ _ _ _ _ _ _ hsl1 hcl1 hi1,g8];exact j1
   .rw [if_neg e6,if_neg e7,if_neg e8,if_neg e9,if_neg k1,if_neg k3,if_pos k2,if_pos ((hB _).2 hb),sD _ _ _ _ _ _ _ _ _ _ _ _ _ _ h.slot h.capt hvn hi1,g8];exact j2
  .obtain ⟨is2,j1,j2,j3⟩:=qD (bx:=bx) (bm:=bm) (ah1 h (plO sl c.number 3 4) (plA sl cap c.number)) (by rw [X9];omega) cap cm t p cp main;refine ⟨cs,is2,sl,sm,?_,?_,j3.weak (by omega) (by omega)⟩
   .rw [if_neg k1,if_neg k3,if_pos k2,vD hB hbl,g8,if_neg hb,s_raw_eq _ _ _ _ _ _ _ _ hsl1 hcl1 hi1,g8];exact j1
   .rw [if_neg e6,if_neg e7,if_neg e8,if_neg e9,if_neg k1,if_neg k3,if_pos k2,if_neg (fun e=>hb ((hB _).1 e)),sD _ _ _ _ _ _ _ _ _ _ _ _ _ _ h.slot h.capt hvn hi1,g8];exact j2
 by_cases k4:c.kind=4
 .have e6:¬ c.kind=6:=by omega
  have e7:¬ c.kind=7:=by omega
  have e8:¬ c.kind=8:=by omega
  have e9:¬ c.kind=9:=by omega
  rw [if_neg k1,if_neg k2,if_neg k3,if_pos k4]at hsh;simp only [Bool.and_eq_true,decide_eq_true_eq]at hsh;have hp0:c.params=[]:=List.eq_nil_of_length_eq_zero (by omega);obtain ⟨b,hk⟩:∃ b,c.kids=[b]:=List.length_eq_one_iff.1 (by omega);have hb:b∈c.kids:=by rw [hk];simp
  obtain⟨g1,g2,g3,g4,g5⟩:=iN hv hc hb;have hcb:c.cnt=b.cnt+1:=by rw [hce,hk];simp [cnts];omega
  have hwb:wKs c.kids=1+wK b:=by rw [hk];simp [wKs]
  have hn0:nth c.kids 0=some b:=by rw [hk];rfl
  have q1':=hf1 b hb;have q2':=hf2 b hb;obtain ⟨cs1,is1,sl1,sm1,f1,f2,f3⟩:=hC b hb (m1+3) (m2+3) false cs is sl cap sm cm p cp main (by omega) (by omega) ⟨h.slot,h.capt,fun v hv'=>aq1 h.sc hb v hv' (by rw [hp0];simp),h.good,by omega,by omega,by omega,hlp⟩;have z1:=f3.i2;have z2:=f3.s2;have hvn:c.number∈sl1\/c.number∈cap:=(h.sc _ (by rw [fvc_eq];exact .inl ⟨by unfold named;simp [k4],rfl⟩)).imp (f3.sub _) id;obtain ⟨is2,j1,j2,j3⟩:=qD (bx:=bx) (bm:=bm) (f3.trans (OkC.emit f3.slot f3.good (plO sl1 c.number 7 8) (plA sl1 cap c.number))) (by rw [X9];omega) cap cm t p cp main;refine ⟨cs1,is2,sl1,sm1,?_,?_,j3.weak (by omega) (by omega)⟩
  .rw [if_neg k1,if_neg k3,if_neg k2,if_pos k4,hn0,g8,f1,g8,uL _ _ _ is1 sl1 _ _ _ _ _ (by omega) hcl1 (by omega),g8];exact j1
  .rw [if_neg e6,if_neg e7,if_neg e8,if_neg e9,if_neg k1,if_neg k3,if_neg k2,if_pos k4,hn0,g8,f2,g8,sD _ _ _ _ _ _ _ _ is1 _ _ _ _ _ f3.slot h.capt hvn (by omega),g8];exact j2
 by_cases k5:c.kind=5
 .have e6:¬ c.kind=6:=by omega
  have e7:¬ c.kind=7:=by omega
  have e8:¬ c.kind=8:=by omega
  have e9:¬ c.kind=9:=by omega
  rw [if_neg k1,if_neg k2,if_neg k3,if_neg k4,if_pos k5]at hsh;simp only [Bool.and_eq_true,decide_eq_true_eq]at hsh;obtain ⟨b,hk⟩:∃ b,c.kids=[b]:=List.length_eq_one_iff.1 (by omega);have hn0:nth c.kids 0=some b:=by rw [hk];rfl
  obtain⟨cs1,is1,f1,f2,f3⟩:=inner 11 c.params b hk rfl;have z1:=f3.i2;obtain ⟨is2,j1,j2,j3⟩:=qD (bx:=bx) (bm:=bm) f3 (by omega) cap cm t p cp main;refine ⟨cs1,is2,sl,sm,?_,?_,j3.weak (by omega) (by omega)⟩
  .rw [if_neg k1,if_neg k3,if_neg k2,if_neg k4,if_pos k5,hn0,g8,f1,g8];exact j1
  .rw [if_neg e6,if_neg e7,if_neg e8,if_neg e9,if_neg k1,if_neg k3,if_neg k2,if_neg k4,if_pos k5,hn0,g8,f2,g8];exact j2
 by_cases k6:c.kind=6
 .rw [if_neg k1,if_neg k2,if_neg k3,if_neg k4,if_neg k5,if_pos k6]at hsh;simp only [Bool.and_eq_true,decide_eq_true_eq]at hsh;have hp0:c.params=[]:=List.eq_nil_of_length_eq_zero (by omega);obtain ⟨cs1,is1,sl1,sm1,ok1,⟨go1,e1⟩,⟨go2,e2⟩⟩:=kids_both hC (m1+3) (m2+3) (fun x hx=>by have:=hf1 x hx;omega) (fun x hx=>by have:=hf2 x hx;omega) hkid t cs is sl cap sm cm p cp main ⟨h.slot,h.capt,fun x hx v hv'=>aq1 h.sc hx v hv' (by rw [hp0];simp),h.good,by omega,by omega,by omega,hlp⟩;have z1:=ok1.i2;have e10:¬ c.kind=10:=by omega
  have e11:¬ c.kind=11:=by omega
  cases t with
  |true=>
   refine⟨cs1,emI is1 13 ((c.kids.length:Int)-1),sl1,sm1,?_,?_,(ok1.trans (OkC.emit ok1.slot ok1.good 13 ((c.kids.length:Int)-1))).weak (by omega) (by omega)⟩
   .rw [if_neg k1,if_neg k3,if_neg k2,if_neg k4,if_neg k5,if_neg e10,if_neg e11,if_pos k6,e1];show Q5 (n8 (m1+3)) cap bx c true go1 (c.kids.length:Int) _ _ _ _ _ _=_;unfold Q5;rw [if_neg (by omega),if_pos rfl,p0 (I64m (by omega)),aP _ _ _ _ _ _ _ _ _ (by omega),g8]
   .rw [if_pos k6,e2];show D5 (g7 (m2+3)) bm cm c true go2 (c.kids.length:Int) _ _ _ _ _ _ _=_;unfold D5;rw [if_neg (by omega),if_pos rfl,p0 (I64m (by omega)),U7 _ _ _ _ _ _ _ _ is1 _ _ (by omega),g8]
  |false=>
   refine⟨cs1,emI is1 12 ((c.kids.length:Int)-1),sl1,sm1,?_,?_,(ok1.trans (OkC.emit ok1.slot ok1.good 12 ((c.kids.length:Int)-1))).weak (by omega) (by omega)⟩
   .rw [if_neg k1,if_neg k3,if_neg k2,if_neg k4,if_neg k5,if_neg e10,if_neg e11,if_pos k6,e1];show Q5 (n8 (m1+3)) cap bx c false go1 (c.kids.length:Int) _ _ _ _ _ _=_;unfold Q5 F7;rw [if_neg (by omega),if_neg (by simp),p0 (I64m (by omega)),aP _ _ _ _ _ _ _ _ _ (by omega),g8,if_neg (by simp)]
   .rw [if_pos k6,e2];show D5 (g7 (m2+3)) bm cm c false go2 (c.kids.length:Int) _ _ _ _ _ _ _=_;unfold D5;rw [if_neg (by omega),if_neg (by simp),p0 (I64m (by omega)),U7 _ _ _ _ _ _ _ _ is1 _ _ (by omega),g8]
 by_cases k7:c.kind=7
 .rw [if_neg k1,if_neg k2,if_neg k3,if_neg k4,if_neg k5,if_neg k6,if_pos k7]at hsh;simp only [Bool.and_eq_true,decide_eq_true_eq]at hsh;have hp0:c.params=[]:=List.eq_nil_of_length_eq_zero (by omega);have e10:¬ c.kind=10:=by omega
  have e11:¬ c.kind=11:=by omega
  obtain⟨x,y,z,hk⟩:∃ x y z,c.kids=[x,y,z]:=by
   have h3:c.kids.length=3:=by omega
   match hkk:c.kids,h3 with
   | [x,y,z],_=>exact⟨x,y,z,rfl⟩
  have hx:x∈c.kids:=by rw [hk];simp
  have hy:y∈c.kids:=by rw [hk];simp
  have hz:z∈c.kids:=by rw [hk];simp
  have hcb:c.cnt=x.cnt+y.cnt+z.cnt+3:=by rw [hce,hk];simp [cnts];omega
  have hwb:wKs c.kids=wK x+wK y+wK z+3:=by rw [hk];simp [wKs];omega
  have n0:nth c.kids 0=some x:=by rw [hk];rfl
  have n1':nth c.kids 1=some y:=by rw [hk];rfl
  have n2':nth c.kids 2=some z:=by rw [hk];rfl
  have fx1:=hf1 x hx;have fx2:=hf2 x hx;have fy1:=hf1 y hy;have fy2:=hf2 y hy;have fz1:=hf1 z hz;have fz2:=hf2 z hz;have scp:∀{a:PC},a∈c.kids->∀ v,fvc v a->v∈sl\/v∈cap:=fun ha v hv'=>aq1 h.sc ha v hv' (by rw [hp0];simp);obtain ⟨cs1,is1,sl1,sm1,a1,a2,a3⟩:=hC x hx (m1+3) (m2+2) false cs is sl cap sm cm p cp main (by omega) (by omega) ⟨h.slot,h.capt,scp hx,h.good,by omega,by omega,by omega,hlp⟩;have u1:=a3.i2;have u2:=a3.c2;have u3:=a3.s2;have okt:=a3.trans (OkC.emit a3.slot a3.good 16 0);have lt1:(emI is1 16 0).length=is1.length+1:=X9 _ _ _;obtain ⟨cs2,is2,sl2,sm2,b1,b2,b3⟩:=hC y hy (m1+2) (m2+2) t cs1 (emI is1 16 0) sl1 cap sm1 cm p cp main (by omega) (by omega) ⟨a3.slot,h.capt,fun v hv'=>(scp hy v hv').imp (a3.sub v) id,okt.good,by omega,by omega,by omega,hlp⟩;have v1:=b3.i2;have v2:=b3.c2;have v3:=b3.s2;have v4:=b3.i1;have ok2:=okt.trans b3;obtain ⟨is3,hj1,ok3,sj,ij⟩:∃ is3:List ej,(is2.length<=is3.length/\is3.length<=is2.length+1/\(t=false->is2.length<is3.length))/\OkC cs is sl (200 * (x.cnt+1)+1+200 * (y.cnt+1)+1) (wK x+0+wK y) cs2 is3 sl2 sm2/\
   (t=false->is3=emI is2 15 0)/\(t=true->is3=is2):=by
   cases t with
   |true=>exact⟨is2,⟨Nat.le_refl _,by omega,fun e=>Bool.noConfusion e⟩,ok2.weak (by omega) (by omega),fun e=>Bool.noConfusion e,fun _=>rfl⟩
   |false=>exact⟨emI is2 15 0,⟨by rw [X9];omega,by rw [X9];omega,fun _=>by rw [X9];omega⟩,(ok2.trans (OkC.emit ok2.slot ok2.good 15 0)).weak (by omega) (by omega),fun _=>rfl,fun e=>Bool.noConfusion e⟩
  have ht:is1.length<is3.length:=by omega
  have ok4:=ok3.patch is1.length ht (is3.length:Int);generalize hq4:is3.set is1.length (ej.mk is3[is1.length].op (is3.length:Int) is3[is1.length].d)=is4 at ok4;have l4:is4.length=is3.length:=by rw [<- hq4,List.length_set]
  obtain⟨cs5,is5,sl5,sm5,d1,d2,d3⟩:=hC z hz (m1+2) (m2+2) t cs2 is4 sl2 cap sm2 cm p cp main (by omega) (by omega) ⟨ok4.slot,h.capt,fun v hv'=>(scp hz v hv').imp (ok4.sub v) id,ok4.good,by omega,by omega,by omega,hlp⟩;have w1:=d3.i1;have w2:=d3.i2;have ok5:=ok4.trans d3;have nt:nth is3 (is1.length:Int)=some is3[is1.length]:=w6 ht;have tn:((is1.length:Int)).toNat=is1.length:=by simp
  have tn2:((is2.length:Int)).toNat=is2.length:=by simp
  cases t with
  |true=>
   have e3:=ij rfl;subst e3;refine ⟨cs5,is5,sl5,sm5,?_,?_,ok5.weak (by omega) (by omega)⟩
   .rw [if_neg k1,if_neg k3,if_neg k2,if_neg k4,if_neg k5,if_neg e10,if_neg e11,if_neg k6,if_pos k7,n0,g8,a1,g8];show bnd (iY (r9 (m1+2)) (n8 (m1+2)) (w7 (m1+2)) (I1 (m1+2)) cs1 p 0 cp is1 sl1 cap bx c true) _=_;unfold iY eV;rw [aP _ _ _ _ _ _ _ _ _ (by omega),g8,n1',g8,b1,g8,if_pos rfl,nt,g8,n2',g8,tn,hq4,d1,g8,if_pos rfl,g8]
   .rw [if_neg k6,if_pos k7];show bnd (K4 (l7 (m2+2)) (g7 (m2+2)) (o8 (m2+2)) (p8 (m2+2)) (p9 (m2+2)) cs main bm sm cm p (sl.length:Int) cp is c true) _=_;unfold K4 J3;rw [n0,g8,a2,g8,U7 _ _ _ _ _ _ _ _ is1 _ _ (by omega),g8,n1',g8,b2,g8,if_pos rfl,nt,g8,n2',g8,tn,hq4,d2,g8,if_pos rfl,g8]
  |false=>
   have e3:=sj rfl;have ho:is2.length<is5.length:=by have:=hj1.2.2 rfl;omega
   have ok6:=ok5.patch is2.length ho (is5.length:Int);have no:nth is5 (is2.length:Int)=some is5[is2.length]:=w6 ho;subst e3;refine ⟨cs5,_,sl5,sm5,?_,?_,ok6.weak (by omega) (by omega)⟩
   .rw [if_neg k1,if_neg k3,if_neg k2,if_neg k4,if_neg k5,if_neg e10,if_neg e11,if_neg k6,if_pos k7,n0,g8,a1,g8];show bnd (iY (r9 (m1+2)) (n8 (m1+2)) (w7 (m1+2)) (I1 (m1+2)) cs1 p 0 cp is1 sl1 cap bx c false) _=_;unfold iY eV;rw [aP _ _ _ _ _ _ _ _ _ (by omega),g8,n1',g8,b1,g8,if_neg (by simp),aP _ _ _ is2 _ _ _ _ _ (by omega),g8,nt,g8,n2',g8,tn,hq4,d1,g8,if_neg (by simp),no,g8,tn2,g8]
   .rw [if_neg k6,if_pos k7];show bnd (K4 (l7 (m2+2)) (g7 (m2+2)) (o8 (m2+2)) (p8 (m2+2)) (p9 (m2+2)) cs main bm sm cm p (sl.length:Int) cp is c false) _=_;unfold K4 J3;rw [n0,g8,a2,g8,U7 _ _ _ _ _ _ _ _ is1 _ _ (by omega),g8,n1',g8,b2,g8,if_neg (by simp),U7 _ _ _ _ _ _ _ _ is2 _ _ (by omega),g8,nt,g8,n2',g8,tn,hq4,d2,g8,if_neg (by simp),no,g8,tn2,g8]
 by_cases k10:c.kind=10
 .have e8:¬ c.kind=8:=by omega
  have e9:¬ c.kind=9:=by omega
  rw [if_neg k1,if_neg k2,if_neg k3,if_neg k4,if_neg k5,if_neg k6,if_neg k7,if_neg e8,if_neg e9,if_pos k10]at hsh;simp only [Bool.and_eq_true,decide_eq_true_eq]at hsh;have hp0:c.params=[]:=List.eq_nil_of_length_eq_zero (by omega);obtain ⟨b,hk⟩:∃ b,c.kids=[b]:=List.length_eq_one_iff.1 (by omega);have hn0:nth c.kids 0=some b:=by rw [hk];rfl
  obtain⟨cs1,is1,f1,f2,f3⟩:=inner 18 [] b hk hp0.symm;have z1:=f3.i2;obtain ⟨is2,j1,j2,j3⟩:=qD (bx:=bx) (bm:=bm) f3 (by omega) cap cm t p cp main;refine ⟨cs1,is2,sl,sm,?_,?_,j3.weak (by omega) (by omega)⟩
  .rw [if_neg k1,if_neg k3,if_neg k2,if_neg k4,if_neg k5,if_pos k10,hn0,g8,f1,g8];exact j1
  .rw [if_neg k6,if_neg k7,if_neg e8,if_neg e9,if_neg k1,if_neg k3,if_neg k2,if_neg k4,if_neg k5,if_pos k10,hn0,g8,f2,g8];exact j2
 by_cases k11:c.kind=11
 .have e8:¬ c.kind=8:=by omega
  have e9:¬ c.kind=9:=by omega
  rw [if_neg k1,if_neg k2,if_neg k3,if_neg k4,if_neg k5,if_neg k6,if_neg k7,if_neg e8,if_neg e9,if_neg k10,if_pos k11]at hsh;simp only [Bool.and_eq_true,decide_eq_true_eq]at hsh;obtain ⟨b,hk⟩:∃ b,c.kids=[b]:=List.length_eq_one_iff.1 (by omega);have hn0:nth c.kids 0=some b:=by rw [hk];rfl
  obtain⟨cs1,is1,f1,f2,f3⟩:=inner 19 c.params b hk rfl;have z1:=f3.i2;obtain ⟨is2,j1,j2,j3⟩:=qD (bx:=bx) (bm:=bm) f3 (by omega) cap cm t p cp main;refine ⟨cs1,is2,sl,sm,?_,?_,j3.weak (by omega) (by omega)⟩
  .rw [if_neg k1,if_neg k3,if_neg k2,if_neg k4,if_neg k5,if_neg k10,if_pos k11,hn0,g8,f1,g8];exact j1
  .rw [if_neg k6,if_neg k7,if_neg e8,if_neg e9,if_neg k1,if_neg k3,if_neg k2,if_neg k4,if_neg k5,if_neg k10,if_pos k11,hn0,g8,f2,g8];exact j2
 obtain⟨is1,sm1,ok1,⟨go1,e1⟩,⟨go2,e2⟩⟩:=boxes_both (bx:=bx) (bm:=bm) (cap:=cap) (cm:=cm) c (m1+3) (m2+3) hpar t cs is sl sm p cp main h.slot h.good (by omega) (by omega);have y1:=ok1.i2;have y2:=ok1.c2;have y3:=ok1.s2;obtain ⟨cs2,is2,sl2,sm2,ok2,f1,f2⟩:=list_both (bx:=bx) (bm:=bm) hC (m1+3) (m2+2) (fun x hx=>by have:=hf1 x hx;omega) (fun x hx=>by have:=hf2 x hx;omega) hkid t cs is1 (sl++c.params) cap sm1 cm p cp main ⟨ok1.slot,h.capt,fun x hx v hv'=>by
  by_cases hn:v∈c.params
  .exact .inl (List.mem_append_right _ hn)
  .exact (aq1 h.sc hx v hv' hn).imp (fun e=>List.mem_append_left _ e) id,ok1.good,by omega,by omega,by omega,hlp⟩
 have okf:=(ok1.trans ok2).weak (k2:=200 * (c.cnt+1)) (w2:=wK c) (by omega) (by omega);have hsS:bF (n8 (m1+3)) cs cap bx c t go1 ((c.params.length:Int),p,0,cp,is1,sl++c.params)=some (cs2,p,0,cp,is2,sl2):=by
  show Q6 (n8 (m1+3)) cs cap bx c t go1 (c.params.length:Int) _ _ _ _ _=_;unfold Q6;rw [if_neg (by omega),f1]
 by_cases k9:c.kind=9
 .have e8:¬ c.kind=8:=by omega
  refine⟨cs2,is2,sl2,sm2,?_,?_,okf⟩
  .rw [if_neg k1,if_neg k3,if_neg k2,if_neg k4,if_neg k5,if_neg k10,if_neg k11,if_neg k6,if_neg k7,e1,hsS]
  .rw [if_neg k6,if_neg k7,if_neg e8,if_pos k9,e2];show J4 (p8 (m2+3)) bm cm c t go2 (c.params.length:Int) _ _ _ _ _ _ _=_;unfold J4;rw [if_neg (by omega),f2,g8]
 .by_cases k8:c.kind=8
  .rw [if_neg k1,if_neg k2,if_neg k3,if_neg k4,if_neg k5,if_neg k6,if_neg k7,if_pos k8]at hsh;simp only [Bool.and_eq_true,decide_eq_true_eq]at hsh;have hp0:c.params=[]:=List.eq_nil_of_length_eq_zero (by omega);obtain ⟨cs3,is3,sl3,sm3,ok3,g1,g2⟩:=list_both (bx:=bx) (bm:=bm) hC (m1+3) (m2+2) (fun x hx=>by have:=hf1 x hx;omega) (fun x hx=>by have:=hf2 x hx;omega) hkid t cs is sl cap sm cm p cp main ⟨h.slot,h.capt,fun x hx v hv'=>aq1 h.sc hx v hv' (by rw [hp0];simp),h.good,by omega,by omega,by omega,hlp⟩;refine ⟨cs3,is3,sl3,sm3,?_,?_,ok3.weak (by omega) (by omega)⟩
   .obtain ⟨go,e3,_⟩:=itr_LF_s (bF (n8 (m1+3)) cs cap bx c t) (0,p,0,cp,is,sl);rw [if_neg k1,if_neg k3,if_neg k2,if_neg k4,if_neg k5,if_neg k10,if_neg k11,if_neg k6,if_neg k7,e3];show Q6 (n8 (m1+3)) cs cap bx c t go 0 _ _ _ _ _=_;unfold Q6;rw [if_neg (by rw [hp0];simp),g1]
   .rw [if_neg k6,if_neg k7,if_pos k8,g2,g8]
  .rw [if_neg k1,if_neg k2,if_neg k3,if_neg k4,if_neg k5,if_neg k6,if_neg k7,if_neg k8,if_neg k9,if_neg k10,if_neg k11]at hsh;cases hsh
theorem node_both (hB:BoxM bx bm)(hbl:bx.length<=1000000000):∀(N:Nat) (c:PC),c.cnt<=N->okAll c=true->c.cnt<=3000->CB bx bm c:=by
 intro N;induction N with
 |zero=>exact fun c h hv hc=>main_case hB hbl c hv hc fun x hx=>absurd (ar5 hx) (by omega)
 |succ N ih=>exact fun c h hv hc=>main_case hB hbl c hv hc fun x hx=>ih x (by have:=(iN hv hc hx).2.1;omega) (iN hv hc hx).1 (by have:=(iN hv hc hx).2.1;omega)
end Go.Abs

namespace Go.Abs
open PD
def mN (k:Int)(x:ej):Int×ej:=((mAll mD (k+1+1+1+1+1) x.d.items).1,ej.mk k (k+1) (PD.mk (k+1+1) (k+1+1+1) (mtx (k+1+1+1+1)) (mAll mD (k+1+1+1+1+1) x.d.items).2))
theorem mN_le (k:Int)(x:ej):k<=(mN k x).1/\(mN k x).1<=k+6 * ((1+wI x:Nat):Int):=by
 have h:=mD_le.2 x.d.items (k+1+1+1+1+1);have h2:=zB x.d;have h3:wI x=wD x.d:=rfl;unfold mN;dsimp only;omega
def mC (k:Int)(c:ek):Int×ek:=((mAll mN (k+1+1+1) c.instrs).1,ek.mk k (k+1) (k+1+1) (mAll mN (k+1+1+1) c.instrs).2)
theorem mC_le (k:Int)(c:ek):k<=(mC k c).1/\(mC k c).1<=k+6 * ((1+wC c:Nat):Int):=by
 have h:=oB mN_le c.instrs (k+1+1+1);have h3:wC c=wts wI c.instrs:=rfl;unfold mC;dsimp only;omega
theorem mInstrS_eq (xs:List ej)(k:Int)(hw:wts wI xs<=130000000000)(h0:0<=k)(h1:k+6 * ((wts wI xs:Nat):Int)<=1000000000000):gB xs k=some (mAll mN k xs):=by
 unfold gB;have hlen:xs.length<=wts wI xs:=by unfold wts;omega
 have hws:wts wI xs=xs.length+wsum wI xs:=rfl;refine mB (L:=jS xs) wI (fun x=>wD x.d<=130000000000) 1000000000000 (fun k x=>mN_le k x) (fun go i k1 a hi ha hx hk hB=>?_) (fun go k1 a=>?_) xs (fun x hx=>by
  have:=xV (wt:=wI) hx;have e:wI x=wD x.d:=rfl;omega) (by omega) k h0 h1
 .show P7 xs go k1 (i:Int) a=_;unfold P7;have hwi:wI a[i]=wD a[i].d:=rfl;have hwd:=zB a[i].d;have hcc:=ae1.2 a[i].d.items;simp only [Int.toNat_natCast,List.set_set];rw [if_pos (by omega),w6 hi,g8,p0 (by omega),aM hi,g8,p0 (by omega),aM hi,g8,p0 (by omega),aM hi,g8,p0 (by omega),iQ (by omega),g8,aM hi,g8,p0 (by omega),aM hi,g8];try simp only [wS,ah2,qG,ah3]
  rw [gN RF a[i].d.items (k1+1+1+1+1+1) (by rw [RF_eq];omega) (by omega) (by omega) (by omega),g8];refine (p0 (J7 mD a[i].d.items _)).trans ((p0 (by omega)).trans ?_);rfl
 .show P7 xs go k1 _ a=_;unfold P7;rw [if_neg (by omega)]
theorem hInstrS_eq (xs:List ej)(k:Int)(hw:wts wI xs<=130000000000)(h0:0<=k)(h1:k+6 * ((wts wI xs:Nat):Int)<=1000000000000):gA (mAll mN k xs).2 k=some (mAll mN k xs).1:=by
 unfold gA;have hlen:xs.length<=wts wI xs:=by unfold wts;omega
 have hws:wts wI xs=xs.length+wsum wI xs:=rfl;have hal:(mAll mN k xs).2.length=xs.length:=J7 _ _ _;refine sA (L:=jM (mAll mN k xs).2) wI (fun x=>wD x.d<=130000000000) 1000000000000 (mAll mN k xs).2 (fun k x=>mN_le k x) (fun go i k1 hi x hx hS hk hB=>?_) (fun go k1=>?_) xs (fun x hx=>by
  have:=xV (wt:=wI) hx;have e:wI x=wD x.d:=rfl;omega) (by omega) k h0 h1 rfl
 .show P5 (mAll mN k xs).2 go k1 (i:Int)=_;unfold P5;have hwi:wI x=wD x.d:=rfl;have hwd:=zB x.d;have hcc:=ae1.2 x.d.items;have hle:=mD_le.2 x.d.items (k1+1+1+1+1+1);have hx:(mAll mN k xs).2[i]=ej.mk k1 (k1+1) (PD.mk (k1+1+1) (k1+1+1+1) (mtx (k1+1+1+1+1)) (mAll mD (k1+1+1+1+1+1) x.d.items).2):=hx;rw [if_pos (by omega),w6 hi,hx];simp only [g8,wS,ah2,qG,ah3];rw [if_pos trivial,p0 (by omega),if_pos trivial,p0 (by omega),if_pos trivial,p0 (by omega),if_pos trivial,p0 (by omega),iQ (by omega),g8];refine (if_pos rfl).trans ?_;rw [p0 (by omega),vS RF x.d.items (k1+1+1+1+1+1) (by rw [RF_eq];omega) (by omega) (by omega) (by omega),g8,if_neg (by omega),p0 (by omega)];rfl
 .show P5 (mAll mN k xs).2 go k1 _=_;unfold P5;rw [if_neg (by omega)]
theorem mCodeS_eq (xs:List ek)(k:Int)(hw:wts wC xs<=130000000000)(h0:0<=k)(h1:k+6 * ((wts wC xs:Nat):Int)<=1000000000000):jN xs k=some (mAll mC k xs):=by
 unfold jN;have hlen:xs.length<=wts wC xs:=by unfold wts;omega
 have hws:wts wC xs=xs.length+wsum wC xs:=rfl;refine mB (L:=lL) wC (fun x=>wC x<=130000000000) 1000000000000 (fun k x=>mC_le k x) (fun go i k1 a hi ha hx hk hB=>?_) (fun go k1 a=>?_) xs (fun x hx=>by
  have:=xV (wt:=wC) hx;omega) (by omega) k h0 h1
 .show S9 go k1 (i:Int) a=_;unfold S9;have hwi:wC a[i]=wts wI a[i].instrs:=rfl;simp only [Int.toNat_natCast,List.set_set];rw [if_pos (by omega),w6 hi,g8,p0 (by omega),aM hi,g8,p0 (by omega),aM hi,g8,p0 (by omega),aM hi,g8];try simp only [wS,ah2,qG,ah3]
  rw [mInstrS_eq a[i].instrs (k1+1+1+1) (by omega) (by omega) (by omega),g8];refine (p0 (J7 mN a[i].instrs _)).trans ((p0 (by omega)).trans ?_);rfl
 .show S9 go k1 _ a=_;unfold S9;rw [if_neg (by omega)]
theorem hCodeS_eq (xs:List ek)(k:Int)(hw:wts wC xs<=130000000000)(h0:0<=k)(h1:k+6 * ((wts wC xs:Nat):Int)<=1000000000000):jK (mAll mC k xs).2 k=some (mAll mC k xs).1:=by
 unfold jK;have hlen:xs.length<=wts wC xs:=by unfold wts;omega
 have hws:wts wC xs=xs.length+wsum wC xs:=rfl;have hal:(mAll mC k xs).2.length=xs.length:=J7 _ _ _;refine sA (L:=lJ (mAll mC k xs).2) wC (fun x=>wC x<=130000000000) 1000000000000 (mAll mC k xs).2 (fun k x=>mC_le k x) (fun go i k1 hi x hx hS hk hB=>?_) (fun go k1=>?_) xs (fun x hx=>by
  have:=xV (wt:=wC) hx;omega) (by omega) k h0 h1 rfl
 .show S8 (mAll mC k xs).2 go k1 (i:Int)=_;unfold S8;have hwi:wC x=wts wI x.instrs:=rfl;have hle:=oB mN_le x.instrs (k1+1+1+1);have hx:(mAll mC k xs).2[i]=ek.mk k1 (k1+1) (k1+1+1) (mAll mN (k1+1+1+1) x.instrs).2:=hx;rw [if_pos (by omega),w6 hi,hx];simp only [g8];rw [if_pos trivial,p0 (by omega),if_pos trivial,p0 (by omega),if_pos trivial,p0 (by omega),hInstrS_eq x.instrs (k1+1+1+1) (by omega) (by omega) (by omega),g8,if_neg (by omega),p0 (by omega)];rfl
 .show S8 (mAll mC k xs).2 go k1 _=_;unfold S8;rw [if_neg (by omega)]
end Go.Abs

namespace Go.Abs
open PC
def coreG (c:PC)(g:List Int):Bool:=c.tree&&(uniq [] (g++bnds c)&&(free c [] []).all fun n=>g.contains n)
theorem coreG_ok {c:PC}{g:List Int}(h:coreG c g=true):okAll c=true/\c.cnt<=3000:=by
 unfold coreG tree at h;simp only [Bool.and_eq_true,decide_eq_true_eq]at h;exact ⟨h.1.2.2,by omega⟩
theorem all_loop {α:Type}{L:(Int->Option Bool)->Int->Option Bool}(xs:List α)(p:α->Bool)(hn:xs.length<=1000000000000)
 (hL:∀ go (i:Nat) (hi:i<xs.length),L go (i:Int)=if p xs[i]=true then chk (I64 ((i:Int)+1)) (go ((i:Int)+1))else some false) (hE:∀ go,L go (xs.length:Int)=some true):itr L LF 0=some (xs.all p):=by
 have:=oA (L:=L) xs p (some true) (some false) (by omega) (fun go i hi=>by rw [hL go i hi,p0 (by omega)]) hE;rw [this];by_cases h:xs.all p=true
 .rw [if_pos h,h]
 .rw [if_neg h,Bool.eq_false_iff.2 h]
def putK (m:List (Int×Int))(l:List Int):List (Int×Int):=l.foldl (fun m n=>mput m n 1) m
theorem mget_putK:∀(l:List Int) (m:List (Int×Int)) (k:Int),mget (putK m l) k=if l.contains k=true then 1 else mget m k
 | [],m,k=>by rw [if_neg (by simp)];rfl
 |x::r,m,k=>by
  have e:putK m (x::r)=putK (mput m x 1) r:=rfl;rw [e,mget_putK r,wR,List.contains_cons];by_cases h:k=x
  .subst h;simp
  .rw [if_neg h,show(k == x)=false from beq_eq_false_iff_ne.2 h,Bool.false_or]
theorem putK_take (l:List Int)(i:Nat)(h:i<l.length):putK [] (l.take (i+1))=mput (putK [] (l.take i)) l[i] 1:=by
 unfold putK;rw [<- List.take_append_getElem h,List.foldl_append];rfl
theorem known_loop (c:PC)(g:List Int)(hc:c.nice)(hb:wK c<=1048576)(hg:g.length<=100000000):itr (nS c g) LF (0,([]:List (Int×Int)))=itr (hZ (putK [] g) (free c [] [])) LF 0:=by
 refine(I3 (L:=nS c g) g.length (fun i a=>a=putK [] (g.take i)) (fun _ _=>itr (hZ (putK [] g) (free c [] [])) LF 0) (by omega) (fun go i a hi ha hgo=>?_) (fun go a ha=>?_) (a:=([]:List (Int×Int))) rfl).trans rfl
 .show aS c g go (i:Int) a=_;unfold aS;rw [if_pos (by omega),w6 hi,g8,p0 (by omega)];exact hgo _ (by rw [putK_take g i hi,ha])
 .show aS c g go (g.length:Int) a=_;unfold aS;rw [if_neg (by omega),dS c hc (by omega),g8,ha,List.take_length]
theorem i_IsCore_eqG (c:PC)(g:List Int)(hc:c.nice)(hb:wK c<=1048576)(hg:g.length<=100000000):vZ c g=some (coreG c g):=by
 unfold vZ coreG;have hcw:=sY.1 c;have h1:=yD c hb;have h2:=ar0.1 c;rw [tB RF c 1 0 (RF_cntK (by omega)) hc (by omega) (by omega) (by omega) (by omega),g8,meas_tree,tM c hc hb,g8,Y4 _ _ (by omega) (by omega),g8,known_loop c g hc hb hg];have e:itr (hZ (putK [] g) (free c [] [])) LF 0=some ((free c [] []).all fun n=>g.contains n):=by
  refine all_loop _ _ (by omega) (fun go i hi=>?_) (fun go=>?_)
  .show aT (putK [] g) (free c [] []) go (i:Int)=_;unfold aT;rw [if_pos (by omega),w6 hi,g8,mget_putK,mget_nil];by_cases h:g.contains (free c [] [])[i]=true
   .rw [if_pos h,if_neg (by omega),if_pos h]
   .rw [if_neg h,if_pos rfl,if_neg h]
  .show aT (putK [] g) (free c [] []) go _=_;unfold aT;rw [if_neg (by omega)]
 rw [e];cases c.tree<;>cases uniq [] (g++bnds c)<;>rfl
theorem s_IsCore_eqG (c:PC)(g:List Int)(hc:c.nice)(hb:wK c<=1048576)(hg:g.length<=100000000):xD c g=some (coreG c g):=by
 unfold xD coreG;have hcw:=sY.1 c;have h1:=yD c hb;have h2:=ar0.1 c;rw [zY c hc (by omega),kF c hc (by omega),ab0 RF c (RF_cntK (by omega)) hc (by omega),zX RF c (RF_cntK (by omega)) hc,zV RF c [] (RF_cntK (by omega)) hc (by simp;omega),<- few_tree];have e:itr (uK g (free c [] [])) LF 0=some ((free c [] []).all fun n=>g.contains n):=by
  refine all_loop _ _ (by omega) (fun go i hi=>?_) (fun go=>?_)
  .show bC g (free c [] []) go (i:Int)=_;unfold bC;rw [if_pos (by omega),w6 hi,g8,L3 _ _ (by omega),g8]
  .show bC g (free c [] []) go _=_;unfold bC;rw [if_neg (by omega)]
 rw [g8,g8,g8,g8,Z5 _ (by omega),g8,g8,p0 (by simp;omega),List.nil_append,oO _ (by rw [List.length_append];omega),g8,e];by_cases g1:0<=few c 3000<;>by_cases g2:c.depth<=150<;>cases c.okAll<;>cases uniq [] (g++bnds c)<;>simp [g1,g2,show(150<c.depth)=¬ c.depth<=150 from propext ⟨fun h=>by omega,fun h=>by omega⟩]
def isShort (s:List UInt8):Bool:=isSymbol s&&decide (s.length<=8)
theorem aj9 (s:List UInt8)(h:SM s):sR s=some (isShort s):=by
 unfold sR isShort;rw [xE s h,g8];by_cases h8:s.length<=8
 .rw [if_pos (by omega),decide_eq_true h8];simp
 .rw [if_neg (by omega),decide_eq_false h8];simp
theorem pM (s:List UInt8)(h:SM s):bT s=some (isShort s):=by
 unfold bT isShort;rw [wA s h,g8];cases isSymbol s
 .simp
 .simp only [if_true,Bool.true_and];exact congrArg some (decide_eq_decide.2 (by omega))
def fitsB (g:List Int)(u:PUnit'):Bool:=isShort u.name&&(uniq [] (g++u.globals)&&coreG u.body (g++u.globals))
theorem as9 (u:PUnit')(g:List Int)(hn:SM u.name)(hc:u.body.nice)(hb:wK u.body<=1048576)(hg:g.length<=10000000)(hu:u.globals.length<=10000000):lX u g=some (fitsB g u):=by
 unfold lX fitsB;rw [pM _ hn,g8,Y4 _ _ (by omega) (by omega),g8];unfold dB;rw [p0 (by omega),g8,p0 (by omega),i_IsCore_eqG _ _ hc hb (by rw [List.length_append];omega)];cases isShort u.name<;>cases uniq [] (g++u.globals)<;>simp [g8]
theorem aw3 (u:PUnit')(g:List Int)(hn:SM u.name)(hc:u.body.nice)(hb:wK u.body<=1048576)(hg:g.length<=10000000)(hu:u.globals.length<=10000000):mO u g=some (fitsB g u):=by
 unfold mO fitsB;rw [Z5 _ (by omega),g8,p0 (by omega),aj9 _ hn,g8,oO _ (by rw [List.length_append];omega),g8,s_IsCore_eqG _ _ hc hb (by rw [List.length_append];omega)];cases isShort u.name<;>cases uniq [] (g++u.globals)<;>simp [g8]
def wU (u:PUnit'):Nat:=u.name.length+u.globals.length+wK u.body
end Go.Abs

namespace Go.Abs
open PC
def PUnit'.ok (u:PUnit'):Prop:=u.name.length<=9223372036854775807/\(u.globals.length<=9223372036854775807/\∀ n∈u.globals,IntKind.i64.min<=n/\n<=IntKind.i64.max)/\u.body.wf
def PUnit'.fine (u:PUnit'):Prop:=u.name.length<=1048576/\u.globals.length<=1048576/\u.body.nice/\u.body.cnt<=1000000000
theorem fine_wU {u:PUnit'}(h:wU u<=1048576):u.fine:=by
 unfold wU at h;have:=sY.1 u.body;exact ⟨by omega,by omega,nice_wK.1 _ (by omega),by omega⟩
theorem szUnit_eq (u:PUnit')(h:u.ok)(n:Int)(h0:0<=n)(h1:n<=1048576):xT u n=some (szw (wU u) n):=by
 have hw:szw (wU u) n=szw (wK u.body) (szw u.globals.length (szw u.name.length n)):=by rw [uX,uX];unfold wU;congr 1;omega
 unfold xT;have:=h.1;rw [p0 (by omega),hw];by_cases e:n-(u.name.length:Int)<0
 .have e1:szw u.name.length n= -1:=by unfold szw;rw [if_pos e]
  rw [if_pos e,e1,rE (w:=u.globals.length) (by unfold szw;rw [if_pos (by omega)];omega),rE (w:=wK u.body) (by unfold szw;rw [if_pos (by omega)];omega)]
 .have e1:szw u.name.length n=n-u.name.length:=by unfold szw;rw [if_neg e]
  rw [if_neg e,e1,szIntS_eq _ h.2.1.1 _ (by omega) (by omega),g8];by_cases f:szw u.globals.length (n-u.name.length)<0
  .rw [if_pos f,rE f,rE (w:=wK u.body) (by unfold szw;rw [if_pos (by omega)];omega)]
  .have f1:=ax9 f;rw [if_neg f,(w_szK_eq RF).1 u.body h.2.2 _ (by omega) (by omega) (by rw [RF_eq];omega),g8,szw_if]
theorem toIntS_eq (xs:List Int)(h:xs.length<=1048576):kT xs=some xs:=by
 unfold kT;exact toS_eq' (L:=pL xs) (0:Int) xs 8 (by omega) h (fun go i out=>rfl)
theorem tK (xs:List Int)(h:xs.length<=1048576):gP xs xs=some true:=by
 unfold gP;exact eqS_refl' (L:=oY xs xs) xs h (fun go i=>rfl)
theorem toUnit_eq (u:PUnit')(h:u.fine):fK u=some u:=by
 unfold fK;rw [toIntS_eq _ h.2.1,g8,toCore_eq h.2.2.1 (Nat.le_trans h.2.2.2 (by decide)),g8]
theorem eqUnit_eq (u:PUnit')(h:u.fine):xR u u=some true:=by
 unfold xR;rw [if_pos rfl,tK _ h.2.1,g8,if_pos rfl,eqCore_eq h.2.2.1 (Nat.le_trans h.2.2.2 (by decide)),g8,if_pos rfl]
end Go.Abs

namespace Go.Abs
open PC
theorem free_nodup:(∀ (c:PC) (b o:List Int),o.Nodup->(free c b o).Nodup)/\∀(ds:List PC) (b o:List Int),o.Nodup->(frees ds b o).Nodup:=by
 refine ind (fun ds h=>?_) (fun c h=>?_)
 .induction ds with
  |nil=>intro b o ho;rw [frees];exact ho
  |cons x r ih=>
   intro b o ho;rw [frees];exact ih (fun y hy=>h y (by simp [hy])) b _ (h x (by simp) b o ho)
 .intro b o ho;rw [gZ];refine h _ _ ?_;unfold freeOne;split
  .rename_i hh;simp only [Bool.and_eq_true,Bool.not_eq_true']at hh;rw [List.nodup_append];refine ⟨ho,by simp,fun a ha x hx=>?_⟩;rw [List.mem_singleton]at hx;rintro rfl;subst hx;have:=hh.2.2;rw [List.contains_iff_mem.2 ha]at this;cases this
  .exact ho
def usesOf (d fr:List Int):List Int:=fr.filter fun n=>!d.contains n
theorem uses_take (d fr:List Int)(i:Nat)(h:i<fr.length):usesOf d (fr.take (i+1))=if d.contains fr[i]=true then usesOf d (fr.take i)else usesOf d (fr.take i)++[fr[i]]:=by
 unfold usesOf;rw [<- List.take_append_getElem h,List.filter_append];by_cases hd:d.contains fr[i]=true
 .rw [if_pos hd];simp [List.filter_cons,hd]at *;simp [hd]
 .rw [if_neg hd];simp [List.filter_cons]at *;simp [hd]
theorem ay1 (d fr:List Int):(usesOf d fr).length<=fr.length:=List.length_filter_le _ _
theorem all_has (d fr:List Int)(hn:fr.Nodup)(i:Nat)(h:i<fr.length):(d++usesOf d (fr.take i)).contains fr[i]=d.contains fr[i]:=by
 rw [Bool.eq_iff_iff,List.contains_iff_mem,List.contains_iff_mem,List.mem_append];refine ⟨fun hh=>hh.elim id fun h2=>?_,.inl⟩;unfold usesOf at h2;have h3:=(List.mem_filter.1 h2).1;obtain ⟨j,hj,e⟩:=List.mem_iff_getElem.1 h3;rw [List.length_take]at hj;rw [List.getElem_take]at e;exact absurd e ((List.pairwise_iff_getElem.1 hn) j i (by omega) h (by omega))
def isObj (o:ep):Bool:=isShort o.name&&(uniq [] (o.defines++o.uses)&&isImg o.image ((o.defines.length:Int)+o.uses.length))
def ep.small (o:ep):Prop:=o.name.length<=1048576/\o.defines.length<=1048576/\o.uses.length<=1048576/\o.image.small
theorem aw1 (o:ep)(h:o.small)(hs:SM o.name):mM o=some (isObj o):=by
 unfold mM isObj;have:=h.2.1;have:=h.2.2.1;rw [Z5 _ (by omega),g8,p0 (by omega),aj9 _ hs,g8,oO _ (by rw [List.length_append];omega),s_IsImage_eq _ h.2.2.2];simp only [g8,List.length_append,Int.natCast_add];cases isShort o.name<;>cases uniq [] (o.defines++o.uses)<;>simp
theorem as7 (o:ep)(h:o.small)(hs:SM o.name):lW o=some (isObj o):=by
 unfold lW isObj;have:=h.2.1;have:=h.2.2.1;rw [pM _ hs,g8,Y4 _ _ (by omega) (by omega),p0 (by omega),i_IsImage_eq _ h.2.2.2];simp only [g8];cases isShort o.name<;>cases uniq [] (o.defines++o.uses)<;>simp
theorem eqObject_eq (o:ep)(h:o.small):fD o o=some true:=by
 unfold fD;rw [if_pos rfl,tK _ h.2.1,g8,if_pos rfl,tK _ h.2.2.1,g8,if_pos rfl,eqImage_eq _ h.2.2.2,g8,if_pos rfl]
theorem hIntS_eq (xs:List Int)(k:Int)(hn:xs.length<=130000000000)(h0:0<=k)(h1:k+6 * (xs.length:Int)<=1000000000000):bV (mAll mI k xs).2 k=some (mAll mI k xs).1:=heldIntS_eq xs k hn h0 h1
theorem mImage_k (m:eo)(k:Int)(hw:wM m<=130000000000)(h0:0<=k)(h1:k<=100000000):jR m k=some (mAll mC k m.codes)/\∀ n,fE (eo.mk (mAll mC k m.codes).2 n) k=some (mAll mC k m.codes).1:=by
 have hwm:wM m=wts wC m.codes:=rfl;have hle:=oB mC_le m.codes k;have hl:(mAll mC k m.codes).2.length=m.codes.length:=J7 _ _ _;refine ⟨?_,fun n=>?_⟩
 .unfold jR;rw [mCodeS_eq m.codes k (by omega) (by omega) (by omega),g8];exact p0 hl
 .unfold fE;rw [hCodeS_eq m.codes k (by omega) (by omega) (by omega),g8,if_neg (by omega)]
theorem mObject_all (o:ep)(hs:o.small)(hw:wM o.image<=130000000000):∃ k a b c,gC o 1=some (k,a,b,c)/\a.length=o.defines.length/\b.length=o.uses.length/\c.length=o.image.codes.length/\0<=k/\dN (ep.mk o.name a b (eo.mk c o.image.main)) 1=some k:=by
 have l1:=hs.2.1;have l2:=hs.2.2.1;have e1:=oB mI_le o.defines 1;rw [wts_0]at e1;generalize hk1:(mAll mI 1 o.defines).1=k1 at e1;have e2:=oB mI_le o.uses k1;rw [wts_0]at e2;generalize hk2:(mAll mI k1 o.uses).1=k2 at e2;have e3:=oB mC_le o.image.codes k2;have f1:(mAll mI 1 o.defines).2.length=o.defines.length:=J7 _ _ _;have f2:(mAll mI k1 o.uses).2.length=o.uses.length:=J7 _ _ _;have f3:(mAll mC k2 o.image.codes).2.length=o.image.codes.length:=J7 _ _ _;obtain ⟨g1,g2⟩:=mImage_k o.image k2 hw (by omega) (by omega);refine ⟨(mAll mC k2 o.image.codes).1,_,_,_,?_,f1,f2,f3,?_,?_⟩
 .unfold gC;rw [iP _ _ (by omega) (by omega) (by omega),g8,p0 f1,hk1,iP _ _ (by omega) (by omega) (by omega),g8,p0 f2,hk2,g1,g8,p0 f3]
 .omega
 .unfold dN;show bnd (bV (mAll mI 1 o.defines).2 1) _=_;rw [hIntS_eq _ _ (by omega) (by omega) (by omega),g8,hk1,if_neg (by omega)];show bnd (bV (mAll mI k1 o.uses).2 k1) _=_;rw [hIntS_eq _ _ (by omega) (by omega) (by omega),g8,hk2,if_neg (by omega)];show bnd (fE (eo.mk (mAll mC k2 o.image.codes).2 o.image.main) k2) _=_;rw [g2,g8,if_neg (by omega)]
theorem markUnit_eq (u:PUnit')(h:u.fine)(hw:wU u<=1048576):∃ k a b c d,nF u 1=some (k,a,b,c,d)/\a.length=u.globals.length/\b.length=u.body.params.length/\c.length=u.body.datum.items.length/\d.length=u.body.kids.length/\0<=k:=by
 have h3:wU u=u.name.length+u.globals.length+wK u.body:=rfl;have e1:=oB mI_le u.globals 1;rw [wts_0]at e1;generalize hk1:(mAll mI 1 u.globals).1=k1 at e1;have f1:(mAll mI 1 u.globals).2.length=u.globals.length:=J7 _ _ _;have l1:=endK_le k1 u.body;have m1:=markCore_eq u.body k1 h.2.2.1 (Nat.le_trans h.2.2.2 (by decide)) (by omega) (by omega);refine ⟨endK k1 u.body,(mAll mI 1 u.globals).2,(mP k1 u.body).2,(mQ (mP k1 u.body).1 u.body).2,(mR (mQ (mP k1 u.body).1 u.body).1 u.body).2,?_,f1,mP_len _ _,mQ_len _ _,mR_len _ _,by omega⟩;unfold nF;rw [iP _ _ (by omega) (by omega) (by omega),g8,p0 f1,hk1,m1,g8];exact (p0 (mP_len _ _)).trans ((p0 (mQ_len _ _)).trans (p0 (mR_len _ _)))
theorem boxM_of (l:List Int):BoxM l (putMs [] l):=fun v=>by
 rw [ap4,mget_nil];by_cases h:l.contains v=true
 .rw [if_pos h];exact⟨fun _=>h,fun _=>rfl⟩
 .rw [if_neg h];exact⟨fun e=>absurd e (by decide),fun e=>absurd e h⟩
theorem i_uses_loop (u:PUnit')(d fr:List Int)(hd:d.length<=10000000)(hf:fr.length<=10000000):itr (cI u d fr) LF (0,([]:List Int))=C6 u d fr (fun _=>none) (fr.length:Int) (usesOf d fr):=by
 refine(I3 (L:=cI u d fr) fr.length (fun i a=>a=usesOf d (fr.take i)) (fun _ _=>C6 u d fr (fun _=>none) (fr.length:Int) (usesOf d fr)) (by omega) (fun go i a hi ha hgo=>?_) (fun go a ha=>?_) (a:=([]:List Int)) rfl).trans rfl
 .show C6 u d fr go (i:Int) a=_;unfold C6 L8;have hl:=ay1 d (fr.take i);rw [List.length_take]at hl;have hs:=uses_take d fr i hi;rw [if_pos (by omega),w6 hi,g8,nR _ _ (by omega),g8,ha];by_cases hc:d.contains fr[i]=true
  .rw [if_pos hc]at hs;rw [if_pos hc,p0 (by omega)];refine (hgo _ hs.symm).trans ?_;unfold C6 L8;rfl
  .rw [if_neg hc]at hs;rw [if_neg hc,p0 (by rw [show ([fr[i]]:List Int).length=1 from rfl];omega),p0 (by omega)];refine (hgo _ hs.symm).trans ?_;unfold C6 L8;rfl
 .rw [List.take_length]at ha;rw [ha];show C6 u d fr go (fr.length:Int) (usesOf d fr)=_;unfold C6;rw [if_neg (by omega),if_neg (by omega)]
theorem s_uses_loop (u:PUnit')(d fr:List Int)(hn:fr.Nodup)(hd:d.length<=10000000)(hf:fr.length<=10000000):itr (cP u fr) LF (0,d,([]:List Int))=E5 u fr (fun _=>none) (fr.length:Int) (d++usesOf d fr) (usesOf d fr):=by
 refine(I3 (L:=cP u fr) fr.length (fun i a=>a=(d++usesOf d (fr.take i),usesOf d (fr.take i))) (fun _ _=>E5 u fr (fun _=>none) (fr.length:Int) (d++usesOf d fr) (usesOf d fr)) (by omega) (fun go i a hi ha hgo=>?_) (fun go a ha=>?_) (a:=(d,([]:List Int))) (by show(d,([]:List Int))=(d++[],[]);rw [List.append_nil])).trans rfl
 .subst ha;show E5 u fr go (i:Int) (d++usesOf d (fr.take i)) (usesOf d (fr.take i))=_;have hl:=ay1 d (fr.take i);rw [List.length_take]at hl;have hs:=uses_take d fr i hi;rw [E5,if_pos (by omega),w6 hi,g8,L3 _ _ (by rw [List.length_append];omega),g8,all_has d fr hn i hi];unfold U4;by_cases hc:d.contains fr[i]=true
  .rw [if_pos hc]at hs;rw [if_pos hc,p0 (by omega)];exact hgo _ (by rw [hs])
  .rw [if_neg hc]at hs;rw [if_neg hc,p0 (by rw [List.length_append,show([fr[i]]:List Int).length=1 from rfl];omega),p0 (by rw [show ([fr[i]]:List Int).length=1 from rfl];omega),p0 (by omega)];exact hgo _ (by rw [hs,List.append_assoc])
 .rw [List.take_length]at ha;subst ha;show E5 u fr go (fr.length:Int) (d++usesOf d fr) (usesOf d fr)=_;unfold E5;rw [if_neg (by omega),if_neg (by omega)]
theorem fits_few {g:List Int}{u:PUnit'}(h:fitsB g u=true):0<=few u.body 3000:=by
 unfold fitsB coreG at h;simp only [Bool.and_eq_true]at h;have h1:=h.2.2.1;rw [<- few_tree]at h1;simp only [Bool.and_eq_true,decide_eq_true_eq]at h1;exact h1.1
def noO:ep:=ep.mk ([]:List UInt8) [] [] (eo.mk [] 0)
theorem mE:noO.small/\wM noO.image<=130000000000:=⟨⟨Nat.zero_le _,Nat.zero_le _,Nat.zero_le _,⟨by simp [noO,eo.codes],fun x hx=>by cases hx⟩⟩,by show 0<=_;omega⟩
theorem CompileUnit_eq (u:PUnit')(h:u.fine)(hw:wU u<=1048576):∃ r:ep×Bool,dZ u=some r/\bR u=some r/\r.1.small/\wM r.1.image<=130000000000:=by
 have h3:wU u=u.name.length+u.globals.length+wK u.body:=rfl;have hc:=h.2.2.1;have hcc:=sY.1 u.body;have hbw:wK u.body<=1048576:=by omega
 have hfl:=yD u.body hbw;have hnd:=free_nodup.1 u.body [] [] List.nodup_nil;have hul:=ay1 u.globals (free u.body [] []);have hsm:SM u.name:=by unfold SM;omega
 have hd:u.globals.length<=1048576:=by omega
 unfold dZ bR;rw [zY _ hc (by omega),g8,kF _ hc (by omega),g8,Z5 _ (by omega),g8,s_uses_loop u _ _ hnd (by omega) (by omega)];unfold dB;rw [p0 (by omega),g8,dS _ hc (by omega),g8,i_uses_loop u _ _ (by omega) (by omega)];have efr:free u.body [] []=free u.body [] []:=rfl;generalize hfr:free u.body [] []=fr at hfl hnd hul;generalize hus:usesOf u.globals fr=us at hul;have ui:=as9 (PUnit'.mk u.name [] u.body) (u.globals++us) hsm hc hbw (by rw [List.length_append];omega) (Nat.zero_le _);have us':=aw3 (PUnit'.mk u.name [] u.body) (u.globals++us) hsm hc hbw (by rw [List.length_append];omega) (Nat.zero_le _);unfold C6 dB;rw [if_neg (show ¬ ((fr.length:Int)<(fr.length:Int))by omega),p0 (by omega),g8,p0 (by omega),ui,g8];by_cases hfew:¬ 0<=few u.body 3000
 .have hff:fitsB (u.globals++us) (PUnit'.mk u.name [] u.body)=false:=Bool.eq_false_iff.2 fun hh=>hfew (fits_few (u:=PUnit'.mk u.name [] u.body) hh);rw [decide_eq_false hfew,if_neg (by decide),hff,if_neg (by decide)];exact ⟨(noO,false),rfl,rfl,mE.1,mE.2⟩
 rw [decide_eq_true (Classical.not_not.1 hfew),if_pos rfl];unfold E5;rw [if_neg (show ¬ ((fr.length:Int)<(fr.length:Int))by omega),us',g8];by_cases hf:fitsB (u.globals++us) (PUnit'.mk u.name [] u.body)=true
 .have hg:coreG u.body (u.globals++us)=true:=by
   unfold fitsB at hf;simp only [Bool.and_eq_true,List.append_nil]at hf;exact hf.2.2
  obtain⟨g1,g2⟩:=coreG_ok hg;have hsc:∀ v,fvc v u.body->v∈([]:List Int)\/v∈u.globals++us:=fun v hv=>by
   have hm:v∈free u.body [] []:=(mem_free.1 u.body [] [] v).2 (.inr ⟨by simp,hv⟩);unfold coreG at hg;simp only [Bool.and_eq_true,List.all_eq_true]at hg;exact .inr (List.contains_iff_mem.1 (hg.2.2 v hm))
  have hbl:=ar1.1 u.body [];simp only [List.length_nil,Nat.zero_add]at hbl;have hfl2:=rX.1 u.body [] [];rw [hfr]at hfl2;simp only [List.length_nil,Nat.zero_add]at hfl2;rw [hf,if_pos rfl,if_pos rfl,uG _ hc (by omega) (by omega),g8,tO _ hc (by omega) (by omega),g8,p0 (by rw [List.length_append];omega),i_setOf_eq _ (by simp) (fun l hl=>by
   simp only [List.mem_cons,List.not_mem_nil,or_false]at hl;rcases hl with rfl|rfl
   .omega
   .rw [List.length_append];omega),g8]
  have e:([boxd u.body [],u.globals++us]:List (List Int)).flatten=boxd u.body []++(u.globals++us):=by simp
  rw [e];have hbx:(boxd u.body []++(u.globals++us)).length<=1000000000:=by rw [List.length_append,List.length_append];omega
  generalize boxd u.body []++(u.globals++us)=bx at hbx;have hB:=boxM_of bx;have hcb:=node_both hB hbx u.body.cnt u.body (Nat.le_refl _) g1 g2;obtain ⟨n,hn⟩:∃ n,RF=n+1:=⟨RF-1,by rw [RF_eq]⟩
  obtain⟨cs',j,hj,f1,f2,f3⟩:=fin_both hB hbx hcb (params:=[]) (cap:=u.globals++us) (cs:=[]) ⟨hsc,⟨fun _ hx=>(List.not_mem_nil hx).elim,fun _ hx=>(List.not_mem_nil hx).elim⟩,by simp,by rw [List.length_append];omega,g2,by simp;omega⟩ n n (by rw [RF_eq]at hn;omega) (by rw [RF_eq]at hn;omega) 0;have hs:(eo.mk cs' j).small:=⟨by have:=f3.c2;show cs'.length<=_;simp at this;omega,fun x hx=>⟨by have:=(f3.good.1 x hx).1;omega,(f3.good.1 x hx).2⟩⟩
  have hwm:wM (eo.mk cs' j)<=130000000000:=by
   have:=f3.wt;have hw0:wts wC ([]:List ek)=0:=rfl;show wts wC cs'<=_;omega
  have f1':r9 RF [] [] (u.globals++us) bx u.body=some (j,cs'):=by rw [hn];exact f1
  have f2':l7 RF [] 0 (putMs [] bx) [] (u.globals++us) u.body=some (j,cs',0):=by rw [hn];exact f2
  have ho:(ep.mk u.name u.globals us (eo.mk cs' j)).small:=⟨h.1,hd,by show us.length<=_;omega,hs⟩
  rw [f1',g8,Z5 _ (by omega),g8,f2',g8,aw1 _ ho hsm,g8,as7 _ ho hsm,g8];by_cases hi:isObj (ep.mk u.name u.globals us (eo.mk cs' j))=true
  .exact ⟨(ep.mk u.name u.globals us (eo.mk cs' j),true),if_pos hi,if_pos hi,ho,hwm⟩
  .exact ⟨(noO,false),if_neg hi,if_neg hi,mE.1,mE.2⟩
 .rw [if_neg hf,if_neg hf];exact ⟨(noO,false),rfl,rfl,mE.1,mE.2⟩
end Go.Abs

namespace Go.Abs
open PC
set_option maxRecDepth 20000 in
theorem lF (u:PUnit')(h:u.ok):X1 u=some true:=by
 unfold X1;rw [szUnit_eq u h _ (by omega) (by omega),g8];by_cases hz:szw (wU u) 1048576<0
 .rw [if_pos hz]
 have hw:wU u<=1048576:=by have:=(ax9 hz).2;omega
 have hf:=fine_wU hw;obtain ⟨r,es,ei,rs,rw'⟩:=CompileUnit_eq u hf hw;obtain ⟨k,a,b,c,d,m1,m2,m3,m4,m5,m6⟩:=markUnit_eq u hf hw;obtain ⟨k2,a2,b2,c2,n1,n2,n3,n4,n5,n6⟩:=mObject_all r.1 rs rw';rw [if_neg hz];simp only [toUnit_eq u hf,g8,es,ei,eqObject_eq r.1 rs,if_true,eqUnit_eq u hf,m1];rw [p0 m2,p0 m3,p0 m4,p0 m5,if_neg (by omega)];simp only [n1,g8];rw [p0 n2,p0 n3,p0 n4];simp only [n6,g8];rw [if_neg (by omega)];simp only [if_true];rw [if_neg (by omega)]
end Go.Abs
