
import Derived.Test.YtllbdfllngpkaaaGreatLibS
import Derived.Test.YtllbdfllngpkaaaGreatLibE
import Derived.Test.YtllbdfllngpkaaaGreatLibD
import Derived.Test.YtllbdfllngpkaaaGreatLibP
set_option linter.all false
namespace Go.Abs
namespace PC
mutual
def cnt:PC->Nat
 |.mk _ _ _ _ ks=>cnts ks
def cnts:List PC->Nat
 | []=>0
 |c::r=>1+cnt c+cnts r
end
theorem cnts_mem:∀{ds:List PC} {x:PC},x∈ds->x.cnt+1<=cnts ds
 |d::r,x,h=>by
  unfold cnts;rcases List.mem_cons.1 h with rfl|h
  .omega
  .have:=cnts_mem h;omega
theorem cnts_len:∀(ds:List PC),ds.length<=cnts ds
 | []=>by simp
 |d::r=>by have:=cnts_len r;unfold cnts;simp;omega
theorem cnt_eq (d:PC):d.cnt=cnts d.kids:=by cases d;rfl
theorem ar5 {d x:PC}(h:x∈d.kids):x.cnt<d.cnt:=by have:=cnts_mem h;rw [cnt_eq d];omega
theorem ind {A:PC->Prop}{B:List PC->Prop}(hB:∀ ds,(∀ x∈ds,A x)->B ds)(hA:∀ d,B d.kids->A d):(∀ d,A d)/\∀ ds,B ds:=by
 have key:∀ N,(∀ d:PC,d.cnt<N->A d)/\∀ ds:List PC,cnts ds<=N->B ds:=by
  intro N;induction N with
  |zero=>exact⟨fun d h=>by omega,fun ds h=>hB ds fun x hx=>by have:=cnts_mem hx;omega⟩
  |succ N ih=>
   have hA':∀ d:PC,d.cnt<N+1->A d:=fun d h=>hA d (ih.2 _ (by rw [<- cnt_eq];omega));exact ⟨hA',fun ds h=>hB ds fun x hx=>hA' x (by have:=cnts_mem hx;omega)⟩
 exact⟨fun d=>(key (d.cnt+1)).1 d (by omega),fun ds=>(key (cnts ds)).2 ds (Nat.le_refl _)⟩
mutual
def wK:PC->Nat
 |.mk _ _ p d ks=>p.length+wD d+wKs ks
def wKs:List PC->Nat
 | []=>0
 |c::r=>1+wK c+wKs r
end
theorem oR (c:PC):wK c=c.params.length+wD c.datum+wKs c.kids:=by cases c;rfl
theorem wKs_eq:∀ ds:List PC,wKs ds=wts wK ds
 | []=>rfl
 |d::r=>by have:=wKs_eq r;unfold wts at *;simp [wKs];omega
theorem uZ:∀{ds:List PC} {x:PC},x∈ds->wK x<wKs ds
 |d::r,x,h=>by
  unfold wKs;rcases List.mem_cons.1 h with rfl|h
  .omega
  .have:=uZ h;omega
theorem sY:(∀ d:PC,d.cnt<=wK d)/\∀ ds:List PC,cnts ds<=wKs ds:=by
 refine ind (fun ds h=>?_) (fun d h=>?_)
 .induction ds with
  |nil=>simp [cnts]
  |cons x r ih=>have:=h x (by simp);have:=ih (fun y hy=>h y (by simp [hy]));unfold cnts wKs;omega
 .rw [cnt_eq,oR];omega
mutual
def nice:PC->Prop
 |.mk _ _ p d ks=>p.length<=1048576/\wD d<=1048576/\ks.length<=1048576/\nices ks
def nices:List PC->Prop
 | []=>True
 |c::r=>nice c/\nices r
end
theorem W0 (c:PC):c.nice↔c.params.length<=1048576/\wD c.datum<=1048576/\c.kids.length<=1048576/\nices c.kids:=by cases c;exact Iff.rfl
theorem qI:∀{ds:List PC} {x:PC},nices ds->x∈ds->x.nice
 |d::r,x,h,hx=>by
  unfold nices at h;rcases List.mem_cons.1 hx with rfl|hx
  .exact h.1
  .exact qI h.2 hx
theorem au5:∀{ds:List PC},(∀ x∈ds,x.nice)->nices ds
 | [],_=>trivial
 |d::r,h=>⟨h d (by simp),au5 fun x hx=>h x (by simp [hx])⟩
theorem nice_wK:(∀ d:PC,wK d<=1048576->d.nice)/\∀ ds:List PC,wKs ds<=1048576->nices ds:=by
 refine ind (fun ds h hw=>au5 fun x hx=>h x hx (by have:=uZ hx;omega)) (fun d h hw=>?_);rw [oR]at hw;have h1:=cnts_len d.kids;have h2:=sY.2 d.kids;exact (W0 d).2 ⟨by omega,by omega,by omega,h (by omega)⟩
theorem cK {c x:PC}(h:c.nice)(hx:x∈c.kids):x.nice:=qI ((W0 c).1 h).2.2.2 hx
theorem dE {c:PC}(h:c.nice):c.datum.small:=ax8 ((W0 c).1 h).2.1
mutual
def wf:PC->Prop
 |.mk k n p d ks=>(IntKind.i64.min<=k/\k<=IntKind.i64.max)/\(IntKind.i64.min<=n/\n<=IntKind.i64.max)/\(p.length<=9223372036854775807/\∀ x∈p,IntKind.i64.min<=x/\x<=IntKind.i64.max)/\d.wf/\ks.length<=9223372036854775807/\wfs ks
def wfs:List PC->Prop
 | []=>True
 |d::r=>wf d/\wfs r
end
theorem wfs_mem:∀{ds:List PC} {x:PC},wfs ds->x∈ds->x.wf
 |d::r,x,h,hx=>by
  unfold wfs at h;rcases List.mem_cons.1 hx with rfl|hx
  .exact h.1
  .exact wfs_mem h.2 hx
theorem wfs_of:∀{ds:List PC},(∀ x∈ds,x.wf)->wfs ds
 | [],_=>trivial
 |d::r,h=>⟨h d (by simp),wfs_of fun x hx=>h x (by simp [hx])⟩
theorem wf_eq (c:PC):c.wf↔(IntKind.i64.min<=c.kind/\c.kind<=IntKind.i64.max)/\(IntKind.i64.min<=c.number/\c.number<=IntKind.i64.max)/\(c.params.length<=9223372036854775807/\∀ x∈c.params,IntKind.i64.min<=x/\x<=IntKind.i64.max)/\c.datum.wf/\c.kids.length<=9223372036854775807/\wfs c.kids:=by cases c;exact Iff.rfl
theorem wf_of {x:Int×Int×LI×PD×List PC}(h:(IntKind.i64.min<=x.1/\x.1<=IntKind.i64.max)/\(IntKind.i64.min<=x.2.1/\x.2.1<=IntKind.i64.max)/\(x.2.2.1.length<=9223372036854775807/\∀ y∈x.2.2.1,IntKind.i64.min<=y/\y<=IntKind.i64.max)/\x.2.2.2.1.wf/\x.2.2.2.2.length<=9223372036854775807/\∀ y∈x.2.2.2.2,y.wf):(PC.mk x.1 x.2.1 x.2.2.1 x.2.2.2.1 x.2.2.2.2).wf:=
 ⟨h.1,h.2.1,h.2.2.1,h.2.2.2.1,h.2.2.2.2.1,wfs_of h.2.2.2.2.2⟩
def named (c:PC):Bool:=decide (c.kind=2)||decide (c.kind=4)
def shapeOK (c:PC):Bool:=
 (decide (c.kind=1)||PD.eqb c.datum zeroDat)&&((decide (c.number=0)||(named c||decide (c.kind=3)))&&
 (if c.kind=1 then decide ((c.params.length:Int)=0)&&(decide ((c.kids.length:Int)=0)&&c.datum.valid)
 else if c.kind=2 then decide ((c.params.length:Int)=0)&&decide ((c.kids.length:Int)=0)
 else if c.kind=3 then decide ((c.params.length:Int)=0)&&(decide ((c.kids.length:Int)=0)&&inside c.number 0 13)
 else if c.kind=4 then decide ((c.params.length:Int)=0)&&decide ((c.kids.length:Int)=1)
 else if c.kind=5 then decide ((c.params.length:Int)<=8)&&decide ((c.kids.length:Int)=1)
 else if c.kind=6 then decide ((c.params.length:Int)=0)&&inside (c.kids.length:Int) 1 9
 else if c.kind=7 then decide ((c.params.length:Int)=0)&&decide ((c.kids.length:Int)=3)
 else if c.kind=8 then decide ((c.params.length:Int)=0)&&inside (c.kids.length:Int) 2 60
 else if c.kind=9 then inside (c.params.length:Int) 1 60&&inside (c.kids.length:Int) 1 60
 else if c.kind=10 then decide ((c.params.length:Int)=0)&&decide ((c.kids.length:Int)=1)
 else if c.kind=11 then decide ((c.params.length:Int)=1)&&decide ((c.kids.length:Int)=1)
 else false))
def seqOK (c:PC):Bool:=!decide (c.kind=8)||c.kids.all fun x=>!decide (x.kind=8)
mutual
def okAll:PC->Bool
 |.mk k n p d ks=>(shapeOK (.mk k n p d ks)&&seqOK (.mk k n p d ks))&&okAlls ks
def okAlls:List PC->Bool
 | []=>true
 |d::r=>okAll d&&okAlls r
end
mutual
def depth:PC->Int
 |.mk _ _ _ _ ks=>depths ks+1
def depths:List PC->Int
 | []=>0
 |d::r=>max (depth d) (depths r)
end
mutual
def meas:PC->Int->Int->Bool×Int
 |.mk k n p d ks,deep,nodes=>if 150<deep\/3000<nodes+1\/(shapeOK (.mk k n p d ks)&&seqOK (.mk k n p d ks))=false then(false,nodes+1)else measL ks (deep+1) (nodes+1)
def measL:List PC->Int->Int->Bool×Int
 | [],_,nodes=>(true,nodes)
 |d::r,deep,nodes=>if(meas d deep nodes).1=true then measL r deep (meas d deep nodes).2 else(false,(meas d deep nodes).2)
end
mutual
def few:PC->Int->Int
 |.mk _ _ _ _ ks,left=>fews ks (left-1)
def fews:List PC->Int->Int
 | [],left=>left
 |d::r,left=>if 0<=left then fews r (few d left)else left
end
def tree (d:PC):Bool:=decide ((d.cnt:Int)+1<=3000)&&(decide (d.depth<=150)&&d.okAll)
theorem J8:∀ ds:List PC,0<=depths ds
 | []=>by simp [depths]
 |d::r=>by have:=J8 r;unfold depths;omega
theorem qF:(∀ (d:PC) (deep nodes:Int),((meas d deep nodes).1=true↔deep+d.depth<=151/\nodes+1+d.cnt<=3000/\d.okAll=true)/\((meas d deep nodes).1=true->(meas d deep nodes).2=nodes+1+d.cnt))/\
 (∀ (ds:List PC) (deep nodes:Int),deep<=151->nodes<=3000->((measL ds deep nodes).1=true↔deep+depths ds<=151/\nodes+cnts ds<=3000/\okAlls ds=true)/\((measL ds deep nodes).1=true->(measL ds deep nodes).2=nodes+cnts ds)):=by
 refine ind (fun ds ih=>?_) (fun d ih=>?_)
 .induction ds with
  |nil=>intro deep nodes h1 h2;simp [measL,depths,cnts,okAlls];omega
  |cons x r ihr=>
   intro deep nodes h1 h2;have hx:=ih x (by simp) deep nodes;have hr:=ihr (fun y hy=>ih y (by simp [hy])) deep;have hd:=J8 r;unfold measL depths cnts okAlls;by_cases hb:(meas x deep nodes).1=true
   .rw [if_pos hb];have h3:=hx.1.1 hb;have h4:=hx.2 hb;have h5:=hr (meas x deep nodes).2 h1 (by omega);rw [h5.1,h3.2.2,h4,Bool.true_and];refine ⟨⟨fun h=>⟨by omega,by omega,h.2.2⟩,fun h=>⟨by omega,by omega,h.2.2⟩⟩,fun h=>?_⟩;rw [<- h4,h5.2 (h5.1.2 (by rw [h4];exact h)),h4];omega
   .rw [if_neg hb];refine ⟨⟨fun h=>by simp at h,fun h=>?_⟩,fun h=>by simp at h⟩;refine absurd (hx.1.2 ⟨by omega,by omega,?_⟩) hb;have:=h.2.2;simp only [Bool.and_eq_true]at this;exact this.1
 .intro deep nodes;obtain ⟨k,n,p,d,is⟩:=d;have ih':∀(deep nodes:Int),deep<=151->nodes<=3000->((measL is deep nodes).1=true↔deep+depths is<=151/\nodes+cnts is<=3000/\okAlls is=true)/\((measL is deep nodes).1=true->(measL is deep nodes).2=nodes+cnts is):=ih;have hd:=J8 is;unfold meas depth cnt okAll;generalize (shapeOK (.mk k n p d is)&&seqOK (.mk k n p d is))=b;by_cases hc:150<deep\/3000<nodes+1\/b=false
  .rw [if_pos hc];refine ⟨⟨fun h=>by simp at h,fun h=>?_⟩,fun h=>by simp at h⟩;have:=h.2.2;simp only [Bool.and_eq_true]at this;rcases hc with hc|hc|hc
   .omega
   .omega
   .rw [this.1]at hc;cases hc
  .rw [if_neg hc];have h0:b=true:=by cases b<;>simp_all
   have h5:=ih' (deep+1) (nodes+1) (by omega) (by omega);rw [h5.1,h0,Bool.true_and];refine ⟨⟨fun h=>⟨by omega,by omega,h.2.2⟩,fun h=>⟨by omega,by omega,h.2.2⟩⟩,fun h=>?_⟩;rw [h5.2 (h5.1.2 h)]
theorem vL:(∀ (d:PC) (left:Int),0<=left->(-1<=few d left/\few d left<=left)/\(0<=few d left↔(d.cnt:Int)+1<=left)/\(0<=few d left->few d left=left-(d.cnt+1)))/\
 (∀ (ds:List PC) (left:Int), -1<=left->(-1<=fews ds left/\fews ds left<=left)/\(0<=fews ds left↔(cnts ds:Int)<=left)/\(0<=fews ds left->fews ds left=left-cnts ds)):=by
 refine ind (fun ds ih=>?_) (fun d ih=>?_)
 .induction ds with
  |nil=>intro left h;simp [fews,cnts];omega
  |cons x r ihr=>
   intro left h;unfold fews cnts;by_cases h0:0<=left
   .rw [if_pos h0];have hx:=ih x (by simp) left h0;have hr:=ihr (fun y hy=>ih y (by simp [hy])) (few x left) (by omega);refine ⟨by omega,⟨fun h=>?_,fun h=>?_⟩,fun h=>?_⟩
    .have h1:=hr.2.1.1 h;have h2:=hx.2.2 (by omega);omega
    .have h2:=hx.2.2 (hx.2.1.2 (by omega));exact hr.2.1.2 (by omega)
    .have h1:=hr.2.1.1 h;have h2:=hx.2.2 (by omega);have h3:=hr.2.2 h;omega
   .rw [if_neg h0];refine ⟨by omega,⟨fun h=>by omega,fun h=>by omega⟩,fun h=>by omega⟩
 .intro left h0;obtain ⟨k,n,p,d,is⟩:=d;have h:=ih (left-1) (by omega);have h':(-1<=fews is (left-1)/\fews is (left-1)<=left-1)/\(0<=fews is (left-1)↔(cnts is:Int)<=left-1)/\(0<=fews is (left-1)->fews is (left-1)=left-1-cnts is):=h;unfold few cnt;refine ⟨by omega,by rw [h'.2.1];omega,fun h=>by rw [h'.2.2 h];omega⟩
theorem meas_tree (d:PC):(meas d 1 0).1=d.tree:=by
 have h:=(qF.1 d 1 0).1;generalize meas d 1 0=q at h;have e:d.tree=true↔((d.cnt:Int)+1<=3000/\d.depth<=150/\d.okAll=true):=by
  unfold tree;rw [Bool.and_eq_true,Bool.and_eq_true,decide_eq_true_iff,decide_eq_true_iff]
 rw [Bool.eq_iff_iff,h,e];refine ⟨fun h=>⟨by omega,by omega,h.2.2⟩,fun h=>⟨by omega,by omega,h.2.2⟩⟩
theorem few_tree (d:PC):(decide (0<=few d 3000)&&(decide (d.depth<=150)&&d.okAll))=d.tree:=by
 have h:=(vL.1 d 3000 (by omega)).2.1;have e:decide (0<=few d 3000)=decide ((d.cnt:Int)+1<=3000):=decide_eq_decide.2 h;unfold tree;rw [e]
theorem meas_eq (d:PC)(deep nodes:Int):meas d deep nodes=if 150<deep\/3000<nodes+1\/(shapeOK d&&seqOK d)=false then(false,nodes+1)else measL d.kids (deep+1) (nodes+1):=by cases d;rfl
theorem few_eq (d:PC)(left:Int):few d left=fews d.kids (left-1):=by cases d;rfl
theorem vI (d:PC):d.depth=depths d.kids+1:=by cases d;rfl
theorem okAll_eq (d:PC):d.okAll=((shapeOK d&&seqOK d)&&okAlls d.kids):=by cases d;rfl
theorem vG:(∀ d:PC,d.depth<=d.cnt+1/\1<=d.depth)/\∀ ds:List PC,depths ds<=cnts ds:=by
 refine ind (fun ds ih=>?_) (fun d ih=>?_)
 .induction ds with
  |nil=>simp [depths,cnts]
  |cons x r ihr=>
   have h1:=ih x (by simp);have h2:=ihr fun y hy=>ih y (by simp [hy]);unfold depths cnts;omega
 .have:=J8 d.kids;rw [vI,cnt_eq];omega
mutual
def bnds:PC->LI
 |.mk _ _ p _ ks=>p++bndsL ks
def bndsL:List PC->LI
 | []=>[]
 |c::r=>bnds c++bndsL r
end
theorem bnds_eq (c:PC):bnds c=c.params++bndsL c.kids:=by cases c;rfl
theorem ar0:(∀ c:PC,(bnds c).length<=wK c)/\∀ ds:List PC,(bndsL ds).length<=wKs ds:=by
 refine ind (fun ds h=>?_) (fun d h=>?_)
 .induction ds with
  |nil=>simp [bndsL]
  |cons x r ih=>have:=h x (by simp);have:=ih (fun y hy=>h y (by simp [hy]));unfold bndsL wKs;simp;omega
 .rw [bnds_eq,oR];simp;omega
def freeOne (c:PC)(b o:LI):LI:=if(named c&&(!b.contains c.number&&!o.contains c.number))=true then o++[c.number]else o
mutual
def free:PC->LI->LI->LI
 |.mk k n p d ks,b,o=>frees ks (b++p) (freeOne (.mk k n p d ks) b o)
def frees:List PC->LI->LI->LI
 | [],_,o=>o
 |c::r,b,o=>frees r b (free c b o)
end
theorem gZ (c:PC)(b o:LI):free c b o=frees c.kids (b++c.params) (freeOne c b o):=by cases c;rfl
theorem freeOne_len (c:PC)(b o:LI):(freeOne c b o).length<=o.length+1:=by unfold freeOne;split<;>simp
theorem rX:(∀ (c:PC) (b o:LI),(free c b o).length<=o.length+1+cnt c)/\∀(ds:List PC) (b o:LI),(frees ds b o).length<=o.length+cnts ds:=by
 refine ind (fun ds h=>?_) (fun d h=>?_)
 .induction ds with
  |nil=>intro b o;simp [frees,cnts]
  |cons x r ih=>
   intro b o;have h1:=h x (by simp) b o;have h2:=ih (fun y hy=>h y (by simp [hy])) b (free x b o);unfold frees cnts;omega
 .intro b o;have h1:=freeOne_len d b o;have h2:=h (b++d.params) (freeOne d b o);rw [gZ,cnt_eq];omega
def uniq:LI->LI->Bool
 |_,[]=>true
 |s,x::r=>inside x 0 99999&&(!s.contains x&&uniq (s++[x]) r)
end PC
end Go.Abs

namespace Go.Abs
open PC
theorem RF_cntK {c:PC}(h:c.cnt<=1000000000000):c.cnt<RF:=by rw [RF_eq];omega
theorem eR {c:PC}{i:Nat}(hi:i<c.kids.length):(c.kids[i]).cnt<c.cnt:=ar5 (List.getElem_mem hi)
theorem map_loop {α β R:Type}{L:(Int×List β->Option R)->Int×List β->Option R}(f:α->β)(F:List β->Option R)(xs:List α)(hn:xs.length<=1048576)
 (step:∀ go (i:Nat) o (hi:i<xs.length),o.length=i->L go ((i:Int),o)=go ((i:Int)+1,o++[f xs[i]])) (fin:∀ go o,L go ((xs.length:Int),o)=F o):
 itr L LF (0,[])=F (xs.map f):=by
 rw [I3 (L:=L) xs.length (fun i o=>o.length=i) (fun i o=>F (o++(xs.drop i).map f)) (by omega) (fun go i o hi ho hgo=>?_) (fun go o ho=>?_) (by simp)]
 .simp
 .rw [step go i o hi ho,hgo _ (by simp [ho]),List.drop_eq_getElem_cons hi,List.map_cons,List.append_assoc];rfl
 .rw [fin];simp
theorem Z5 (l:LI)(h:l.length<=1000000000):cQ l=some l:=by unfold cQ;rw [p0 (by simp;omega)];rfl
theorem ay3 {ds:List PC}{i:Nat}(h:i<ds.length):wKs (ds.drop i)=1+wK ds[i]+wKs (ds.drop (i+1)):=by rw [List.drop_eq_getElem_cons h,wKs]
theorem ao6 {E:PC->LI->Option LI}{L:(Int×LI->Option LI)->Int×LI->Option LI}(c:PC)(out:LI)(hn:c.kids.length<=1048576)(ho:out.length+wKs c.kids<=1000000000)
 (hE:∀(i:Nat) (h:i<c.kids.length) (o:LI),o.length+wK c.kids[i]<=1000000000->E c.kids[i] o=some (o++bnds c.kids[i]))
 (hL:∀ go (i:Int) o,L go (i,o)=if i<(c.kids.length:Int)then bnd (nth c.kids i) fun x=>bnd (E x o) fun y=>chk (I64 (i+1)) (go (i+1,y))else some o):
 itr L LF (0,out)=some (out++bndsL c.kids):=by
 rw [I3 (L:=L) c.kids.length (fun i o=>o.length+wKs (c.kids.drop i)<=1000000000) (fun i o=>some (o++bndsL (c.kids.drop i))) (by omega) (fun go i o hi ho hgo=>?_) (fun go o ho=>?_) (by simpa using ho)]
 .rw [List.drop_zero]
 .have hw:=ay3 hi;have hb:=ar0.1 c.kids[i];rw [hL,if_pos (by omega),w6 hi,g8,hE i hi o (by omega),g8,p0 (by omega),hgo _ (by rw [List.length_append];omega),List.drop_eq_getElem_cons hi,bndsL,List.append_assoc]
 .rw [hL,if_neg (by omega),List.drop_length];simp [bndsL]
theorem zK:∀(n:Nat) (c:PC) (out:LI),c.cnt<n->c.nice->out.length+wK c<=1000000000->I4 n c out=some (out++bnds c)
 |0,d,_,h,_,_=>by omega
 |n+1,c,out,h,hc,ho=>by
  show iB (I4 n) c out=_;unfold iB;have hc':=(W0 c).1 hc;have hw:=oR c;rw [p0 (by omega),ao6 (L:=pX (I4 n) c) (E:=I4 n) c (out++c.params) hc'.2.2.1 (by rw [List.length_append];omega) (fun i hi o ho=>zK n _ o (by have:=eR hi;omega) (cK hc (List.getElem_mem hi)) ho) (fun go i o=>rfl),bnds_eq,List.append_assoc]
theorem zV:∀(n:Nat) (c:PC) (out:LI),c.cnt<n->c.nice->out.length+wK c<=1000000000->I8 n c out=some (out++bnds c)
 |0,d,_,h,_,_=>by omega
 |n+1,c,out,h,hc,ho=>by
  show jC (I8 n) c out=_;unfold jC;have hc':=(W0 c).1 hc;have hw:=oR c;rw [p0 (by omega),ao6 (L:=qW (I8 n) c) (E:=I8 n) c (out++c.params) hc'.2.2.1 (by rw [List.length_append];omega) (fun i hi o ho=>zV n _ o (by have:=eR hi;omega) (cK hc (List.getElem_mem hi)) ho) (fun go i o=>rfl),bnds_eq,List.append_assoc]
theorem tM (c:PC)(h:c.nice)(hw:wK c<=1048576):Z8 c=some (bnds c):=by
 unfold Z8;rw [zK RF c [] (RF_cntK (by have:=sY.1 c;omega)) h (by simp;omega),g8,List.nil_append]
theorem aq3 {L:(Int->Option Bool)->Int->Option Bool}(l:LI)(x:Int)(h:l.length<=1000000000000)(hL:∀ go (i:Int),L go i=if i<(l.length:Int)then bnd (nth l i) fun y=>if y=x then some true else chk (I64 (i+1)) (go (i+1))else some false):itr L LF 0=some (l.contains x):=by
 rw [lA (L:=L) l.length (fun i=>some ((l.drop i).contains x)) (by omega) (fun go i hi hgo=>?_) (fun go=>?_)]
 .rw [List.drop_zero]
 .rw [hL,if_pos (by omega),w6 hi,g8,p0 (by omega),hgo,List.drop_eq_getElem_cons hi,List.contains_cons];by_cases hx:l[i]=x
  .simp [hx]
  .have:¬ x=l[i]:=fun h=>hx h.symm;simp [hx,this]
 .rw [hL,if_neg (by omega),List.drop_length];rfl
theorem L3 (l:LI)(x:Int)(h:l.length<=1000000000000):N3 l x=some (l.contains x):=aq3 l x h fun go i=>rfl
theorem kO (c:PC):fX c=some (named c):=by
 unfold fX named;by_cases h:c.kind=2<;>simp [h]
theorem yE {E:PC->LI->LI->Option LI}{L:(Int×LI->Option LI)->Int×LI->Option LI}(c:PC)(b out:LI)(hn:c.kids.length<=1048576)(ho:out.length+cnts c.kids<=1000000000)
 (hE:∀(i:Nat) (h:i<c.kids.length) (o:LI),o.length+1+cnt c.kids[i]<=1000000000->E c.kids[i] b o=some (free c.kids[i] b o))
 (hL:∀ go (i:Int) o,L go (i,o)=if i<(c.kids.length:Int)then bnd (nth c.kids i) fun x=>bnd (E x b o) fun y=>chk (I64 (i+1)) (go (i+1,y))else some o):
 itr L LF (0,out)=some (frees c.kids b out):=by
 rw [I3 (L:=L) c.kids.length (fun i o=>o.length+cnts (c.kids.drop i)<=1000000000) (fun i o=>some (frees (c.kids.drop i) b o)) (by omega) (fun go i o hi ho hgo=>?_) (fun go o ho=>?_) (by simpa using ho)]
 .rw [List.drop_zero]
 .rw [List.drop_eq_getElem_cons hi,cnts]at ho;have hb:=rX.1 c.kids[i] b o;rw [hL,if_pos (by omega),w6 hi,g8,hE i hi o (by omega),g8,p0 (by omega),hgo _ (by omega),List.drop_eq_getElem_cons hi,frees]
 .rw [hL,if_neg (by omega),List.drop_length];simp [frees]
theorem uS:∀(n:Nat) (c:PC) (b out:LI),c.cnt<n->c.nice->b.length+wK c<=1000000000->out.length+1+cnt c<=1000000000->B7 n c b out=some (free c b out)
 |0,d,_,_,h,_,_,_=>by omega
 |n+1,c,b,out,h,hc,hb,ho=>by
  show mW (B7 n) c b out=_;unfold mW;have hc':=(W0 c).1 hc;have hw:=oR c;have hcc:=cnt_eq c;have hJ2:∀ o:LI,o.length+cnt c<=1000000000->cY (B7 n) c b o=some (frees c.kids (b++c.params) o):=fun o ho=>by
   unfold cY;rw [Z5 _ (by omega),g8,p0 (by omega),yE (L:=uR (B7 n) c b) (E:=B7 n) c (b++c.params) o hc'.2.2.1 (by omega) (fun i hi o ho=>uS n _ _ o (by have:=eR hi;omega) (cK hc (List.getElem_mem hi)) (by have:=uZ (List.getElem_mem hi);rw [List.length_append];omega) ho) (fun go i o=>rfl)]
  have hJ1:∀ x,bL (B7 n) c b out x=some (frees c.kids (b++c.params) (if x=true then out++[c.number]else out)):=fun x=>by
   unfold bL;cases x
   .exact hJ2 out (by omega)
   .rw [if_pos rfl,if_pos rfl,p0 (by simp;omega)];exact hJ2 _ (by simp;omega)
  rw [kO,g8,L3 _ _ (by omega),L3 _ _ (by omega),g8,g8];simp only [hJ1];rw [gZ];unfold freeOne;cases named c<;>cases b.contains c.number<;>cases out.contains c.number<;>rfl
theorem kF (c:PC)(hc:c.nice)(hb:wK c<=40000000):O1 c=some (free c [] []):=by
 unfold O1 jE;have hc':=(W0 c).1 hc;have hw:=oR c;have hcc:=cnt_eq c;have hcw:=sY.1 c;have hJ2:∀ o:LI,o.length<=1->V1 c [] o=some (frees c.kids ([]++c.params) o):=fun o ho=>by
  unfold V1;rw [Z5 _ (by simp),g8,p0 (by simp;omega),yE (L:=kM c []) (E:=B7 RF) c ([]++c.params) o hc'.2.2.1 (by omega) (fun i hi o ho=>uS RF _ _ o (RF_cntK (by have:=eR hi;omega)) (cK hc (List.getElem_mem hi)) (by have:=uZ (List.getElem_mem hi);rw [List.length_append];simp;omega) ho) (fun go i o=>rfl)]
 have hJ1:∀ x,R2 c [] [] x=some (frees c.kids ([]++c.params) (if x=true then []++[c.number]else [])):=fun x=>by
  unfold R2;cases x
  .exact hJ2 [] (by simp)
  .rw [if_pos rfl,if_pos rfl,p0 (by simp)];exact hJ2 _ (by simp)
 rw [kO,g8,L3 _ _ (by simp),g8];simp only [hJ1];rw [gZ];unfold freeOne;cases named c<;>rfl
theorem oO (l:LI)(h:l.length<=1000000000000):fA l=some (uniq [] l):=by
 unfold fA;rw [lA (L:=oN l) l.length (fun i=>some (uniq (l.take i) (l.drop i))) (by omega) (fun go i hi hgo=>?_) (fun go=>?_)]
 .rfl
 .show W8 l go i=_;unfold W8;rw [if_pos (by omega),w6 hi,g8,aE,g8,p0 (by omega),L3 _ _ (by rw [List.length_take];omega),g8,p0 (by omega),hgo,Int.toNat_natCast,List.drop_eq_getElem_cons hi,uniq,List.take_add_one,List.getElem?_eq_getElem hi];cases inside l[i] 0 99999<;>cases (l.take i).contains l[i]<;>rfl
 .show W8 l go _=_;unfold W8;rw [if_neg (by omega),List.drop_length];simp [uniq]
theorem ite2 {p:Prop} [Decidable p] {a b:Option Bool}{x y:Bool}(h1:p->a=some x)(h2:¬p->b=some y):(if p then a else b)=some (if p then x else y):=by
 by_cases h:p
 .rw [if_pos h,if_pos h,h1 h]
 .rw [if_neg h,if_neg h,h2 h]
theorem toZero:PD.mk 0 0 ([]:LB) []=zeroDat:=rfl
theorem s_l5Shape_eq (c:PC)(h:c.nice):rB c=some (shapeOK c):=by
 have hp:bnd P3 (fun x3=>chk (I64 ((x3.length:Int)-1))<|bnd (bW c.number 0 ((x3.length:Int)-1)) fun x4=>some x4)=some (inside c.number 0 13):=by
  unfold P3;rw [g8,p0 (by simp;omega),aE,g8];rfl
 have hJ:∀ b,M3 c b=some (!b&&(if c.kind=1 then decide ((c.params.length:Int)=0)&&(decide ((c.kids.length:Int)=0)&&c.datum.valid)
 else if c.kind=2 then decide ((c.params.length:Int)=0)&&decide ((c.kids.length:Int)=0)
 else if c.kind=3 then decide ((c.params.length:Int)=0)&&(decide ((c.kids.length:Int)=0)&&inside c.number 0 13)
 else if c.kind=4 then decide ((c.params.length:Int)=0)&&decide ((c.kids.length:Int)=1)
 else if c.kind=5 then decide ((c.params.length:Int)<=8)&&decide ((c.kids.length:Int)=1)
 else if c.kind=6 then decide ((c.params.length:Int)=0)&&inside (c.kids.length:Int) 1 9
 else if c.kind=7 then decide ((c.params.length:Int)=0)&&decide ((c.kids.length:Int)=3)
 else if c.kind=8 then decide ((c.params.length:Int)=0)&&inside (c.kids.length:Int) 2 60
 else if c.kind=9 then inside (c.params.length:Int) 1 60&&inside (c.kids.length:Int) 1 60
 else if c.kind=10 then decide ((c.params.length:Int)=0)&&decide ((c.kids.length:Int)=1)
 else if c.kind=11 then decide ((c.params.length:Int)=1)&&decide ((c.kids.length:Int)=1)
 else false)):=fun b=>by
  unfold M3;rw [hp,zQ _ (dE h),aE,aE,aE,aE];simp only [g8];generalize inside (c.kids.length:Int) 1 9=y1;generalize inside (c.kids.length:Int) 2 60=y2;generalize inside (c.kids.length:Int) 1 60=y3;generalize inside (c.params.length:Int) 1 60=y4;generalize inside c.number 0 13=y5;generalize c.datum.valid=y6;cases b
  .rw [if_neg (by simp),Bool.not_false,Bool.true_and];iterate 11 (refine ite2 (fun _=>?_) fun _=>?_;rotate_left)
   all_goals (repeat' split)<;>simp_all
  .rfl
 unfold rB shapeOK;rw [lC RF _ _ (RF_cnt (dE h)) (dE h),kO,toZero];simp only [g8,hJ];generalize (if c.kind=1 then decide ((c.params.length:Int)=0)&&(decide ((c.kids.length:Int)=0)&&c.datum.valid)else _)=z;generalize PD.eqb c.datum zeroDat=w;generalize named c=y;by_cases h1:c.kind=1<;>by_cases h2:c.number=0<;>cases w<;>cases y<;>simp [h1,h2]
theorem yK (c:PC)(hn:c.kids.length<=1048576):itr (fF c) LF 0=some (c.kids.all fun x=>!decide (x.kind=8)):=by
 rw [oA (L:=fF c) c.kids (fun x=>!decide (x.kind=8)) (some true) (some false) (by omega) (fun go i hi=>?_) (fun go=>?_)]
 .cases c.kids.all fun x=>!decide (x.kind=8)<;>rfl
 .show R4 c go i=_;unfold R4;rw [if_pos (by omega),w6 hi,g8,p0 (by omega)];by_cases h:c.kids[i].kind=8<;>simp [h]
 .show R4 c go _=_;unfold R4;rw [if_neg (by omega)]
theorem al8 (c:PC)(h:c.nice):iD c=some (shapeOK c&&seqOK c):=by
 have hc':=(W0 c).1 h;have hp:bnd M0 (fun x4=>some (decide (c.number<(x4.length:Int))))=some (decide (c.number<=13)):=by
  unfold M0;rw [g8];show some (decide (c.number<(14:Int)))=_;congr 1;exact decide_eq_decide.2 (by omega)
 have hJ:∀ b,I5 c b=some (if c.kind=1 then !b&&(decide ((c.params.length:Int)=0)&&(decide ((c.kids.length:Int)=0)&&c.datum.valid))
 else if c.kind=2 then !b&&(decide ((c.params.length:Int)=0)&&decide ((c.kids.length:Int)=0))
 else if c.kind=3 then !b&&(decide ((c.params.length:Int)=0)&&(decide ((c.kids.length:Int)=0)&&inside c.number 0 13))
 else if c.kind=4 then !b&&(decide ((c.params.length:Int)=0)&&decide ((c.kids.length:Int)=1))
 else if c.kind=5 then !b&&(decide ((c.params.length:Int)<=8)&&decide ((c.kids.length:Int)=1))
 else if c.kind=6 then !b&&(decide ((c.params.length:Int)=0)&&inside (c.kids.length:Int) 1 9)
 else if c.kind=7 then !b&&(decide ((c.params.length:Int)=0)&&decide ((c.kids.length:Int)=3))
 else if c.kind=8 then !b&&((decide ((c.params.length:Int)=0)&&inside (c.kids.length:Int) 2 60)&&c.kids.all fun x=>!decide (x.kind=8))
 else if c.kind=9 then !b&&(inside (c.params.length:Int) 1 60&&inside (c.kids.length:Int) 1 60)
 else if c.kind=10 then !b&&(decide ((c.params.length:Int)=0)&&decide ((c.kids.length:Int)=1))
 else if c.kind=11 then !b&&(decide ((c.params.length:Int)=1)&&decide ((c.kids.length:Int)=1))
 else false):=fun b=>by
  unfold I5;rw [hp,zI _ (dE h),yK c hc'.2.2.1];simp only [g8];generalize (c.kids.all fun x=>!decide (x.kind=8))=y5;generalize c.datum.valid=y6;unfold inside;cases b
  .rw [if_neg (by simp)];iterate 11 (refine ite2 (fun _=>?_) fun _=>?_;rotate_left)
   all_goals (repeat' split)<;>simp_all<;>omega
  .rw [if_pos rfl];simp only [Bool.not_true,Bool.false_and,ite_self]
 have hJ1:∀ b,V5 c b=(if b=true then some false else I5 c (!(decide (c.number=0)||(named c||decide (c.kind=3))))):=fun b=>by
  unfold V5 named;cases b
  .by_cases h1:c.number=0<;>by_cases h2:c.kind=2<;>by_cases h3:c.kind=3<;>by_cases h4:c.kind=4<;>simp [h1,h2,h3,h4]
  .rfl
 have hx:∀ w,(!decide (c.kind=1)&&!w)=false->I5 c (!(decide (c.number=0)||(named c||decide (c.kind=3))))=some (((decide (c.kind=1)||w)&&((decide (c.number=0)||(named c||decide (c.kind=3)))&&
 (if c.kind=1 then decide ((c.params.length:Int)=0)&&(decide ((c.kids.length:Int)=0)&&c.datum.valid)
 else if c.kind=2 then decide ((c.params.length:Int)=0)&&decide ((c.kids.length:Int)=0)
 else if c.kind=3 then decide ((c.params.length:Int)=0)&&(decide ((c.kids.length:Int)=0)&&inside c.number 0 13)
 else if c.kind=4 then decide ((c.params.length:Int)=0)&&decide ((c.kids.length:Int)=1)
 else if c.kind=5 then decide ((c.params.length:Int)<=8)&&decide ((c.kids.length:Int)=1)
 else if c.kind=6 then decide ((c.params.length:Int)=0)&&inside (c.kids.length:Int) 1 9
 else if c.kind=7 then decide ((c.params.length:Int)=0)&&decide ((c.kids.length:Int)=3)
 else if c.kind=8 then decide ((c.params.length:Int)=0)&&inside (c.kids.length:Int) 2 60
 else if c.kind=9 then inside (c.params.length:Int) 1 60&&inside (c.kids.length:Int) 1 60
 else if c.kind=10 then decide ((c.params.length:Int)=0)&&decide ((c.kids.length:Int)=1)
 else if c.kind=11 then decide ((c.params.length:Int)=1)&&decide ((c.kids.length:Int)=1)
 else false)))&&seqOK c):=fun w hw=>by
  have hw':(decide (c.kind=1)||w)=true:=by
   revert hw;clear hJ hJ1 hp;generalize decide (c.kind=1)=q;cases w<;>cases q<;>simp
  rw [hJ,hw',Bool.not_not,Bool.true_and];unfold seqOK;generalize (decide (c.number=0)||(named c||decide (c.kind=3)))=u;generalize (c.kids.all fun x=>!decide (x.kind=8))=y5;congr 1;by_cases h8:c.kind=8
  .have n1:¬ c.kind=1:=by omega
   have n2:¬ c.kind=2:=by omega
   have n3:¬ c.kind=3:=by omega
   have n4:¬ c.kind=4:=by omega
   have n5:¬ c.kind=5:=by omega
   have n6:¬ c.kind=6:=by omega
   have n7:¬ c.kind=7:=by omega
   rw [if_neg n1,if_neg n2,if_neg n3,if_neg n4,if_neg n5,if_neg n6,if_neg n7,if_pos h8,if_neg n1,if_neg n2,if_neg n3,if_neg n4,if_neg n5,if_neg n6,if_neg n7,if_pos h8,decide_eq_true h8,Bool.not_true,Bool.false_or];simp only [Bool.and_assoc]
  .rw [if_neg h8,if_neg h8,decide_eq_false h8,Bool.not_false,Bool.true_or,Bool.and_true];cases u
   .simp only [Bool.false_and,ite_self]
   .simp only [Bool.true_and]
 unfold iD shapeOK;rw [kW RF _ _ (RF_cnt (dE h)) (dE h),toZero];simp only [g8,hJ1];by_cases h1:c.kind=1
 .rw [if_pos h1,if_neg (by simp)];exact hx (PD.eqb c.datum zeroDat) (by simp [h1])
 .rw [if_neg h1];cases hw:PD.eqb c.datum zeroDat
  .simp [h1]
  .rw [if_neg (by simp)];exact hx true (by simp)
theorem tB:∀(n:Nat) (c:PC) (deep nodes:Int),c.cnt<n->c.nice->0<=deep->deep<=151->0<=nodes->nodes<=3000->B9 n c deep nodes=some (meas c deep nodes)
 |0,d,_,_,h,_,_,_,_,_=>by omega
 |n+1,d,deep,nodes,h,hd,h1,h2,h3,h4=>by
  show dW (B9 n) d deep nodes=_;unfold dW;rw [meas_eq,p0 (by omega)];by_cases h5:deep>150
  .rw [if_pos h5,if_pos (.inl h5)]
  .rw [if_neg h5];by_cases h6:nodes+1>3000
   .rw [if_pos h6,if_pos (.inr (.inl h6))]
   .rw [if_neg h6,al8 d hd,g8];cases h7:shapeOK d&&seqOK d
    .simp
    .rw [if_pos rfl,if_neg (by simp;omega)];have hs:=((W0 d).1 hd).2.2.1;rw [I3 (L:=kZ (B9 n) d deep) d.kids.length (fun i a=>0<=a/\a<=3000) (fun i a=>some (measL (d.kids.drop i) (deep+1) a)) (by omega) (fun go i a hi ha hgo=>?_) (fun go a ha=>?_) (by omega)]
     .rfl
     .show R3 (B9 n) d deep go i a=_;unfold R3;rw [if_pos (by omega),w6 hi,g8,p0 (by omega),tB n _ _ _ (by have:=eR hi;omega) (cK hd (List.getElem_mem hi)) (by omega) (by omega) ha.1 ha.2,g8];rw [List.drop_eq_getElem_cons hi,measL];by_cases h8:(meas d.kids[i] (deep+1) a).1=true
      .rw [if_pos h8,if_pos h8,p0 (by omega),hgo];have:=(qF.1 d.kids[i] (deep+1) a)
       have h9:=this.1.1 h8;have h10:=this.2 h8;omega
      .rw [if_neg h8,if_neg h8]
     .show R3 (B9 n) d deep go _ a=_;unfold R3;rw [if_neg (by omega),List.drop_length];rfl
theorem s_l5Few_eq (n:Nat):∀(d:PC) (left:Int),d.cnt<n->d.nice->0<=left->left<=3000->N5 n d left=some (decide (0<=few d left),few d left):=by
 induction n with
 |zero=>intro d _ h;omega
 |succ n ih=>
  intro d left h hd h1 h2;show qX (N5 n) d left=_;unfold qX;rw [few_eq,p0 (by omega)];have hs:=((W0 d).1 hd).2.2.1;rw [I3 (L:=yY (N5 n) d) d.kids.length (fun i a=> -1<=a/\a<=3000) (fun i a=>some (decide (0<=fews (d.kids.drop i) a),fews (d.kids.drop i) a)) (by omega) (fun go i a hi ha hgo=>?_) (fun go a ha=>?_) (by omega)]
  .rw [List.drop_zero]
  .show cX (N5 n) d go i a=_;unfold cX eZ;rw [if_pos (by omega),List.drop_eq_getElem_cons hi,fews];by_cases h0:0<=a
   .rw [if_pos (by simpa using h0),if_pos h0,w6 hi];rw [g8];rw [ih _ _ (by have:=eR hi;omega) (cK hd (List.getElem_mem hi)) h0 ha.2];rw [g8];have:=(vL.1 d.kids[i] a h0).1;generalize few d.kids[i] a=z at this |-;rw [p0 (by omega),hgo _ (by omega)]
   .rw [if_neg (by simpa using h0),if_neg h0]
  .show cX (N5 n) d go _ a=_;unfold cX eZ;rw [if_neg (by omega),List.drop_length];simp only [fews,Bool.false_eq_true,if_false];rfl
theorem ab0 (n:Nat):∀(d:PC),d.cnt<n->d.nice->d.cnt<=1048576->z8 n d=some d.depth:=by
 induction n with
 |zero=>intro d h;omega
 |succ n ih=>
  intro d h hd hc;show bB (z8 n) d=_;unfold bB;have hs:=((W0 d).1 hd).2.2.1;have hmax:∀ x∈d.kids,0<=x.depth/\x.depth<=1048577:=fun x hx=>by
   have h1:=vG.1 x;have h2:=ar5 hx;omega
  rw [at9 (L:=gJ (z8 n) d) d.kids.length (fun i a=>0<=a/\a<=1048577) (fun i a=>some (max a (depths (d.kids.drop i))+1)) (by omega) (fun go i a hi ha hgo=>?_) (fun go a ha=>?_) (by omega)]
  .rw [vI,List.drop_zero];have:=J8 d.kids;rw [Int.max_eq_right this]
  .show N2 (z8 n) d go a i=_;unfold N2;have hx:=hmax _ (List.getElem_mem hi);rw [if_pos (by omega),w6 hi];rw [g8];rw [ih _ (by have:=eR hi;omega) (cK hd (List.getElem_mem hi)) (by have:=eR hi;omega)];rw [g8];rw [List.drop_eq_getElem_cons hi,depths];generalize depth d.kids[i]=z at hx |-;rw [p0 (by omega),hgo _ (by omega),Int.max_assoc]
  .show N2 (z8 n) d go a _=_;unfold N2;rw [if_neg (by omega),List.drop_length,p0 (by omega)];simp only [depths];rw [Int.max_eq_left ha.1]
theorem zX:∀(n:Nat) (d:PC),d.cnt<n->d.nice->G8 n d=some d.okAll
 |0,d,h,_=>by omega
 |n+1,d,h,hd=>by
  show jF (G8 n) d=_;unfold jF;have hs:=((W0 d).1 hd).2.2.1;rw [okAll_eq,lA (L:=rA (G8 n) d) d.kids.length (fun i=>some (okAlls (d.kids.drop i)&&((!decide (d.kind=8)||(d.kids.drop i).all fun x=>!decide (x.kind=8))&&shapeOK d))) (by omega) (fun go i hi hgo=>?_) (fun go=>?_)]
  .rw [List.drop_zero];unfold seqOK;generalize okAlls d.kids=a;generalize shapeOK d=b;generalize (!decide (d.kind=8)||d.kids.all fun x=>!decide (x.kind=8))=e;cases a<;>cases b<;>cases e<;>rfl
  .show Z7 (G8 n) d go i=_;unfold Z7 bM;rw [if_pos (by omega),w6 hi,g8];rw [zX n _ (by have:=eR hi;omega) (cK hd (List.getElem_mem hi)),g8];rw [p0 (by omega),hgo,List.drop_eq_getElem_cons hi,okAlls,List.all_cons];by_cases h8:d.kind=8<;>by_cases h9:d.kids[i].kind=8<;>cases okAll d.kids[i]<;>simp [h8,h9]
  .show Z7 (G8 n) d go _=_;unfold Z7;rw [if_neg (by omega),List.drop_length,s_l5Shape_eq _ hd];simp [okAlls]
end Go.Abs

namespace Go.Abs
open PC
theorem mget_nil {α:Type} [DecidableEq α] (x:α):mget ([]:List (α×Int)) x=0:=rfl
theorem yR {α β:Type} [DecidableEq α] (k x:α)(v:β):∀ m:List (α×β),mlook (mput m k v) x=if x=k then some v else mlook m x
 | []=>by unfold mput mlook;rfl
 |p::r=>by
  unfold mput;by_cases h:k=p.1
  .rw [if_pos h];unfold mlook;by_cases h2:x=k
   .rw [if_pos h2,if_pos h2]
   .rw [if_neg h2,if_neg h2,if_neg (by rw [<- h];exact h2)]
  .rw [if_neg h];unfold mlook;by_cases h2:x=p.1
   .rw [if_pos h2,if_neg (by rw [h2];exact fun e=>h e.symm),if_pos h2]
   .rw [if_neg h2,if_neg h2,yR k x v r]
theorem wR {α:Type} [DecidableEq α] (m:List (α×Int))(k x:α)(v:Int):mget (mput m k v) x=if x=k then v else mget m x:=by
 unfold mget;rw [yR];split<;>rfl
def holds (m:MI)(s:LI):Prop:=∀ x,mget m x=if s.contains x=true then 1 else 0
theorem af5:holds [] []:=fun x=>rfl
theorem holds_put {m:MI}{s:LI}(h:holds m s)(y:Int):holds (mput m y 1) (s++[y]):=fun x=>by
 rw [wR,h x];by_cases e:x=y<;>by_cases e2:s.contains x=true<;>simp_all
theorem holds_1 {m:MI}{s:LI}(h:holds m s)(y:Int):(mget m y=1)=(s.contains y=true):=by
 rw [h y];split<;>simp_all
theorem holds_0 {m:MI}{s:LI}(h:holds m s)(y:Int):(mget m y=0)=(s.contains y=false):=by
 rw [h y];split<;>simp_all
def difM:MI->LI->Option MI
 |m,[]=>some m
 |m,x::r=>if inside x 0 99999=true/\¬ mget m x=1 then difM (mput m x 1) r else none
def difL:MI->List LI->Bool
 |_,[]=>true
 |m,l::r=>match difM m l with |none=>false|some m2=>difL m2 r
theorem ae4:∀(l t s:LI) (m:MI),holds m s->(difM m l=none->uniq s (l++t)=false)/\∀ m2,difM m l=some m2->holds m2 (s++l)/\uniq s (l++t)=uniq (s++l) t
 | [],t,s,m,h=>⟨fun h=>by simp [difM]at h,fun m2 e=>by
  have:m=m2:=Option.some.inj e;subst this;rw [List.append_nil];exact⟨h,rfl⟩⟩
 |x::r,t,s,m,h=>by
  have ih:=ae4 r t (s++[x]) (mput m x 1) (holds_put h x);unfold difM;rw [List.cons_append,uniq];have h1:=holds_1 h x;by_cases hx:inside x 0 99999=true/\¬ mget m x=1
  .rw [if_pos hx];have h2:s.contains x=false:=by
    have:=hx.2;rw [h1]at this;simpa using this
   rw [hx.1,h2];have e:s++x::r=s++[x]++r:=by simp
   rw [e];exact ih
  .rw [if_neg hx];refine ⟨fun _=>?_,fun m2 e=>by cases e⟩;cases hi:inside x 0 99999
   .rfl
   .have:mget m x=1:=Classical.byContradiction fun h3=>hx ⟨hi,h3⟩;rw [h1]at this;rw [this];rfl
theorem i_dif_L2_eq (x2:Int)(hx2:0<=x2/\x2<=100)(go4:(Int×MI)->Option Bool)(l:LI)(hl:l.length<=1000000000000)(m:MI):itr (Q1 x2 go4 l) LF (0,m)=match difM m l with |none=>some false|some m2=>go4 (x2+1,m2):=by
 rw [I3 (L:=Q1 x2 go4 l) l.length (fun _ _=>True) (fun i m=>match difM m (l.drop i)with |none=>some false|some m2=>go4 (x2+1,m2)) (by omega) (fun go i m hi _ hgo=>?_) (fun go m _=>?_) trivial]
 .rw [List.drop_zero]
 .show D2 x2 go4 l go i m=_;unfold D2;rw [if_pos (by omega),w6 hi,g8,p0 (by omega),hgo _ trivial,List.drop_eq_getElem_cons hi,difM];unfold inside;by_cases h1:l[i]<0
  .rw [if_pos h1,if_neg (by simp;omega)]
  .rw [if_neg h1];by_cases h2:l[i]>99999
   .rw [if_pos h2,if_neg (by simp;omega)]
   .rw [if_neg h2];by_cases h3:mget m l[i]=1
    .rw [if_pos h3,if_neg (by simp [h3])]
    .rw [if_neg h3,if_pos (by simp [h3];omega)]
 .show D2 x2 go4 l go _ m=_;unfold D2;rw [if_neg (by omega),List.drop_length,p0 (by omega)];rfl
theorem Y4 (a b:LI)(ha:a.length<=1000000000000)(hb:b.length<=1000000000000):G9 [a,b]=some (uniq [] (a++b)):=by
 unfold G9;have h:itr (Q0 [a,b]) LF (0,[])=some (difL [] [a,b]):=by
  rw [I3 (L:=Q0 [a,b]) 2 (fun _ _=>True) (fun i m=>some (difL m ([a,b].drop i))) (by omega) (fun go i m hi _ hgo=>?_) (fun go m _=>?_) trivial]
  .rfl
  .show J6 [a,b] go i m=_;unfold J6;have hi':i< [a,b].length:=hi;have hle:([a,b][i]).length<=1000000000000:=by
    have:=List.getElem_mem hi';simp only [List.mem_cons,List.not_mem_nil,or_false]at this;rcases this with h|h<;>rw [h]<;>assumption
   rw [if_pos (by simp;omega),w6 hi',g8,i_dif_L2_eq i (by omega) go _ hle m,List.drop_eq_getElem_cons hi',difL];cases difM m [a,b][i]with
   |none=>rfl
   |some m2=>exact hgo m2 trivial
  .rfl
 rw [h];congr 1;unfold difL;have h1:=ae4 a b [] [] af5;cases e:difM [] a with
 |none=>rw [h1.1 e]
 |some m2=>
  have h2:=h1.2 m2 e;rw [h2.2];show difL m2 [b]=_;unfold difL;have h3:=ae4 b [] ([]++a) m2 h2.1;rw [List.append_nil]at h3;cases e2:difM m2 b with
  |none=>rw [h3.1 e2]
  |some m3=>rw [(h3.2 m3 e2).2];rfl
theorem ah0 {A R:Type}{L:(Int×A->Option R)->Int×A->Option R}(n:Nat)(I:Nat->A->Prop)(Q:R->Prop)(hn:n<=9223372036854775807)
 (step:∀ go (i:Nat) a,i<n->I i a->(∀ a',I (i+1) a'->∃ r,go ((i:Int)+1,a')=some r/\Q r)->∃ r,L go ((i:Int),a)=some r/\Q r) (fin:∀ go a,I n a->∃ r,L go ((n:Int),a)=some r/\Q r) {a:A} (h0:I 0 a):∃ r,itr L LF (0,a)=some r/\Q r:=by
 refine itr_exLF Q (fun v:Int×A=>(0<=v.1/\v.1<=n)/\I v.1.toNat v.2) (fun v:Int×A=>n-v.1.toNat) (fun go v hv hgo=>?_) (0,a) ⟨⟨by omega,by omega⟩,h0⟩ (by simp;omega);obtain ⟨v1,v2⟩:=v;obtain ⟨i,rfl⟩:=Int.eq_ofNat_of_zero_le hv.1.1;show ∃ r,L go ((i:Int),v2)=some r/\Q r;have h1:(i:Int)<=n:=hv.1.2;by_cases h:i<n
 .exact step go i v2 h hv.2 fun a' ha=>hgo ((i:Int)+1,a') ⟨⟨by show 0<=(i:Int)+1;omega,by show(i:Int)+1<=n;omega⟩,ha⟩ (by show n-((i:Int)+1).toNat<n-(i:Int).toNat;omega)
 .have:i=n:=by omega
  subst this;exact fin go v2 hv.2
def cntm (m:MI)(B:LI):Prop:=∀ x,mget m x=(B.count x:Int)
theorem cntm_nil:cntm [] []:=fun x=>rfl
theorem cntm_up {m:MI}{B:LI}(h:cntm m B)(y:Int):cntm (mput m y (mget m y+1)) (B++[y]):=fun x=>by
 rw [wR,List.count_append];have h1:=h x;have h2:=h y;by_cases e:x=y
 .subst e;rw [if_pos rfl,h2];simp
 .rw [if_neg e,h1];have:List.count x [y]=0:=List.count_eq_zero.2 (by simp [e]);omega
theorem cntm_dn {m:MI}{B r:LI}{y:Int}(h:cntm m (B++y::r)):cntm (mput m y (mget m y-1)) (B++r):=fun x=>by
 have h1:=h x;have h2:=h y;rw [List.count_append,List.count_cons]at h1 h2;rw [wR,List.count_append];by_cases e:x=y
 .subst e;rw [if_pos rfl,h2];simp only [beq_self_eq_true,if_true];omega
 .rw [if_neg e,h1,if_neg (by simp;exact fun h=>e h.symm)];omega
theorem cntm_le {m:MI}{B:LI}(h:cntm m B)(y:Int):0<=mget m y/\mget m y<=B.length:=by
 rw [h y];have:=List.count_le_length (a:=y) (l:=B);omega
theorem cntm_0 {m:MI}{B:LI}(h:cntm m B)(y:Int):decide (mget m y=0)=!B.contains y:=by
 rw [h y];have h1:=List.count_eq_zero (a:=y) (l:=B);by_cases h2:y∈B
 .have h3:¬ B.count y=0:=fun h=>h1.1 h h2;have h4:B.contains y=true:=by simpa using h2
  rw [h4];simp;omega
 .have h3:=h1.2 h2;have h4:B.contains y=false:=by simpa using h2
  rw [h4,h3];rfl
def seenOK (s:Option MI)(l:LI):Prop:=holds (s.getD []) l
theorem O3 {l:LI}{s:Option MI}(h:seenOK s l)(hl:l.length<=1000000000000)(x:Int):∃ s2,K5 l s x=some (if l.contains x=true then l else l++[x],s2)/\seenOK s2 (if l.contains x=true then l else l++[x]):=by
 have hJ:K5 l s x=K6 l x (s.getD []):=by
  unfold K5;cases s with
  |none=>rw [if_pos rfl];rfl
  |some m=>rw [if_neg (by simp)];rfl
 rw [hJ];unfold K6;have h0:=holds_0 h x;by_cases hx:l.contains x=true
 .rw [if_neg (by rw [h0,hx];simp),if_pos hx];exact ⟨_,rfl,h⟩
 .have hx':l.contains x=false:=by simpa using hx
  rw [if_pos (by rw [h0];exact hx'),if_neg hx,p0 (by simp;omega)];exact ⟨_,rfl,holds_put h x⟩
theorem iE:∀(n:Nat) (c:PC) (B:LI) (bound:MI) (list:LI) (seen:Option MI),c.cnt<n->c.nice->cntm bound B->seenOK seen list->B.length+wK c<=1000000000->list.length+1+cnt c<=1000000000->
 ∃ r,z7 n c bound list seen=some r/\(cntm r.1 B/\r.2.1=free c B list/\seenOK r.2.2 r.2.1)
 |0,c,_,_,_,_,h,_,_,_,_,_=>by omega
 |n+1,c,B,bound,list,seen,h,hc,hb,hs,hB,hl=>by
  show ∃ r,lZ (z7 n) c bound list seen=some r/\_;have hc':=(W0 c).1 hc;have hw:=oR c;have hcc:=cnt_eq c;have h5:∀(l:LI) (s:Option MI) (m:MI),cntm m (B++c.params)->l=free c B list->seenOK s l->∃ r,itr (nZ c l s) LF (0,m)=some r/\(cntm r.1 B/\r.2.1=free c B list/\seenOK r.2.2 r.2.1):=fun l s m hm hl hs=>by
   refine ah0 (L:=nZ c l s) c.params.length (fun i m=>cntm m (B++c.params.drop i)) _ (by omega) (fun go i m hi hm hgo=>?_) (fun go m hm=>?_) (by simpa using hm)
   .show ∃ r,aZ c l s go i m=some r/\_;unfold aZ;have hq:=cntm_le hm c.params[i];rw [List.length_append,List.length_drop]at hq;rw [List.drop_eq_getElem_cons hi]at hm;rw [if_pos (by omega),w6 hi,g8,p0 (by omega),p0 (by omega)];exact hgo _ (cntm_dn hm)
   .show ∃ r,aZ c l s go _ m=some r/\_;unfold aZ;rw [List.drop_length,List.append_nil]at hm;rw [if_neg (by omega)];exact ⟨_,rfl,hm,hl,hs⟩
  have h4:∀(l:LI) (s:Option MI) (m:MI),cntm m (B++c.params)->frees c.kids (B++c.params) l=free c B list->l.length+cnts c.kids<=1000000000->seenOK s l->∃ r,itr (nY (z7 n) c) LF (0,m,l,s)=some r/\(cntm r.1 B/\r.2.1=free c B list/\seenOK r.2.2 r.2.1):=fun l s m hm hl hll hs=>by
   refine ah0 (L:=nY (z7 n) c) c.kids.length (fun i v=>cntm v.1 (B++c.params)/\frees (c.kids.drop i) (B++c.params) v.2.1=free c B list/\v.2.1.length+cnts (c.kids.drop i)<=1000000000/\seenOK v.2.2 v.2.1) _ (by omega) (fun go i v hi hv hgo=>?_) (fun go v hv=>?_) (by rw [List.drop_zero];exact⟨hm,hl,hll,hs⟩)
   .obtain ⟨m,l,s⟩:=v;obtain ⟨g1,g2,g3,g4⟩:=hv;show ∃ r,aY (z7 n) c go i m l s=some r/\_;unfold aY;rw [List.drop_eq_getElem_cons hi]at g2 g3;unfold frees at g2;unfold cnts at g3;simp only at g2 g3;obtain ⟨r,e1,e2,e3,e4⟩:=iE n c.kids[i] (B++c.params) m l s (by have:=eR hi;omega) (cK hc (List.getElem_mem hi)) g1 g4 (by have:=uZ (List.getElem_mem hi);rw [List.length_append];omega) (by omega);have hfl:=rX.1 c.kids[i] (B++c.params) l;rw [if_pos (by omega),w6 hi,g8,e1,g8,p0 (by omega)];refine hgo (r.1,r.2.1,r.2.2) ⟨e2,?_,?_,e4⟩
    .show frees _ _ r.2.1=_;rw [e3];exact g2
    .show r.2.1.length+_<=_;rw [e3];omega
   .obtain ⟨m,l,s⟩:=v;obtain ⟨g1,g2,g3,g4⟩:=hv;show ∃ r,aY (z7 n) c go _ m l s=some r/\_;unfold aY;rw [if_neg (by omega)];rw [List.drop_length]at g2;exact h5 l s m g1 g2 g4
  have h3:∀(l:LI) (s:Option MI),frees c.kids (B++c.params) l=free c B list->l.length+cnts c.kids<=1000000000->seenOK s l->∃ r,cR (z7 n) c bound l s=some r/\(cntm r.1 B/\r.2.1=free c B list/\seenOK r.2.2 r.2.1):=fun l s hl hll hs=>by
   unfold cR;refine ah0 (L:=tT (z7 n) c l s) c.params.length (fun i m=>cntm m (B++c.params.take i)) _ (by omega) (fun go i m hi hm hgo=>?_) (fun go m hm=>?_) (by simpa using hb)
   .show ∃ r,aX (z7 n) c l s go i m=some r/\_;unfold aX;have hq:=cntm_le hm c.params[i];rw [List.length_append,List.length_take]at hq;rw [if_pos (by omega),w6 hi,g8,p0 (by omega),p0 (by omega)];refine hgo _ ?_;have:=cntm_up hm c.params[i];rw [List.append_assoc]at this;rw [List.take_add_one,List.getElem?_eq_getElem hi];exact this
   .show ∃ r,aX (z7 n) c l s go _ m=some r/\_;unfold aX;rw [if_neg (by omega)];rw [List.take_length]at hm;exact h4 l s m hm hl hll hs
  have hJ:∀ x,(x=(named c&&!B.contains c.number))->∃ r,aW (z7 n) c bound list seen x=some r/\(cntm r.1 B/\r.2.1=free c B list/\seenOK r.2.2 r.2.1):=fun x hx=>by
   unfold aW;have hfe:=gZ c B list;unfold freeOne at hfe;cases hxx:x
   .rw [if_neg (by simp)];refine h3 list seen ?_ (by omega) hs;rw [hfe,if_neg];rw [<- Bool.and_assoc,<- hx,hxx];simp
   .rw [if_pos rfl];obtain ⟨s2,e1,e2⟩:=O3 hs (by omega) c.number;rw [e1,g8];refine h3 _ s2 ?_ ?_ e2
    .rw [hfe,<- Bool.and_assoc,<- hx,hxx,Bool.true_and];cases list.contains c.number<;>rfl
    .show List.length (if list.contains c.number=true then list else list++[c.number])+_<=_;split
     .omega
     .rw [List.length_append];simp;omega
  unfold lZ;have h0:=cntm_0 hb c.number;unfold named at hJ;by_cases k2:c.kind=2
  .rw [if_pos k2];exact hJ _ (by rw [h0];simp [k2])
  .rw [if_neg k2];by_cases k4:c.kind=4
   .rw [if_pos k4];exact hJ _ (by rw [h0];simp [k4])
   .rw [if_neg k4];exact hJ _ (by simp [k2,k4])
theorem dS (c:PC)(hc:c.nice)(hb:wK c<=40000000):J9 c=some (free c [] []):=by
 unfold J9;have hcw:=sY.1 c;obtain ⟨r,e1,e2,e3,e4⟩:=iE RF c [] [] [] none (RF_cntK (by omega)) hc cntm_nil af5 (by simp;omega) (by simp;omega);rw [e1,g8,e3]
theorem yD (c:PC)(h:wK c<=1048576):(free c [] []).length<=1048577:=by
 have h1:=rX.1 c [] [];have h2:=sY.1 c;simp at h1;omega
theorem zY (c:PC)(hc:c.nice)(hcc:c.cnt<=1048576):mX c=some (decide (0<=few c 3000)):=by
 unfold mX;rw [s_l5Few_eq RF c 3000 (RF_cntK (by omega)) hc (by omega) (by omega),g8]
end Go.Abs

namespace Go.Abs
open PC
theorem wfK_len {c:PC}(h:c.wf):c.params.length<=9223372036854775807/\c.datum.wf/\c.kids.length<=9223372036854775807/\∀ x∈c.kids,x.wf:=by
 have:=(PC.wf_eq c).1 h;exact ⟨this.2.2.1.1,this.2.2.2.1,this.2.2.2.2.1,fun x hx=>PC.wfs_mem this.2.2.2.2.2 hx⟩
theorem szIntS_eq (l:LI)(h:l.length<=9223372036854775807)(left:Int)(h0:0<=left)(h1:left<=1048576):sU l left=some (szw l.length left):=by
 unfold sU;rw [p0 (by omega)];unfold szw;split<;>rfl
theorem w_szK_eq:∀ n:Nat,(∀ c:PC,c.wf->∀ left:Int,0<=left->left<=1048576->2 * left+2<=n->F4 n c left=some (szw (wK c) left))/\(∀ ds:List PC,ds.length<=9223372036854775807->(∀ x∈ds,x.wf)->∀ left:Int,0<=left->left<=1048576->2 * left+1<=n->L6 n ds left=some (szw (wKs ds) left))
 |0=>⟨fun d _ left h1 _ h2=>by omega,fun ds _ _ left h1 _ h2=>by omega⟩
 |n+1=>by
  have ih:=w_szK_eq n;refine ⟨fun c hw left h0 h1 h=>?_,fun ds hl hw left h0 h1 h=>?_⟩
  .show nI (F4 n) (L6 n) c left=_;unfold nI;have hw':=wfK_len hw;rw [szIntS_eq _ hw'.1 _ h0 h1,g8,oR,<- uX,<- uX];by_cases hx:szw c.params.length left<0
   .rw [if_pos hx,rE hx];have e:szw (wD c.datum) (-1)= -1:=by unfold szw;rw [if_pos (by omega)]
    rw [e];have e:szw (wKs c.kids) (-1)= -1:=by unfold szw;rw [if_pos (by omega)]
    rw [e]
   .have hp:=ax9 hx;rw [if_neg hx,(w_sz_eq RF).1 c.datum hw'.2.1 _ (by omega) (by omega) (by rw [RF_eq];omega),g8];by_cases hy:szw (wD c.datum) (szw c.params.length left)<0
    .rw [if_pos hy,rE hy];have e:szw (wKs c.kids) (-1)= -1:=by unfold szw;rw [if_pos (by omega)]
     rw [e]
    .have hq:=ax9 hy;rw [if_neg hy,ih.2 c.kids hw'.2.2.1 hw'.2.2.2 _ (by omega) (by omega) (by omega),g8,szw_if]
  .show jT (F4 n) (L6 n) ds left=_;unfold jT;rw [wKs_eq];refine szS_eq (L:=rL (F4 n) ds) (E:=F4 n) wK ds left (fun x hx m hm hm2=>ih.1 x (hw x hx) m hm (by omega) ?_) (fun go left i=>rfl) ⟨h0,h1⟩ hl;have:0<ds.length:=List.length_pos_of_mem hx;omega
theorem w_toK_eq:∀ n:Nat,(∀ c:PC,2 * c.cnt+1<n->c.nice->D7 n c=some c)/\(∀ ds:List PC,2 * PC.cnts ds<n->ds.length<=1048576->nices ds->L7 n ds=some ds)
 |0=>⟨fun d h=>by omega,fun ds h=>by omega⟩
 |n+1=>by
  have ih:=w_toK_eq n;refine ⟨fun c h hs=>?_,fun ds h hl hw=>?_⟩
  .show nJ (D7 n) (L7 n) c=_;unfold nJ kT;have hc:=PC.cnt_eq c;have hc':=(W0 c).1 hs;rw [toS_eq' (L:=pL c.params) 0 c.params 8 (by omega) hc'.1 (fun go i out=>rfl),g8,toDatum_eq (dE hs),g8,ih.2 c.kids (by omega) hc'.2.2.1 hc'.2.2.2,g8];cases c;rfl
  .show jW (D7 n) (L7 n) ds=_;unfold jW;exact toS_eq (L:=rN (D7 n) ds) (T:=D7 n) _ ds 120 (by omega) hl (fun x hx=>ih.1 x (by have:=PC.cnts_mem hx;omega) (qI hw hx)) (fun go i out=>rfl)
theorem w_eqK_eq:∀ n:Nat,(∀ c:PC,2 * c.cnt+1<n->c.nice->E4 n c c=some true)/\(∀ ds:List PC,2 * PC.cnts ds<n->ds.length<=1048576->nices ds->L5 n ds ds=some true)
 |0=>⟨fun d h=>by omega,fun ds h=>by omega⟩
 |n+1=>by
  have ih:=w_eqK_eq n;refine ⟨fun c h hs=>?_,fun ds h hl hw=>?_⟩
  .show nC (E4 n) (L5 n) c c=_;unfold nC gP;have hc:=PC.cnt_eq c;have hc':=(W0 c).1 hs;rw [if_pos rfl,if_pos rfl,eqS_refl' (L:=oY c.params c.params) c.params hc'.1 (fun go i=>rfl),g8,if_pos rfl,ap1 (dE hs),g8,if_pos rfl,ih.2 c.kids (by omega) hc'.2.2.1 hc'.2.2.2,g8,if_pos rfl]
  .show jG (E4 n) (L5 n) ds ds=_;unfold jG;exact ac1 (L:=rG (E4 n) ds ds) (E:=E4 n) ds hl (fun x hx=>ih.1 x (by have:=PC.cnts_mem hx;omega) (qI hw hx)) (fun go i=>rfl)
theorem toCore_eq {c:PC}(h:c.nice)(hc:c.cnt<=1000000000000):D7 RF c=some c:=(w_toK_eq RF).1 c (by rw [RF_eq];omega) h
theorem eqCore_eq {c:PC}(h:c.nice)(hc:c.cnt<=1000000000000):E4 RF c c=some true:=(w_eqK_eq RF).1 c (by rw [RF_eq];omega) h
def mAll {α:Type}(M:Int->α->Int×α):Int->List α->Int×List α
 |k,[]=>(k,[])
 |k,x::r=>((mAll M (M k x).1 r).1,(M k x).2::(mAll M (M k x).1 r).2)
theorem J7 {α:Type}(M:Int->α->Int×α):∀(xs:List α) (k:Int),(mAll M k xs).2.length=xs.length
 | [],_=>rfl
 |x::r,k=>by simp [mAll,J7 M r]
theorem wts_nil {α:Type}(wt:α->Nat):wts wt ([]:List α)=0:=rfl
theorem oB {α:Type}{M:Int->α->Int×α}{wt:α->Nat}(hM:∀ k x,k<=(M k x).1/\(M k x).1<=k+6 * ((1+wt x:Nat):Int)):∀(xs:List α) (k:Int),k<=(mAll M k xs).1/\(mAll M k xs).1<=k+6 * ((wts wt xs:Nat):Int)
 | [],k=>by rw [wts_nil];exact⟨Int.le_refl _,by show k<=_;omega⟩
 |x::r,k=>by
  have h1:=hM k x;have h2:=oB hM r (M k x).1;rw [eM];unfold mAll;dsimp only;omega
theorem set_take {α:Type}{a:List α}{i:Nat}{y:α}(h:i<a.length):(a.set i y).take (i+1)=a.take i++[y]/\(a.set i y).drop (i+1)=a.drop (i+1):=by
 rw [List.set_eq_take_append_cons_drop,if_pos h];have e:(a.take i).length=i:=by rw [List.length_take];omega
 constructor
 .rw [List.take_append,e,List.take_of_length_le (by omega)];simp
 .rw [List.drop_append,e,List.drop_of_length_le (by omega)];simp
theorem mB {α:Type}{M:Int->α->Int×α}(wt:α->Nat)(S:α->Prop)(B:Int){L:(Int×Int×List α->Option (Int×List α))->Int×Int×List α->Option (Int×List α)}
 (hM:∀ k x,k<=(M k x).1/\(M k x).1<=k+6 * ((1+wt x:Nat):Int))
 (step:∀ go (i:Nat) k (a:List α) (hi:i<a.length),a.length<=130000000000->S a[i]->0<=k->k+6 * ((1+wt a[i]:Nat):Int)<=B->L go (k,(i:Int),a)=go ((M k a[i]).1,(i:Int)+1,a.set i (M k a[i]).2))
 (fin:∀ go k (a:List α),L go (k,(a.length:Int),a)=some (k,a))
 (xs:List α) (hS:∀ x∈xs,S x) (hn:xs.length<=130000000000) (k:Int) (h0:0<=k) (hB:k+6 * ((wts wt xs:Nat):Int)<=B):itr L LF (k,0,xs)=some (mAll M k xs):=by
 refine(wN (L:=L) (fun v=>some ((mAll M v.1 (v.2.2.drop v.2.1.toNat)).1,v.2.2.take v.2.1.toNat++(mAll M v.1 (v.2.2.drop v.2.1.toNat)).2)) (fun v=>(0<=v.2.1/\v.2.1<=v.2.2.length)/\v.2.2.length<=130000000000/\(∀ x∈v.2.2.drop v.2.1.toNat,S x)/\0<=v.1/\v.1+6 * ((wts wt (v.2.2.drop v.2.1.toNat):Nat):Int)<=B) (fun v=>v.2.2.length-v.2.1.toNat) (fun go v hv hgo=>?_) (k,0,xs) ⟨⟨Int.le_refl _,by show(0:Int)<=(xs.length:Int);omega⟩,hn,by simpa using hS,h0,by simpa using hB⟩ (by show xs.length-0<_;omega)).trans (by simp);obtain ⟨k,j,a⟩:=v;obtain ⟨⟨h1,h2⟩,h3,h4,h5,h6⟩:=hv;simp only at h1 h2 h3 h4 h5 h6;obtain ⟨i,rfl⟩:=Int.eq_ofNat_of_zero_le h1;simp only [Int.ofNat_eq_natCast,Int.toNat_natCast]at *;by_cases hi:i<a.length
 .rw [List.drop_eq_getElem_cons hi]at h4 h6 |-;rw [eM]at h6;have hm:=hM k a[i];have hst:=set_take (y:=(M k a[i]).2) hi;rw [step go i k a hi h3 (h4 _ List.mem_cons_self) h5 (by omega)];refine (hgo ((M k a[i]).1,(i:Int)+1,a.set i (M k a[i]).2) ⟨⟨by show(0:Int)<=(i:Int)+1;omega,by show(i:Int)+1<=((a.set i _).length:Int);rw [List.length_set];omega⟩,by show(a.set i _).length<=_;rw [List.length_set];omega,?_,by show 0<=(M k a[i]).1;omega,?_⟩ (by show(a.set i _).length-((i:Int)+1).toNat<_;rw [List.length_set];omega)).trans ?_
  .show ∀ x∈(a.set i _).drop ((i:Int)+1).toNat,S x;rw [show ((i:Int)+1).toNat=i+1 by omega,hst.2];exact fun x hx=>h4 x (List.mem_cons_of_mem _ hx)
  .show (M k a[i]).1+6 * ((wts wt ((a.set i _).drop ((i:Int)+1).toNat):Nat):Int)<=B;rw [show ((i:Int)+1).toNat=i+1 by omega,hst.2];omega
  .show some ((mAll M (M k a[i]).1 ((a.set i _).drop ((i:Int)+1).toNat)).1,(a.set i _).take ((i:Int)+1).toNat++(mAll M (M k a[i]).1 ((a.set i _).drop ((i:Int)+1).toNat)).2)=_;rw [show ((i:Int)+1).toNat=i+1 by omega,hst.2,hst.1,List.append_assoc];rfl
 .have:i=a.length:=by omega
  subst this;rw [fin,List.drop_length,List.take_length];simp [mAll]
theorem sA {α:Type}{M:Int->α->Int×α}(wt:α->Nat)(S:α->Prop)(B:Int)(a:List α){L:(Int×Int->Option Int)->Int×Int->Option Int}
 (hM:∀ k x,k<=(M k x).1/\(M k x).1<=k+6 * ((1+wt x:Nat):Int))
 (step:∀ go (i:Nat) k (hi:i<a.length) x,a[i]=(M k x).2->S x->0<=k->k+6 * ((1+wt x:Nat):Int)<=B->L go (k,(i:Int))=go ((M k x).1,(i:Int)+1))
 (fin:∀ go k,L go (k,(a.length:Int))=some k)
 (xs:List α) (hS:∀ x∈xs,S x) (hn:xs.length<=130000000000) (k:Int) (h0:0<=k) (hB:k+6 * ((wts wt xs:Nat):Int)<=B) (ha:a=(mAll M k xs).2):itr L LF (k,0)=some (mAll M k xs).1:=by
 have hal:a.length=xs.length:=by rw [ha,J7]
 refine wN (L:=L) (fun _=>some (mAll M k xs).1) (fun v=>(0<=v.2/\v.2<=a.length)/\∃ ys,a.drop v.2.toNat=(mAll M v.1 ys).2/\(mAll M v.1 ys).1=(mAll M k xs).1/\(∀ x∈ys,S x)/\0<=v.1/\v.1+6 * ((wts wt ys:Nat):Int)<=B) (fun v=>a.length-v.2.toNat) (fun go v hv hgo=>?_) (k,0) ⟨⟨Int.le_refl _,by show(0:Int)<=(a.length:Int);omega⟩,xs,by simpa using ha,rfl,hS,h0,hB⟩ (by show a.length-0<_;omega);obtain ⟨k1,j⟩:=v;obtain ⟨⟨h1,h2⟩,ys,g1,g2,g3,g4,g5⟩:=hv;simp only at h1 h2 g1 g2 g3 g4 g5;obtain ⟨i,rfl⟩:=Int.eq_ofNat_of_zero_le h1;simp only [Int.ofNat_eq_natCast,Int.toNat_natCast]at *;by_cases hi:i<a.length
 .rw [List.drop_eq_getElem_cons hi]at g1;cases ys with
  |nil=>simp [mAll]at g1;omega
  |cons y r=>
   have g2:(mAll M (M k1 y).1 r).1=(mAll M k xs).1:=g2;have g1:a[i]::a.drop (i+1)=(M k1 y).2::(mAll M (M k1 y).1 r).2:=g1;simp only [List.cons.injEq]at g1;rw [eM]at g5;have hm:=hM k1 y;rw [step go i k1 hi y g1.1 (g3 y (by simp)) g4 (by omega)];exact hgo ((M k1 y).1,(i:Int)+1) ⟨⟨by show(0:Int)<=(i:Int)+1;omega,by show(i:Int)+1<=_;omega⟩,r,by show a.drop ((i:Int)+1).toNat=_;rw [show ((i:Int)+1).toNat=i+1 by omega];exact g1.2,g2,fun x hx=>g3 x (by simp [hx]),by show 0<=(M k1 y).1;omega,by show(M k1 y).1+_<=_;omega⟩ (by show a.length-((i:Int)+1).toNat<a.length-i;omega)
 .have:i=a.length:=by omega
  subst this;rw [fin];rw [List.drop_length]at g1;cases ys with
  |nil=>rw [<- g2];rfl
  |cons y r=>simp [mAll]at g1
def mI (k:Int)(_:Int):Int×Int:=(k+1,k)
theorem mI_le (k x:Int):k<=(mI k x).1/\(mI k x).1<=k+6 * ((1+0:Nat):Int):=by unfold mI;dsimp only;omega
theorem wts_0 {α:Type}(xs:List α):wts (fun _=>0) xs=xs.length:=by
 induction xs with
 |nil=>rfl
 |cons x r ih=>rw [eM,ih];simp;omega
theorem iP (xs:LI)(k:Int)(hn:xs.length<=130000000000)(h0:0<=k)(h1:k+6 * (xs.length:Int)<=1000000000000):aL xs k=some (mAll mI k xs):=by
 unfold aL;refine mB (L:=pD) (fun _=>0) (fun _=>True) 1000000000000 (fun k x=>mI_le k x) (fun go i k a hi ha _ h0 h1=>?_) (fun go k a=>?_) xs (fun _ _=>trivial) hn k h0 (by rw [wts_0];exact h1)
 .show X0 go k i a=_;unfold X0;rw [if_pos (by omega),w6 hi,g8,p0 (by omega),p0 (by omega),Int.toNat_natCast];rfl
 .show X0 go k _ a=_;unfold X0;rw [if_neg (by omega)]
theorem heldIntS_eq (xs:LI)(k:Int)(hn:xs.length<=130000000000)(h0:0<=k)(h1:k+6 * (xs.length:Int)<=1000000000000):bV (mAll mI k xs).2 k=some (mAll mI k xs).1:=by
 unfold bV;have hal:(mAll mI k xs).2.length=xs.length:=J7 _ _ _;refine sA (L:=pB (mAll mI k xs).2) (fun _=>0) (fun _=>True) 1000000000000 (mAll mI k xs).2 (fun k x=>mI_le k x) (fun go i k1 hi x hx _ h0 h1=>?_) (fun go k1=>?_) xs (fun _ _=>trivial) hn k h0 (by rw [wts_0];exact h1) rfl
 .show W9 _ go k1 i=_;unfold W9;rw [if_pos (by omega),w6 hi,g8,hx,if_pos (show (mI k1 x).2=k1 from rfl),p0 (by omega),p0 (by omega)];rfl
 .show W9 _ go k1 _=_;unfold W9;rw [if_neg (by omega)]
def mtx (k:Int):LB:=(X6 k).getD []
theorem iQ {k:Int}(h:k<=4611686018427387904):X6 k=some (mtx k):=by
 obtain⟨t,ht⟩:=au3 k h;unfold mtx;rw [ht];rfl
mutual
def mD:Int->PD->Int×PD
 |k,.mk _ _ _ is=>((mDs (k+1+1+1) is).1,.mk k (k+1) (mtx (k+1+1)) (mDs (k+1+1+1) is).2)
def mDs:Int->List PD->Int×List PD
 |k,[]=>(k,[])
 |k,d::r=>((mDs (mD k d).1 r).1,(mD k d).2::(mDs (mD k d).1 r).2)
end
theorem mDs_eq:∀(ds:List PD) (k:Int),mDs k ds=mAll mD k ds
 | [],_=>by unfold mDs mAll;rfl
 |d::r,k=>by unfold mDs mAll;rw [mDs_eq r]
theorem mD_eq (k:Int)(d:PD):mD k d=((mAll mD (k+1+1+1) d.items).1,.mk k (k+1) (mtx (k+1+1)) (mAll mD (k+1+1+1) d.items).2):=by
 cases d;unfold mD;rw [mDs_eq];rfl
theorem mD_le:(∀ d:PD,∀ k,k<=(mD k d).1/\(mD k d).1<=k+6 * ((1+wD d:Nat):Int))/\∀ ds:List PD,∀ k,k<=(mAll mD k ds).1/\(mAll mD k ds).1<=k+6 * ((wDs ds:Nat):Int):=by
 refine PD.ind (fun ds h k=>?_) (fun d h k=>?_)
 .induction ds generalizing k with
  |nil=>exact⟨Int.le_refl _,by show k<=_;omega⟩
  |cons x r ih=>
   have h1:=h x (by simp) k;have h2:=ih (fun y hy=>h y (by simp [hy])) (mD k x).1;unfold wDs mAll;dsimp only;omega
 .have h1:=h (k+1+1+1);have h2:=zB d;rw [mD_eq];dsimp only;omega
theorem gN:∀(n:Nat) (ds:List PD) (k:Int),PD.cnts ds<n->wDs ds<=130000000000->0<=k->k+6 * ((wDs ds:Nat):Int)<=1000000000000->y9 n ds k=some (mAll mD k ds)
 |0,ds,k,h,_,_,_=>by omega
 |n+1,ds,k,h,hc,h0,h1=>by
  show cD (y9 n) ds k=_;unfold cD;have hl:=PD.cnts_len ds;have hw:=ae1.2 ds;refine mB (L:=jP (y9 n)) wD (fun x=>wD x<=130000000000/\x.cnt<n) 1000000000000 (fun k x=>mD_le.1 x k) (fun go i k1 a hi ha hx hk hB=>?_) (fun go k1 a=>?_) ds (fun x hx=>⟨by have:=wDs_mem hx;omega,by have:=PD.cnts_mem hx;omega⟩) (by omega) k h0 (by rw [<- wDs_eq];exact h1)
  .show P6 (y9 n) go k1 (i:Int) a=_;unfold P6;have hwi:=zB a[i];have hci:=PD.cnt_eq a[i];simp only [Int.toNat_natCast,List.set_set];rw [if_pos (by omega),w6 hi,g8,p0 (by omega),aM hi,g8,p0 (by omega),iQ (by omega),g8,aM hi,g8,p0 (by omega),aM hi,g8];try simp only [wS,ah2,qG,ah3]
   rw [gN n a[i].items (k1+1+1+1) (by omega) (by omega) (by omega) (by omega),g8];refine (p0 (J7 mD a[i].items _)).trans ((p0 (by omega)).trans ?_);rw [mD_eq]
  .show P6 (y9 n) go k1 _ a=_;unfold P6;rw [if_neg (by omega)]
theorem vS:∀(n:Nat) (ds:List PD) (k:Int),PD.cnts ds<n->wDs ds<=130000000000->0<=k->k+6 * ((wDs ds:Nat):Int)<=1000000000000->A7 n (mAll mD k ds).2 k=some (mAll mD k ds).1
 |0,ds,k,h,_,_,_=>by omega
 |n+1,ds,k,h,hc,h0,h1=>by
  show cC (A7 n) (mAll mD k ds).2 k=_;unfold cC;have hl:=PD.cnts_len ds;have hw:=ae1.2 ds;have hal:(mAll mD k ds).2.length=ds.length:=J7 _ _ _;refine sA (L:=jL (A7 n) (mAll mD k ds).2) wD (fun x=>wD x<=130000000000/\x.cnt<n) 1000000000000 (mAll mD k ds).2 (fun k x=>mD_le.1 x k) (fun go i k1 hi x hx hS hk hB=>?_) (fun go k1=>?_) ds (fun x hx=>⟨by have:=wDs_mem hx;omega,by have:=PD.cnts_mem hx;omega⟩) (by omega) k h0 (by rw [<- wDs_eq];exact h1) rfl
  .show P4 (A7 n) (mAll mD k ds).2 go k1 (i:Int)=_;unfold P4;have hwi:=zB x;have hci:=PD.cnt_eq x;have hle:=mD_le.2 x.items (k1+1+1+1);rw [mD_eq]at hx;rw [if_pos (by omega),w6 hi,hx];simp only [g8,wS,ah2,qG,ah3];rw [if_pos trivial,p0 (by omega),if_pos trivial,p0 (by omega),iQ (by omega),g8];refine (if_pos rfl).trans ?_;rw [p0 (by omega),vS n x.items (k1+1+1+1) (by omega) (by omega) (by omega) (by omega),g8,if_neg (by omega),p0 (by omega),mD_eq]
  .show P4 (A7 n) (mAll mD k ds).2 go k1 _=_;unfold P4;rw [if_neg (by omega)]
mutual
def mK:Int->PC->Int×PC
 |k,.mk _ _ p d ks=>((mKs (mAll mD ((mAll mI (k+1+1) p).1+1+1+1) d.items).1 ks).1,.mk k (k+1) (mAll mI (k+1+1) p).2 (.mk (mAll mI (k+1+1) p).1 ((mAll mI (k+1+1) p).1+1) (mtx ((mAll mI (k+1+1) p).1+1+1)) (mAll mD ((mAll mI (k+1+1) p).1+1+1+1) d.items).2) (mKs (mAll mD ((mAll mI (k+1+1) p).1+1+1+1) d.items).1 ks).2)
def mKs:Int->List PC->Int×List PC
 |k,[]=>(k,[])
 |k,d::r=>((mKs (mK k d).1 r).1,(mK k d).2::(mKs (mK k d).1 r).2)
end
theorem mKs_eq:∀(ds:List PC) (k:Int),mKs k ds=mAll mK k ds
 | [],_=>by unfold mKs mAll;rfl
 |d::r,k=>by unfold mKs mAll;rw [mKs_eq r]
def mP (k:Int)(c:PC):=mAll mI k c.params
def mQ (k:Int)(c:PC):=mAll mD k c.datum.items
theorem mK_eq (k:Int)(c:PC):mK k c=((mAll mK (mQ ((mP (k+1+1) c).1+1+1+1) c).1 c.kids).1,.mk k (k+1) (mP (k+1+1) c).2 (.mk (mP (k+1+1) c).1 ((mP (k+1+1) c).1+1) (mtx ((mP (k+1+1) c).1+1+1)) (mQ ((mP (k+1+1) c).1+1+1+1) c).2) (mAll mK (mQ ((mP (k+1+1) c).1+1+1+1) c).1 c.kids).2):=by
 cases c;unfold mK;rw [mKs_eq];rfl
theorem mP_le (k:Int)(c:PC):k<=(mP k c).1/\(mP k c).1<=k+6 * (c.params.length:Int):=by
 have:=oB (wt:=fun _=>0) (fun k x=>mI_le k x) c.params k;rw [wts_0]at this;exact this
theorem mQ_le (k:Int)(c:PC):k<=(mQ k c).1/\(mQ k c).1<=k+6 * (wD c.datum:Int):=by
 have h1:=mD_le.2 c.datum.items k;have h2:=zB c.datum;exact ⟨h1.1,by show(mAll mD k c.datum.items).1<=_;omega⟩
theorem mK_le:(∀ d:PC,∀ k,k<=(mK k d).1/\(mK k d).1<=k+6 * ((1+wK d:Nat):Int))/\∀ ds:List PC,∀ k,k<=(mAll mK k ds).1/\(mAll mK k ds).1<=k+6 * ((wKs ds:Nat):Int):=by
 refine PC.ind (fun ds h k=>?_) (fun d h k=>?_)
 .induction ds generalizing k with
  |nil=>exact⟨Int.le_refl _,by show k<=_;omega⟩
  |cons x r ih=>
   have h1:=h x (by simp) k;have h2:=ih (fun y hy=>h y (by simp [hy])) (mK k x).1;unfold wKs mAll;dsimp only;omega
 .have h1:=mP_le (k+1+1) d;have h2:=mQ_le ((mP (k+1+1) d).1+1+1+1) d;have h3:=h (mQ ((mP (k+1+1) d).1+1+1+1) d).1;have h4:=oR d;rw [mK_eq];dsimp only;omega
theorem zO:∀(n:Nat) (ds:List PC) (k:Int),PC.cnts ds<n->nices ds->ds.length<=130000000000->0<=k->k+6 * ((wKs ds:Nat):Int)<=1000000000000->C5 n ds k=some (mAll mK k ds)
 |0,ds,k,h,_,_,_,_=>by omega
 |n+1,ds,k,h,hc,hl,h0,h1=>by
  show eF (C5 n) ds k=_;unfold eF;refine mB (L:=lM (C5 n)) wK (fun x=>x.nice/\x.cnt<n) 1000000000000 (fun k x=>mK_le.1 x k) (fun go i k1 a hi ha hx hk hB=>?_) (fun go k1 a=>?_) ds (fun x hx=>⟨qI hc hx,by have:=PC.cnts_mem hx;omega⟩) hl k h0 (by rw [<- wKs_eq];exact h1)
  .show T8 (C5 n) go k1 (i:Int) a=_;unfold T8;have hwi:=oR a[i];have hci:=PC.cnt_eq a[i];have hn:=(W0 a[i]).1 hx.1;have hwd:=zB a[i].datum;have hp:=mP_le (k1+1+1) a[i];have hq:=mQ_le ((mP (k1+1+1) a[i]).1+1+1+1) a[i];have hcw:=ae1.2 a[i].datum.items;have e1:aL a[i].params (k1+1+1)=some (mP (k1+1+1) a[i]):=iP _ _ (Nat.le_trans hn.1 (by decide)) (by omega) (by omega);have e2:y9 RF a[i].datum.items ((mP (k1+1+1) a[i]).1+1+1+1)=some (mQ ((mP (k1+1+1) a[i]).1+1+1+1) a[i]):=gN RF _ _ (by rw [RF_eq];omega) (by omega) (by omega) (by omega);have e3:=zO n a[i].kids (mQ ((mP (k1+1+1) a[i]).1+1+1+1) a[i]).1 (by omega) hn.2.2.2 (Nat.le_trans hn.2.2.1 (by decide)) (by omega) (by omega);simp only [Int.toNat_natCast,List.set_set];rw [if_pos (by omega),w6 hi,g8,p0 (by omega),aM hi,g8,p0 (by omega),aM hi,g8];refine (congrArg (bnd · _) e1).trans ?_;rw [g8];refine (p0 (J7 mI a[i].params _)).trans ?_;rw [aM hi,g8,p0 (by omega),aM hi,g8,p0 (by omega),iQ (by omega),g8,aM hi,g8,p0 (by omega),aM hi,g8];refine (congrArg (bnd · _) e2).trans ?_;rw [g8];refine (p0 (J7 mD a[i].datum.items _)).trans ?_;rw [aM hi,g8];refine (congrArg (bnd · _) e3).trans ?_;rw [g8];refine (p0 (J7 mK a[i].kids _)).trans ((p0 (by omega)).trans ?_);rw [mK_eq];rfl
  .show T8 (C5 n) go k1 _ a=_;unfold T8;rw [if_neg (by omega)]
theorem markDatum_eq (d:PD)(k:Int)(h:wD d<=130000000000)(h0:0<=k)(h1:k+6 * (wD d:Int)<=1000000000000):jO d k=some (mAll mD k d.items):=by
 unfold jO;have hwd:=zB d;have hcw:=ae1.2 d.items;rw [gN RF _ _ (by rw [RF_eq];omega) (by omega) h0 (by omega),g8];exact p0 (J7 mD d.items _)
def mR (k:Int)(c:PC):=mAll mK k c.kids
theorem mR_le (k:Int)(c:PC):k<=(mR k c).1/\(mR k c).1<=k+6 * (wKs c.kids:Int):=mK_le.2 c.kids k
def endK (k:Int)(c:PC):Int:=(mR (mQ (mP k c).1 c).1 c).1
theorem endK_le (k:Int)(c:PC):k<=endK k c/\endK k c<=k+6 * (wK c:Int):=by
 have h1:=mP_le k c;have h2:=mQ_le (mP k c).1 c;have h3:=mR_le (mQ (mP k c).1 c).1 c;have h4:=oR c;unfold endK;omega
theorem markCore_eq (c:PC)(k:Int)(hc:c.nice)(hcc:c.cnt<=1000000000000)(h0:0<=k)(h1:k+6 * (wK c:Int)<=1000000000000):nE c k=some (endK k c,(mP k c).2,(mQ (mP k c).1 c).2,(mR (mQ (mP k c).1 c).1 c).2):=by
 unfold nE;have hn:=(W0 c).1 hc;have hp:=mP_le k c;have hq:=mQ_le (mP k c).1 c;have hr:=mR_le (mQ (mP k c).1 c).1 c;have hw:=oR c;have hci:=PC.cnt_eq c;refine (congrArg (bnd · _) (iP _ _ (Nat.le_trans hn.1 (by decide)) h0 (by omega))).trans ?_;rw [g8];refine (p0 (J7 mI c.params _)).trans ?_;refine (congrArg (bnd · _) (markDatum_eq c.datum (mP k c).1 (Nat.le_trans hn.2.1 (by decide)) (by omega) (by omega))).trans ?_;rw [g8];refine (p0 (J7 mD c.datum.items _)).trans ?_;refine (congrArg (bnd · _) (zO RF c.kids (mQ (mP k c).1 c).1 (by rw [RF_eq];omega) hn.2.2.2 (Nat.le_trans hn.2.2.1 (by decide)) (by omega) (by omega))).trans ?_;rw [g8];exact p0 (J7 mK c.kids _)
theorem mP_len (k:Int)(c:PC):(mP k c).2.length=c.params.length:=J7 _ _ _
theorem mQ_len (k:Int)(c:PC):(mQ k c).2.length=c.datum.items.length:=J7 _ _ _
theorem mR_len (k:Int)(c:PC):(mR k c).2.length=c.kids.length:=J7 _ _ _
end Go.Abs

namespace Go.Abs
open PC
theorem ah7:∀{ks:List PC} {x:PC},okAlls ks=true->x∈ks->okAll x=true
 |d::r,x,h,hx=>by
  unfold okAlls at h;rw [Bool.and_eq_true]at h;rcases List.mem_cons.1 hx with rfl|hx
  .exact h.1
  .exact ah7 h.2 hx
theorem ax6 {c:PC}(h:okAll c=true):shapeOK c=true:=by
 rw [okAll_eq]at h;simp only [Bool.and_eq_true]at h;exact h.1.1
end Go.Abs

namespace Go.Abs
open PC
theorem aj5:∀(n:Nat) (d:PD),d.cnt<n->d.small->M6 n d=some d
 |0,d,h,_=>by omega
 |n+1,d,h,hd=>by
  show mU (M6 n) d=_;unfold mU;have hs:=fY hd;rw [map_loop (L:=uM (M6 n) d) id (fun o=>some (PD.mk d.kind d.number d.text o)) d.items hs (fun go i o hi ho=>?_) (fun go o=>?_)]
  .rw [List.map_id];cases d;rfl
  .show bG (M6 n) d go i o=_;unfold bG;rw [if_pos (by omega),w6 hi,g8,aj5 n _ (by have:=(O4 hd hi).2;omega) (O4 hd hi).1,g8,p0 (by simp;omega),p0 (by omega)];rfl
  .show bG (M6 n) d go _ o=_;unfold bG;rw [if_neg (by omega)]
theorem tA:∀(n:Nat),(∀ d:PD,2 * d.cnt+1<n->d.small->w8 n d=some d)/\(∀ ds:List PD,2 * PD.cnts ds<n->ds.length<=1048576->(∀ x∈ds,x.small)->F8 n ds=some ds)
 |0=>⟨fun d h=>by omega,fun ds h=>by omega⟩
 |n+1=>by
  have ih:=tA n;refine ⟨fun d h hs=>?_,fun ds h hl hw=>?_⟩
  .show dV (w8 n) (F8 n) d=_;unfold dV;have hc:=PD.cnt_eq d;rw [ih.2 d.items (by omega) (fY hs) (fun x hx=>PD.small_item hs hx),g8];cases d;rfl
  .show fN (w8 n) (F8 n) ds=_;unfold fN;rw [map_loop (L:=nV (w8 n) ds) id some ds hl (fun go i o hi ho=>?_) (fun go o=>?_)]
   .rw [List.map_id]
   .show V4 (w8 n) ds go i o=_;unfold V4;rw [if_pos (by omega),w6 hi,g8,ih.1 _ (by have:=PD.cnts_mem (List.getElem_mem hi);omega) (hw _ (List.getElem_mem hi)),g8,p0 (by simp;omega),p0 (by omega)];rfl
   .show V4 (w8 n) ds go _ o=_;unfold V4;rw [if_neg (by omega)]
end Go.Abs

namespace Go.Abs
open PC
theorem nR (l:LI)(x:Int)(h:l.length<=1000000000000):lU l x=some (l.contains x):=aq3 l x h fun go i=>rfl
end Go.Abs

namespace Go.Abs
open PC
theorem nodeOK_text {k n m:Int}{t:LB}(h:PD.nodeOK k n t m=true):t.length<=20:=by
 unfold PD.nodeOK at h;by_cases k0:k=0
 .rw [if_pos k0]at h;simp only [Bool.and_eq_true,decide_eq_true_eq]at h;rw [h.2];simp
 .rw [if_neg k0]at h;by_cases k1:k=1
  .rw [if_pos k1]at h;simp only [Bool.and_eq_true,decide_eq_true_eq]at h;have h2:=h.2.2;unfold isSymbol headBad at h2;simp only [Bool.and_eq_true,Bool.not_eq_true',Bool.or_eq_false_iff,decide_eq_false_iff_not]at h2;have:=h2.1.1.1.2;omega
  .rw [if_neg k1]at h;by_cases k2:k=2
   .rw [if_pos k2]at h;simp only [Bool.and_eq_true,decide_eq_true_eq]at h;rw [h.2.1];simp
   .rw [if_neg k2]at h;by_cases k3:k=3
    .rw [if_pos k3]at h;simp only [Bool.and_eq_true,decide_eq_true_eq]at h;rw [h.2.1];simp
    .rw [if_neg k3]at h;by_cases k4:k=4
     .rw [if_pos k4]at h;unfold isText at h;simp only [Bool.and_eq_true,decide_eq_true_eq]at h;have:=h.2.2.1;omega
     .rw [if_neg k4]at h;cases h
theorem dat_w:(∀ d:PD,d.okAll=true->wD d<=20+21 * d.cnt)/\∀ ds:List PD,PD.okAlls ds=true->wDs ds<=21 * PD.cnts ds:=by
 refine PD.ind (fun ds h ho=>?_) (fun d h ho=>?_)
 .induction ds with
  |nil=>simp [wDs]
  |cons x r ih=>
   unfold PD.okAlls at ho;rw [Bool.and_eq_true]at ho;have h1:=h x (by simp) ho.1;have h2:=ih (fun y hy=>h y (by simp [hy])) ho.2;unfold wDs PD.cnts;omega
 .rw [PD.okAll_eq,Bool.and_eq_true]at ho;have h1:=nodeOK_text ho.1;have h2:=h ho.2;rw [zB,PD.cnt_eq];omega
theorem valid_w {d:PD}(h:d.valid=true):wD d<=12600:=by
 unfold PD.valid at h;simp only [Bool.and_eq_true,decide_eq_true_eq]at h;have:=dat_w.1 d h.2.2;omega
theorem eqb_zero {d:PD}(h:PD.eqb d zeroDat=true):wD d=0:=by
 obtain⟨k,n,t,is⟩:=d;unfold zeroDat PD.eqb at h;simp only [Bool.and_eq_true,decide_eq_true_eq]at h;obtain ⟨_,_,h3,h4⟩:=h;cases is with
 |nil=>subst h3;rfl
 |cons x r=>unfold PD.eqbs at h4;cases h4
theorem shape_dat {c:PC}(h:shapeOK c=true)(k:¬ c.kind=1):wD c.datum=0:=by
 unfold shapeOK at h;rw [Bool.and_eq_true]at h;have h1:=h.1;rw [decide_eq_false k,Bool.false_or]at h1;exact eqb_zero h1
theorem rC {c:PC}(h:shapeOK c=true):c.params.length<=60/\c.kids.length<=60/\wD c.datum<=12600:=by
 have hd:=shape_dat h;unfold shapeOK at h;rw [Bool.and_eq_true,Bool.and_eq_true]at h;obtain ⟨_,_,h3⟩:=h;unfold inside at h3;by_cases k1:c.kind=1
 .rw [if_pos k1]at h3;simp only [Bool.and_eq_true,decide_eq_true_eq]at h3;exact ⟨by omega,by omega,valid_w h3.2.2⟩
 .have hd:=hd k1;rw [if_neg k1]at h3;refine ⟨?_,?_,by omega⟩;all_goals
   repeat' split at h3
   all_goals first
    |(simp only [Bool.and_eq_true,decide_eq_true_eq]at h3;omega)
    |cases h3
theorem core_w:(∀ c:PC,okAll c=true->wK c<=12660+12661 * c.cnt)/\∀ ds:List PC,okAlls ds=true->wKs ds<=12661 * cnts ds:=by
 refine ind (fun ds h ho=>?_) (fun c h ho=>?_)
 .induction ds with
  |nil=>simp [wKs]
  |cons x r ih=>
   unfold okAlls at ho;rw [Bool.and_eq_true]at ho;have h1:=h x (by simp) ho.1;have h2:=ih (fun y hy=>h y (by simp [hy])) ho.2;unfold wKs cnts;omega
 .have h1:=rC (ax6 ho);rw [okAll_eq,Bool.and_eq_true]at ho;have h2:=h ho.2;rw [oR,cnt_eq];omega
theorem core_nice:(∀ c:PC,okAll c=true->c.nice)/\∀ ds:List PC,okAlls ds=true->nices ds:=by
 refine ind (fun ds h ho=>?_) (fun c h ho=>?_)
 .exact au5 fun x hx=>h x hx (ah7 ho hx)
 .have h1:=rC (ax6 ho);rw [okAll_eq,Bool.and_eq_true]at ho;exact (W0 c).2 ⟨by omega,by omega,by omega,h ho.2⟩
theorem ok_w {c:PC}(h:okAll c=true)(hc:c.cnt<=3000):wK c<=40000000:=by
 have:=core_w.1 c h;omega
end Go.Abs
