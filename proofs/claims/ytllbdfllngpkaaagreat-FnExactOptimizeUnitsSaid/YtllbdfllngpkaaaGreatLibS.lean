
import Derived.Test.YtllbdfllngpkaaaGreatLibP
import Derived.Test.YtllbdfllngpkaaaGreatLibF
import Derived.Test.YtllbdfllngpkaaaGreatLibE
import Derived.Test.YtllbdfllngpkaaaGreatLibD
set_option linter.unusedVariables false
set_option linter.unusedSimpArgs false
namespace Go.Abs
def symI (b:Int):Bool:=(decide (97≤b)&&decide (b≤122))||(decide (48≤b)&&decide (b≤57))||markOdd.contains b
theorem symI_b (b:UInt8):symI b.toNat=markB b:=rfl
theorem i_isDigit_eq (b:Int):kY b=some (decide (48≤b)&&decide (b≤57)):=by
 unfold kY;by_cases h:48≤b<;>simp [h]
theorem zL (b:Int):eT b=some (decide (48≤b)&&decide (b≤57)):=by
 unfold eT;by_cases h:48≤b<;>simp [h]
theorem wA (b:Int)(x:Bool):E8 b x=some (x||markOdd.contains b):=by
 unfold E8;cases x
 ·by_cases h:markOdd.contains b=true
  ·simp only [markOdd,List.contains_cons,Bool.or_eq_true,beq_iff_eq,List.contains_nil]at h;rcases h with h|h|h|h|h|h|h|h|h|h|h|h;all_goals first|(subst h;rfl)|cases h
  ·have h':markOdd.contains b=false:=by simpa using h
   simp only [markOdd,List.contains_cons,Bool.or_eq_true,beq_iff_eq,List.contains_nil,not_or]at h;rw [h'];simp [h]
 ·rfl
theorem ag5 (b:Int):eP b=some (symI b):=by
 unfold eP symI;simp only [wA];by_cases h1:97≤b<;>by_cases h2:b≤122<;>by_cases h3:48≤b<;>simp [h1,h2,h3]
theorem am6 (b:Int)(x:Bool):Z2 b x=some (x||markOdd.contains b):=by
 unfold Z2;cases x
 ·simp only [Bool.false_eq_true,if_false,Bool.false_or];have:=fG (L:=tY b) 11 (fun i=>some ((markTab.drop i).any fun c=>decide (((c.toNat:Nat):Int)=b))) (by omega) (fun go i hi hgo=>?_) (fun go=>?_)
  ·rw [this,List.drop_zero,markTab_any]
  ·show bX b go i=_;unfold bX;have hl:i<markTab.length:=hi;have hl':(i:Int)<11:=by omega
   simp only [show ([33,63,42,60,62,61,47,43,45,46,95]:LB)=markTab from rfl,show(markTab.length:Int)=11 from rfl,hl',if_true,t0 hl,f9];rw [l8 (by omega),hgo,List.drop_eq_getElem_cons hl,List.any_cons];by_cases h:(markTab[i].toNat:Int)=b<;>simp [h]
  ·show bX b go ((11:Nat):Int)=_;rfl
 ·rfl
theorem s_l1Mark_eq (b:Int):wZ b=some (symI b):=by
 unfold wZ symI;simp only [am6,zL,f9];by_cases h1:97≤b<;>by_cases h2:b≤122<;>simp [h1,h2]
def SM (l:LB):Prop:=l.length≤9223372036854775806
theorem af0 (s:LB)(h:SM s):itr (mF s) LF 0=some (s.all markB):=by
 rw [yE s markB (some true) (some false) (by unfold SM at h;omega) (fun go i hi=>?_) (fun go=>?_)]
 ·cases s.all markB<;>rfl
 ·show O8 s go i=_;unfold O8 SM at *;simp only [show ((i:Int)<(s.length:Int))from by omega,if_true,t0 hi,f9,ag5,symI_b];rw [l8 (by omega)]
 ·show O8 s go _=_;unfold O8;simp
theorem aj1 (s:LB)(h:SM s):itr (nF s) LF 0=some (s.all markB):=by
 rw [yE s markB (some true) (some false) (by unfold SM at h;omega) (fun go i hi=>?_) (fun go=>?_)]
 ·cases s.all markB<;>rfl
 ·show P7 s go i=_;unfold P7 SM at *;simp only [show ((i:Int)<(s.length:Int))from by omega,if_true,t0 hi,f9,s_l1Mark_eq,symI_b];rw [l8 (by omega)]
 ·show P7 s go _=_;unfold P7;simp
theorem vQ (s:LB)(h:SM s):fO s=some (isSymbol s):=by
 unfold fO;have hJ:∀ b,G1 s b=some (!b&&s.all markB):=fun b=>by
  unfold G1;cases b
  ·simp [af0 s h]
  ·rfl
 simp only [hJ,i_isDigit_eq,f9];unfold isSymbol headBad isDigit;by_cases h1:(s.length:Int)<1
 ·simp [h1]
 ·by_cases h2:(s.length:Int)>16
  ·simp [h1,h2]
  ·have hl:0<s.length:=by omega
   have e0:nth s 0=some (s.getD 0 0):=by rw [show (0:Int)=((0:Nat):Int)from rfl,t0 hl];simp [List.getD,List.getElem?_eq_getElem hl]
   simp only [h1,h2,if_false,e0,f9];generalize s.getD 0 0=b0;by_cases h3:(decide (48≤(b0.toNat:Int))&&decide ((b0.toNat:Int)≤57))=true
   ·simp [h3]
   ·simp only [h3,if_false];by_cases h4:(b0.toNat:Int)=45
    ·by_cases h5:(s.length:Int)>1
     ·have hl1:1<s.length:=by omega
      have e1:nth s 1=some (s.getD 1 0):=by rw [show (1:Int)=((1:Nat):Int)from rfl,t0 hl1];simp [List.getD,List.getElem?_eq_getElem hl1]
      simp [h4,h5,e1]
     ·simp [h4,h5]
    ·simp [h4]
theorem Z1 (x a b:Int):dG x a b=some (inside x a b):=by
 unfold dG inside;by_cases h:a≤x<;>simp [h]
theorem wT (s:LB)(h:SM s):fS s=some (isSymbol s):=by
 unfold fS;have hJ:∀ b,J2 s b=some (!b&&s.all markB):=fun b=>by
  unfold J2;cases b
  ·simp [aj1 s h]
  ·rfl
 simp only [hJ,zL,f9,Z1];unfold isSymbol headBad isDigit inside;by_cases h1:(s.length:Int)<1
 ·have h1':(decide (1≤(s.length:Int)))=false:=by simp;omega
  simp [h1,h1']
 ·by_cases h2:(s.length:Int)>16
  ·simp [h1,h2];omega
  ·have hl:0<s.length:=by omega
   have e0:nth s 0=some (s.getD 0 0):=by rw [show (0:Int)=((0:Nat):Int)from rfl,t0 hl];simp [List.getD,List.getElem?_eq_getElem hl]
   have h1':1≤(s.length:Int):=by omega
   have h2':(s.length:Int)≤16:=by omega
   simp only [h1',h2',h1,h2,decide_true,Bool.and_self,if_true,e0,f9];generalize s.getD 0 0=b0;by_cases h3:(decide (48≤(b0.toNat:Int))&&decide ((b0.toNat:Int)≤57))=true
   ·simp [h3]
   ·simp only [h3,if_false];by_cases h4:(b0.toNat:Int)=45
    ·by_cases h5:(s.length:Int)>1
     ·have hl1:1<s.length:=by omega
      have e1:nth s 1=some (s.getD 1 0):=by rw [show (1:Int)=((1:Nat):Int)from rfl,t0 hl1];simp [List.getD,List.getElem?_eq_getElem hl1]
      simp [h4,h5,e1]
     ·simp [h4,h5]
    ·simp [h4]
theorem ag3 (s:LB)(h:SM s):eO s=some (isText s):=by
 unfold eO isText;have hL:itr (gM s) LF 0=some (s.all fun b=>!badChar b):=by
  rw [yE s (fun b=>!badChar b) (some true) (some false) (by unfold SM at h;omega) (fun go i hi=>?_) (fun go=>?_)]
  ·cases (s.all fun b=>!badChar b)<;>rfl
  ·show K3 s go i=_;unfold K3 SM at *;simp only [show ((i:Int)<(s.length:Int))from by omega,if_true,t0 hi,f9];rw [l8 (by omega)];unfold badChar;by_cases h1:(s[i].toNat:Int)<32<;>by_cases h2:(s[i].toNat:Int)>126<;>by_cases h3:(s[i].toNat:Int)=34<;>simp [h1,h2,h3]
  ·show K3 s go _=_;unfold K3;simp
 rw [hL];by_cases h1:(s.length:Int)>20
 ·have:(decide ((s.length:Int)≤20))=false:=by simp;omega
  simp [h1,this]
 ·have:(s.length:Int)≤20:=by omega
  simp [h1];omega
theorem au6 (s:LB)(h:SM s):lG s=some (isText s):=by
 unfold lG isText;rw [yE s (fun b=>!badChar b) (some (decide ((s.length:Int)≤20))) (some false) (by unfold SM at h;omega) (fun go i hi=>?_) (fun go=>?_)]
 ·cases (s.all fun b=>!badChar b)<;>simp
 ·show P8 s go i=_;unfold P8 SM at *;simp only [show ((i:Int)<(s.length:Int))from by omega,if_true,t0 hi,f9];rw [l8 (by omega)];unfold badChar;by_cases h1:(s[i].toNat:Int)<32<;>by_cases h2:(s[i].toNat:Int)>126<;>by_cases h3:(s[i].toNat:Int)=34<;>simp [h1,h2,h3]
 ·show P8 s go _=_;unfold P8;simp
theorem am1 (k n:Int)(t:LB)(m:Int)(h:SM t):gL k n t m=some (PD.nodeOK k n t m):=by
 unfold gL PD.nodeOK inside;simp only [vQ t h,ag3 t h,f9];repeat' split
 all_goals simp_all<;>omega
theorem s_l1Node_eq (k n:Int)(t:LB)(m:Int)(h:SM t):xA k n t m=some (PD.nodeOK k n t m):=by
 unfold xA PD.nodeOK;simp only [wT t h,au6 t h,Z1,f9];repeat' split
 all_goals simp_all<;>omega
end Go.Abs

namespace Go.Abs
open PD
theorem small_SM {d:PD}(h:d.small):SM d.text:=by
 have:=((av6 d).1 h.1).1;unfold SM;omega
theorem eZ {d:PD}(h:d.small):d.items.length≤1048576:=by
 have h1:=cnts_len d.items;have h2:=h.2;rw [cnt_eq]at h2;omega
theorem J8 {d:PD}(h:d.small){i:Nat}(hi:i<d.items.length):(d.items[i]).small∧(d.items[i]).cnt<d.cnt:=
 ⟨small_item h (List.getElem_mem hi),aq3 (List.getElem_mem hi)⟩
theorem eq_loop {E:PD→PD→Option Bool}{L:(Int→Option Bool)→Int→Option Bool}(a b:PD)(hl:a.items.length=b.items.length)(hn:a.items.length≤1048576)
 (hE:∀ i (h:i<a.items.length) (h2:i<b.items.length),E a.items[i] b.items[i]=some (eqb a.items[i] b.items[i]))
 (hL:∀ go (i:Int),L go i=if i<(a.items.length:Int)then bnd (nth a.items i) fun x=>bnd (nth b.items i) fun y=>bnd (E x y) fun e=>if e=true then chk (I64 (i+1)) (go (i+1))else some false else some true):
 itr L LF 0=some (eqbs a.items b.items):=by
 rw [fG (L:=L) a.items.length (fun i=>some (eqbs (a.items.drop i) (b.items.drop i))) (by omega) (fun go i hi hgo=>?_) (fun go=>?_)]
 ·rfl
 ·have hi2:i<b.items.length:=by omega
  rw [hL,if_pos (by omega),t0 hi,t0 hi2];simp only [f9,hE i hi hi2];rw [l8 (by omega),hgo,List.drop_eq_getElem_cons hi,List.drop_eq_getElem_cons hi2,eqbs];cases eqb a.items[i] b.items[i]<;>simp
 ·rw [hL,if_neg (by omega),List.drop_length,hl,List.drop_length];rfl
theorem sG:∀(n:Nat) (a b:PD),a.cnt<n→a.small→A1 n a b=some (eqb a b)
 |0,a,b,h,_=>by omega
 |n+1,a,b,h,ha=>by
  show cI (A1 n) a b=_;unfold cI;rw [eqb_eq];by_cases h1:a.kind=b.kind<;>by_cases h2:a.number=b.number<;>by_cases h3:a.text=b.text<;>simp only [h1,h2,h3,if_true,if_false,decide_true,decide_false,Bool.true_and,Bool.false_and]
  by_cases h4:a.items.length=b.items.length
  ·rw [if_pos (by omega),eq_loop (L:=jP (A1 n) a b) a b h4 (eZ ha) (E:=A1 n) (fun i hi hi2=>sG n _ _ (by have:=(J8 ha hi).2;omega) (J8 ha hi).1) (fun go i=>rfl)]
  ·rw [if_neg (by omega)];cases he:eqbs a.items b.items
   ·rfl
   ·exact absurd (aq9 he) h4
theorem sO:∀(n:Nat) (a b:PD),a.cnt<n→a.small→A3 n a b=some (eqb a b)
 |0,a,b,h,_=>by omega
 |n+1,a,b,h,ha=>by
  show cW (A3 n) a b=_;unfold cW;rw [eqb_eq];by_cases h1:a.kind=b.kind<;>by_cases h2:a.number=b.number<;>by_cases h3:a.text=b.text<;>simp only [h1,h2,h3,if_true,if_false,decide_true,decide_false,Bool.true_and,Bool.false_and]
  by_cases h4:a.items.length=b.items.length
  ·rw [if_pos (by omega),eq_loop (L:=jY (A3 n) a b) a b h4 (eZ ha) (E:=A3 n) (fun i hi hi2=>sO n _ _ (by have:=(J8 ha hi).2;omega) (J8 ha hi).1) (fun go i=>rfl)]
  ·rw [if_neg (by omega)];cases he:eqbs a.items b.items
   ·rfl
   ·exact absurd (aq9 he) h4
theorem RF_cnt {d:PD}(h:d.small):d.cnt<RF:=by rw [RF_eq];have:=h.2;omega
theorem zD:∀(n:Nat) (d:PD) (deep nodes:Int),d.cnt<n→d.small→0≤deep→deep≤21→0≤nodes→nodes≤600→D6 n d deep nodes=some (meas d deep nodes)
 |0,d,_,_,h,_,_,_,_,_=>by omega
 |n+1,d,deep,nodes,h,hd,h1,h2,h3,h4=>by
  show gI (D6 n) d deep nodes=_;unfold gI;rw [meas_eq,l8 (by omega)];by_cases h5:deep>20
  ·rw [if_pos h5,if_pos (.inl h5)]
  ·rw [if_neg h5];by_cases h6:nodes+1>600
   ·rw [if_pos h6,if_pos (.inr (.inl h6))]
   ·rw [if_neg h6,am1 _ _ _ _ (small_SM hd)];simp only [f9];cases h7:nodeOK d.kind d.number d.text d.items.length
    ·simp
    ·rw [if_pos rfl,if_neg (by simp;omega)];have hs:=eZ hd;rw [F3 (L:=pO (D6 n) d deep) d.items.length (fun i a=>0≤a∧a≤600) (fun i a=>some (measL (d.items.drop i) (deep+1) a)) (by omega) (fun go i a hi ha hgo=>?_) (fun go a ha=>?_) (by omega)]
     ·rfl
     ·show U3 (D6 n) d deep go i a=_;unfold U3;rw [if_pos (by omega),t0 hi];simp only [f9];rw [l8 (by omega),zD n _ _ _ (by have:=(J8 hd hi).2;omega) (J8 hd hi).1 (by omega) (by omega) ha.1 ha.2];simp only [f9];rw [List.drop_eq_getElem_cons hi,measL];by_cases h8:(meas d.items[i] (deep+1) a).1=true
      ·rw [if_pos h8,if_pos h8,l8 (by omega),hgo];have:=(pQ.1 d.items[i] (deep+1) a)
       have h9:=this.1.1 h8;have h10:=this.2 h8;omega
      ·rw [if_neg h8,if_neg h8]
     ·show U3 (D6 n) d deep go _ a=_;unfold U3;rw [if_neg (by omega),List.drop_length];rfl
theorem i_IsDatum_eq (d:PD)(h:d.small):pI d=some d.valid:=by
 unfold pI;rw [zD RF d 1 0 (RF_cnt h) h (by omega) (by omega) (by omega) (by omega)];simp only [f9,meas_valid]
theorem s_l1Few_eq (n:Nat):∀(d:PD) (left:Int),d.cnt<n→d.small→0≤left→left≤600→I9 n d left=some (decide (0≤few d left),few d left):=by
 induction n with
 |zero=>intro d _ h;omega
 |succ n ih=>
  intro d left h hd h1 h2;show qC (I9 n) d left=_;unfold qC;rw [few_eq,l8 (by omega)];have hs:=eZ hd;rw [F3 (L:=yN (I9 n) d) d.items.length (fun i a=> -1≤a∧a≤600) (fun i a=>some (decide (0≤fews (d.items.drop i) a),fews (d.items.drop i) a)) (by omega) (fun go i a hi ha hgo=>?_) (fun go a ha=>?_) (by omega)]
  ·rw [List.drop_zero]
  ·show bK (I9 n) d go i a=_;unfold bK dQ;rw [if_pos (by omega),List.drop_eq_getElem_cons hi,fews];by_cases h0:0≤a
   ·rw [if_pos (by simpa using h0),if_pos h0,t0 hi];rw [f9];rw [ih _ _ (by have:=(J8 hd hi).2;omega) (J8 hd hi).1 h0 ha.2];rw [f9];have:=(vF.1 d.items[i] a h0).1;generalize few d.items[i] a=z at this ⊢;rw [l8 (by omega),hgo _ (by omega)]
   ·rw [if_neg (by simpa using h0),if_neg h0]
  ·show bK (I9 n) d go _ a=_;unfold bK dQ;rw [if_neg (by omega),List.drop_length];simp only [fews,Bool.false_eq_true,if_false];rfl
theorem s_DepthOf_eq (n:Nat):∀(d:PD),d.cnt<n→d.small→D8 n d=some d.depth:=by
 induction n with
 |zero=>intro d h;omega
 |succ n ih=>
  intro d h hd;show gU (D8 n) d=_;unfold gU;have hs:=eZ hd;have hc:=hd.2;have hdc:=uZ.1 d;have hmax:∀ x∈d.items,0≤x.depth∧x.depth≤1048577:=fun x hx=>by
   have h1:=uZ.1 x;have h2:=aq3 hx;omega
  rw [ab6 (L:=pZ (D8 n) d) d.items.length (fun i a=>0≤a∧a≤1048577) (fun i a=>some (max a (depths (d.items.drop i))+1)) (by omega) (fun go i a hi ha hgo=>?_) (fun go a ha=>?_) (by omega)]
  ·rw [vA,List.drop_zero];have:=G0 d.items;rw [Int.max_eq_right this]
  ·show U7 (D8 n) d go a i=_;unfold U7;have hx:=hmax _ (List.getElem_mem hi);rw [if_pos (by omega),t0 hi];rw [f9];rw [ih _ (by have:=(J8 hd hi).2;omega) (J8 hd hi).1];rw [f9];rw [List.drop_eq_getElem_cons hi,depths];generalize depth d.items[i]=z at hx ⊢;rw [l8 (by omega),hgo _ (by omega),Int.max_assoc]
  ·show U7 (D8 n) d go a _=_;unfold U7;rw [if_neg (by omega),List.drop_length,l8 (by omega)];simp only [depths];rw [Int.max_eq_left ha.1]
theorem zM:∀(n:Nat) (d:PD),d.cnt<n→d.small→D9 n d=some d.okAll
 |0,d,h,_=>by omega
 |n+1,d,h,hd=>by
  show gX (D9 n) d=_;unfold gX;have hs:=eZ hd;rw [okAll_eq,fG (L:=qD (D9 n) d) d.items.length (fun i=>some (okAlls (d.items.drop i)&&nodeOK d.kind d.number d.text d.items.length)) (by omega) (fun go i hi hgo=>?_) (fun go=>?_)]
  ·rw [List.drop_zero,Bool.and_comm]
  ·show U8 (D9 n) d go i=_;unfold U8;rw [if_pos (by omega),t0 hi];simp only [f9];rw [zM n _ (by have:=(J8 hd hi).2;omega) (J8 hd hi).1];simp only [f9];rw [l8 (by omega),hgo,List.drop_eq_getElem_cons hi,okAlls];cases okAll d.items[i]<;>simp
  ·show U8 (D9 n) d go _=_;unfold U8;rw [if_neg (by omega),List.drop_length,s_l1Node_eq _ _ _ _ (small_SM hd)];simp [okAlls]
theorem s_IsDatum_eq (d:PD)(h:d.small):qA d=some d.valid:=by
 unfold qA;rw [s_l1Few_eq RF d 600 (RF_cnt h) h (by omega) (by omega),s_DepthOf_eq RF d (RF_cnt h) h,zM RF d (RF_cnt h) h];simp only [f9];rw [← few_valid];by_cases h1:0≤few d 600<;>by_cases h2:d.depth≤20<;>simp [h1,h2]
end Go.Abs

namespace Go.Abs
open PD
mutual
def wD:PD→Nat
 |.mk _ _ t is=>t.length+wDs is
def wDs:List PD→Nat
 | []=>0
 |d::r=>1+wD d+wDs r
end
theorem yW (d:PD):wD d=d.text.length+wDs d.items:=by cases d;rfl
theorem wDs_eq:∀ ds:List PD,wDs ds=wts wD ds
 | []=>rfl
 |d::r=>by have:=wDs_eq r;unfold wts at *;simp [wDs];omega
theorem wDs_mem:∀{ds:List PD} {x:PD},x∈ds→wD x<wDs ds
 |d::r,x,h=>by
  unfold wDs;rcases List.mem_cons.1 h with rfl|h
  ·omega
  ·have:=wDs_mem h;omega
theorem ad4:(∀ d:PD,d.cnt≤wD d)∧∀ ds:List PD,cnts ds≤wDs ds:=by
 refine ind (fun ds h=>?_) (fun d h=>?_)
 ·induction ds with
  |nil=>simp [cnts]
  |cons x r ih=>have:=h x (by simp);have:=ih (fun y hy=>h y (by simp [hy]));unfold cnts wDs;omega
 ·rw [cnt_eq,yW];omega
theorem short_wD:(∀ d:PD,wD d≤1048576→d.short)∧∀ ds:List PD,wDs ds≤1048576→shorts ds:=by
 refine ind (fun ds h=>?_) (fun d h=>?_)
 ·induction ds with
  |nil=>intro _;trivial
  |cons x r ih=>intro hw;unfold wDs at hw;exact⟨h x (by simp) (by omega),ih (fun y hy=>h y (by simp [hy])) (by omega)⟩
 ·intro hw;rw [yW]at hw;exact(av6 d).2 ⟨by omega,h (by omega)⟩
theorem small_wD {d:PD}(h:wD d≤1048576):d.small:=⟨short_wD.1 d h,by have:=ad4.1 d;omega⟩
theorem wf_len {d:PD}(h:d.wf):d.text.length≤9223372036854775807∧d.items.length≤9223372036854775807∧∀ x∈d.items,x.wf:=by
 have:=(wf_eq d).1 h;exact ⟨this.2.2.1,this.2.2.2.1,fun x hx=>wfs_mem this.2.2.2.2 hx⟩
theorem w_sz_eq:∀ n:Nat,(∀ d:PD,d.wf→∀ left:Int,0≤left→left≤1048576→2 * left+2≤n→A0 n d left=some (szw (wD d) left))∧(∀ ds:List PD,ds.length≤9223372036854775807→(∀ x∈ds,x.wf)→∀ left:Int,0≤left→left≤1048576→2 * left+1≤n→D3 n ds left=some (szw (wDs ds) left))
 |0=>⟨fun d _ left h1 _ h2=>by omega,fun ds _ _ left h1 _ h2=>by omega⟩
 |n+1=>by
  have ih:=w_sz_eq n;refine ⟨fun d hw left h0 h1 h=>?_,fun ds hl hw left h0 h1 h=>?_⟩
  ·show iL (A0 n) (D3 n) d left=_;unfold iL;have hw':=wf_len hw;rw [l8 (by omega),yW,← uR];by_cases hx:left-(d.text.length:Int)<0
   ·have e:szw d.text.length left= -1:=by unfold szw;rw [if_pos hx]
    rw [if_pos hx,e];unfold szw;rw [if_pos (by omega)]
   ·have e:szw d.text.length left=left-d.text.length:=by unfold szw;rw [if_neg hx]
    rw [if_neg hx,e,ih.2 d.items hw'.2.1 hw'.2.2 _ (by omega) (by omega) (by omega),f9,szw_if]
  ·show fC (A0 n) (D3 n) ds left=_;unfold fC;rw [wDs_eq];refine szS_eq (L:=oM (A0 n) ds) (E:=A0 n) wD ds left (fun x hx m hm hm2=>ih.1 x (hw x hx) m hm (by omega) ?_) (fun go left i=>rfl) ⟨h0,h1⟩ hl;have:0<ds.length:=List.length_pos_of_mem hx;omega
def rfOK (d:PD):Prop:=2 * d.cnt+1<RF
theorem yK {d:PD}(h:d.small):rfOK d:=by unfold rfOK;rw [RF_eq];have:=h.2;omega
theorem w_to_eq:∀ n:Nat,(∀ d:PD,2 * d.cnt+1<n→d.small→y8 n d=some d)∧(∀ ds:List PD,2 * cnts ds<n→cnts ds≤1048576→(∀ x∈ds,x.small)→D4 n ds=some ds)
 |0=>⟨fun d h=>by omega,fun ds h=>by omega⟩
 |n+1=>by
  have ih:=w_to_eq n;refine ⟨fun d h hs=>?_,fun ds h hl hw=>?_⟩
  ·show iN (y8 n) (D4 n) d=_;unfold iN;have hc:=cnt_eq d;rw [ih.2 d.items (by omega) (by have:=hs.2;omega) (fun x hx=>small_item hs hx),f9];cases d;rfl
  ·show fD (y8 n) (D4 n) ds=_;unfold fD;exact toS_eq (L:=oP (y8 n) ds) (T:=y8 n) _ ds 56 (by omega) (by have:=cnts_len ds;omega) (fun x hx=>ih.1 x (by have:=cnts_mem hx;omega) (hw x hx)) (fun go i out=>rfl)
theorem w_eq_eq:∀ n:Nat,(∀ d:PD,2 * d.cnt+1<n→d.small→y7 n d d=some true)∧(∀ ds:List PD,2 * cnts ds<n→cnts ds≤1048576→(∀ x∈ds,x.small)→D2 n ds ds=some true)
 |0=>⟨fun d h=>by omega,fun ds h=>by omega⟩
 |n+1=>by
  have ih:=w_eq_eq n;refine ⟨fun d h hs=>?_,fun ds h hl hw=>?_⟩
  ·show iF (y7 n) (D2 n) d d=_;unfold iF;have hc:=cnt_eq d;rw [if_pos rfl,if_pos rfl,if_pos rfl,ih.2 d.items (by omega) (by have:=hs.2;omega) (fun x hx=>small_item hs hx),f9,if_pos rfl]
  ·show fA (y7 n) (D2 n) ds ds=_;unfold fA;exact aq8 (L:=nY (y7 n) ds ds) (E:=y7 n) ds (by have:=cnts_len ds;omega) (fun x hx=>ih.1 x (by have:=cnts_mem hx;omega) (hw x hx)) (fun go i=>rfl)
theorem toDatum_eq {d:PD}(h:d.small):y8 RF d=some d:=(w_to_eq RF).1 d (yK h) h
theorem eqDatum_eq {d:PD}(h:d.small):y7 RF d d=some true:=(w_eq_eq RF).1 d (yK h) h
theorem PD.wf_of {x:Int×Int×LB×List PD}(h:(IntKind.i64.min≤x.1∧x.1≤IntKind.i64.max)∧(IntKind.i64.min≤x.2.1∧x.2.1≤IntKind.i64.max)∧x.2.2.1.length≤9223372036854775807∧x.2.2.2.length≤9223372036854775807∧∀ y∈x.2.2.2,y.wf):(PD.mk x.1 x.2.1 x.2.2.1 x.2.2.2).wf:=
 ⟨h.1,h.2.1,h.2.2.1,h.2.2.2.1,wfs_of h.2.2.2.2⟩
end Go.Abs

namespace Go.Abs
open PD
theorem itr_ex {σ R:Type}{L:(σ→Option R)→σ→Option R}(Q:R→Prop)(P:σ→Prop)(μ:σ→Nat)
 (step:∀ go v,P v→(∀ v',P v'→μ v'<μ v→∃ r,go v'=some r∧Q r)→∃ r,L go v=some r∧Q r):∀ n v,P v→μ v<n→∃ r,itr L n v=some r∧Q r
 |0,v,_,h=>by omega
 |n+1,v,hp,h=>step (itr L n) v hp fun v' hp' hm=>itr_ex Q P μ step n v' hp' (by omega)
theorem itr_exLF {σ R:Type}{L:(σ→Option R)→σ→Option R}(Q:R→Prop)(P:σ→Prop)(μ:σ→Nat)
 (step:∀ go v,P v→(∀ v',P v'→μ v'<μ v→∃ r,go v'=some r∧Q r)→∃ r,L go v=some r∧Q r) (v:σ) (hp:P v) (h:μ v<18446744073709551616):∃ r,itr L LF v=some r∧Q r:=by
 rw [LF_eq];exact itr_ex Q P μ step _ v hp h
theorem as6 (k:Int)(h:k≤4611686018427387904):∃ t,K0 k=some t:=by
 unfold K0;by_cases h0:k≤0
 ·rw [if_pos h0];exact⟨_,rfl⟩
 ·rw [if_neg h0];have:=itr_exLF (L:=oJ) (fun _=>True) (fun v=>0≤v.1∧v.1+v.2.length≤4611686018427387904) (fun v=>v.1.toNat) (fun go v hv hgo=>?_) (k,[]) ⟨by omega,by simpa using h⟩ (by omega)
  ·obtain ⟨t,h1,_⟩:=this;exact⟨t,h1⟩
  ·obtain ⟨k,out⟩:=v;show ∃ r,aT go k out=some r∧True;unfold aT;have h1:0≤k:=hv.1;have h2:k+(out.length:Int)≤4611686018427387904:=hv.2;by_cases hk:k>0
   ·rw [if_pos hk,l8 (by omega),l8 (by omega),l8 (by omega),l8 (by simp;omega),l8 (by omega)];exact hgo _ ⟨by show 0≤k / 10;omega,by simp;omega⟩ (by show(k / 10).toNat<k.toNat;omega)
   ·rw [if_neg hk,l8 (by simp;omega)];exact ⟨_,rfl,trivial⟩
theorem U5 {α:Type}{l:List α}{i:Nat}{v:α}(h:i<l.length):nth (l.set i v) (i:Int)=some v:=by
 rw [t0 (by simpa using h)];simp
theorem bB {α:Type}(wt:α→Nat)(x:α)(r:List α):wts wt (x::r)=1+wt x+wts wt r:=by
 unfold wts;simp only [List.length_cons,List.map_cons,List.sum_cons];omega
theorem ab9 (k n:Int)(t:LB)(is:List PD):(PD.mk k n t is).items=is:=rfl
theorem as8 (k n:Int)(t:LB)(is:List PD):(PD.mk k n t is).kind=k:=rfl
theorem wI (k n:Int)(t:LB)(is:List PD):(PD.mk k n t is).number=n:=rfl
theorem as9 (k n:Int)(t:LB)(is:List PD):(PD.mk k n t is).text=t:=rfl
end Go.Abs

namespace Go.Abs
namespace PC
mutual
def cnt:PC→Nat
 |.mk _ _ _ _ ks=>cnts ks
def cnts:List PC→Nat
 | []=>0
 |c::r=>1+cnt c+cnts r
end
theorem cnts_mem:∀{ds:List PC} {x:PC},x∈ds→x.cnt+1≤cnts ds
 |d::r,x,h=>by
  unfold cnts;rcases List.mem_cons.1 h with rfl|h
  ·omega
  ·have:=cnts_mem h;omega
theorem cnts_len:∀(ds:List PC),ds.length≤cnts ds
 | []=>by simp
 |d::r=>by have:=cnts_len r;unfold cnts;simp;omega
theorem cnt_eq (d:PC):d.cnt=cnts d.kids:=by cases d;rfl
theorem X5 {d x:PC}(h:x∈d.kids):x.cnt<d.cnt:=by have:=cnts_mem h;rw [cnt_eq d];omega
theorem ind {A:PC→Prop}{B:List PC→Prop}(hB:∀ ds,(∀ x∈ds,A x)→B ds)(hA:∀ d,B d.kids→A d):(∀ d,A d)∧∀ ds,B ds:=by
 have key:∀ N,(∀ d:PC,d.cnt<N→A d)∧∀ ds:List PC,cnts ds≤N→B ds:=by
  intro N;induction N with
  |zero=>exact⟨fun d h=>by omega,fun ds h=>hB ds fun x hx=>by have:=cnts_mem hx;omega⟩
  |succ N ih=>
   have hA':∀ d:PC,d.cnt<N+1→A d:=fun d h=>hA d (ih.2 _ (by rw [← cnt_eq];omega));exact ⟨hA',fun ds h=>hB ds fun x hx=>hA' x (by have:=cnts_mem hx;omega)⟩
 exact⟨fun d=>(key (d.cnt+1)).1 d (by omega),fun ds=>(key (cnts ds)).2 ds (Nat.le_refl _)⟩
mutual
def wK:PC→Nat
 |.mk _ _ p d ks=>p.length+wD d+wKs ks
def wKs:List PC→Nat
 | []=>0
 |c::r=>1+wK c+wKs r
end
theorem fL (c:PC):wK c=c.params.length+wD c.datum+wKs c.kids:=by cases c;rfl
theorem wKs_eq:∀ ds:List PC,wKs ds=wts wK ds
 | []=>rfl
 |d::r=>by have:=wKs_eq r;unfold wts at *;simp [wKs];omega
theorem nV:∀{ds:List PC} {x:PC},x∈ds→wK x<wKs ds
 |d::r,x,h=>by
  unfold wKs;rcases List.mem_cons.1 h with rfl|h
  ·omega
  ·have:=nV h;omega
theorem kS:(∀ d:PC,d.cnt≤wK d)∧∀ ds:List PC,cnts ds≤wKs ds:=by
 refine ind (fun ds h=>?_) (fun d h=>?_)
 ·induction ds with
  |nil=>simp [cnts]
  |cons x r ih=>have:=h x (by simp);have:=ih (fun y hy=>h y (by simp [hy]));unfold cnts wKs;omega
 ·rw [cnt_eq,fL];omega
mutual
def nice:PC→Prop
 |.mk _ _ p d ks=>p.length≤1048576∧wD d≤1048576∧ks.length≤1048576∧nices ks
def nices:List PC→Prop
 | []=>True
 |c::r=>nice c∧nices r
end
theorem A4 (c:PC):c.nice↔c.params.length≤1048576∧wD c.datum≤1048576∧c.kids.length≤1048576∧nices c.kids:=by cases c;exact Iff.rfl
theorem gQ:∀{ds:List PC} {x:PC},nices ds→x∈ds→x.nice
 |d::r,x,h,hx=>by
  unfold nices at h;rcases List.mem_cons.1 hx with rfl|hx
  ·exact h.1
  ·exact gQ h.2 hx
theorem ac1:∀{ds:List PC},(∀ x∈ds,x.nice)→nices ds
 | [],_=>trivial
 |d::r,h=>⟨h d (by simp),ac1 fun x hx=>h x (by simp [hx])⟩
theorem nice_wK:(∀ d:PC,wK d≤1048576→d.nice)∧∀ ds:List PC,wKs ds≤1048576→nices ds:=by
 refine ind (fun ds h hw=>ac1 fun x hx=>h x hx (by have:=nV hx;omega)) (fun d h hw=>?_);rw [fL]at hw;have h1:=cnts_len d.kids;have h2:=kS.2 d.kids;exact (A4 d).2 ⟨by omega,by omega,by omega,h (by omega)⟩
theorem B8 {c x:PC}(h:c.nice)(hx:x∈c.kids):x.nice:=gQ ((A4 c).1 h).2.2.2 hx
theorem J9 {c:PC}(h:c.nice):c.datum.small:=small_wD ((A4 c).1 h).2.1
mutual
def wf:PC→Prop
 |.mk k n p d ks=>(IntKind.i64.min≤k∧k≤IntKind.i64.max)∧(IntKind.i64.min≤n∧n≤IntKind.i64.max)∧(p.length≤9223372036854775807∧∀ x∈p,IntKind.i64.min≤x∧x≤IntKind.i64.max)∧d.wf∧ks.length≤9223372036854775807∧wfs ks
def wfs:List PC→Prop
 | []=>True
 |d::r=>wf d∧wfs r
end
theorem wfs_mem:∀{ds:List PC} {x:PC},wfs ds→x∈ds→x.wf
 |d::r,x,h,hx=>by
  unfold wfs at h;rcases List.mem_cons.1 hx with rfl|hx
  ·exact h.1
  ·exact wfs_mem h.2 hx
theorem wfs_of:∀{ds:List PC},(∀ x∈ds,x.wf)→wfs ds
 | [],_=>trivial
 |d::r,h=>⟨h d (by simp),wfs_of fun x hx=>h x (by simp [hx])⟩
theorem wf_eq (c:PC):c.wf↔(IntKind.i64.min≤c.kind∧c.kind≤IntKind.i64.max)∧(IntKind.i64.min≤c.number∧c.number≤IntKind.i64.max)∧(c.params.length≤9223372036854775807∧∀ x∈c.params,IntKind.i64.min≤x∧x≤IntKind.i64.max)∧c.datum.wf∧c.kids.length≤9223372036854775807∧wfs c.kids:=by cases c;exact Iff.rfl
theorem wf_of {x:Int×Int×LI×PD×List PC}(h:(IntKind.i64.min≤x.1∧x.1≤IntKind.i64.max)∧(IntKind.i64.min≤x.2.1∧x.2.1≤IntKind.i64.max)∧(x.2.2.1.length≤9223372036854775807∧∀ y∈x.2.2.1,IntKind.i64.min≤y∧y≤IntKind.i64.max)∧x.2.2.2.1.wf∧x.2.2.2.2.length≤9223372036854775807∧∀ y∈x.2.2.2.2,y.wf):(PC.mk x.1 x.2.1 x.2.2.1 x.2.2.2.1 x.2.2.2.2).wf:=
 ⟨h.1,h.2.1,h.2.2.1,h.2.2.2.1,h.2.2.2.2.1,wfs_of h.2.2.2.2.2⟩
def named (c:PC):Bool:=decide (c.kind=2)||decide (c.kind=4)
def shapeOK (c:PC):Bool:=
 (decide (c.kind=1)||PD.eqb c.datum zeroDat)&&((decide (c.number=0)||(named c||decide (c.kind=3)))&&
 (if c.kind=1 then decide ((c.params.length:Int)=0)&&(decide ((c.kids.length:Int)=0)&&c.datum.valid)
 else if c.kind=2 then decide ((c.params.length:Int)=0)&&decide ((c.kids.length:Int)=0)
 else if c.kind=3 then decide ((c.params.length:Int)=0)&&(decide ((c.kids.length:Int)=0)&&inside c.number 0 13)
 else if c.kind=4 then decide ((c.params.length:Int)=0)&&decide ((c.kids.length:Int)=1)
 else if c.kind=5 then decide ((c.params.length:Int)≤8)&&decide ((c.kids.length:Int)=1)
 else if c.kind=6 then decide ((c.params.length:Int)=0)&&inside (c.kids.length:Int) 1 9
 else if c.kind=7 then decide ((c.params.length:Int)=0)&&decide ((c.kids.length:Int)=3)
 else if c.kind=8 then decide ((c.params.length:Int)=0)&&inside (c.kids.length:Int) 2 60
 else if c.kind=9 then inside (c.params.length:Int) 1 60&&inside (c.kids.length:Int) 1 60
 else if c.kind=10 then decide ((c.params.length:Int)=0)&&decide ((c.kids.length:Int)=1)
 else if c.kind=11 then decide ((c.params.length:Int)=1)&&decide ((c.kids.length:Int)=1)
 else false))
def seqOK (c:PC):Bool:=!decide (c.kind=8)||c.kids.all fun x=>!decide (x.kind=8)
mutual
def okAll:PC→Bool
 |.mk k n p d ks=>(shapeOK (.mk k n p d ks)&&seqOK (.mk k n p d ks))&&okAlls ks
def okAlls:List PC→Bool
 | []=>true
 |d::r=>okAll d&&okAlls r
end
mutual
def depth:PC→Int
 |.mk _ _ _ _ ks=>depths ks+1
def depths:List PC→Int
 | []=>0
 |d::r=>max (depth d) (depths r)
end
mutual
def meas:PC→Int→Int→Bool×Int
 |.mk k n p d ks,deep,nodes=>if 150<deep∨3000<nodes+1∨(shapeOK (.mk k n p d ks)&&seqOK (.mk k n p d ks))=false then(false,nodes+1)else measL ks (deep+1) (nodes+1)
def measL:List PC→Int→Int→Bool×Int
 | [],_,nodes=>(true,nodes)
 |d::r,deep,nodes=>if(meas d deep nodes).1=true then measL r deep (meas d deep nodes).2 else(false,(meas d deep nodes).2)
end
mutual
def few:PC→Int→Int
 |.mk _ _ _ _ ks,left=>fews ks (left-1)
def fews:List PC→Int→Int
 | [],left=>left
 |d::r,left=>if 0≤left then fews r (few d left)else left
end
def tree (d:PC):Bool:=decide ((d.cnt:Int)+1≤3000)&&(decide (d.depth≤150)&&d.okAll)
theorem G0:∀ ds:List PC,0≤depths ds
 | []=>by simp [depths]
 |d::r=>by have:=G0 r;unfold depths;omega
theorem pQ:(∀ (d:PC) (deep nodes:Int),((meas d deep nodes).1=true↔deep+d.depth≤151∧nodes+1+d.cnt≤3000∧d.okAll=true)∧((meas d deep nodes).1=true→(meas d deep nodes).2=nodes+1+d.cnt))∧
 (∀ (ds:List PC) (deep nodes:Int),deep≤151→nodes≤3000→((measL ds deep nodes).1=true↔deep+depths ds≤151∧nodes+cnts ds≤3000∧okAlls ds=true)∧((measL ds deep nodes).1=true→(measL ds deep nodes).2=nodes+cnts ds)):=by
 refine ind (fun ds ih=>?_) (fun d ih=>?_)
 ·induction ds with
  |nil=>intro deep nodes h1 h2;simp [measL,depths,cnts,okAlls];omega
  |cons x r ihr=>
   intro deep nodes h1 h2;have hx:=ih x (by simp) deep nodes;have hr:=ihr (fun y hy=>ih y (by simp [hy])) deep;have hd:=G0 r;unfold measL depths cnts okAlls;by_cases hb:(meas x deep nodes).1=true
   ·rw [if_pos hb];have h3:=hx.1.1 hb;have h4:=hx.2 hb;have h5:=hr (meas x deep nodes).2 h1 (by omega);rw [h5.1,h3.2.2,h4,Bool.true_and];refine ⟨⟨fun h=>⟨by omega,by omega,h.2.2⟩,fun h=>⟨by omega,by omega,h.2.2⟩⟩,fun h=>?_⟩;rw [← h4,h5.2 (h5.1.2 (by rw [h4];exact h)),h4];omega
   ·rw [if_neg hb];refine ⟨⟨fun h=>by simp at h,fun h=>?_⟩,fun h=>by simp at h⟩;refine absurd (hx.1.2 ⟨by omega,by omega,?_⟩) hb;have:=h.2.2;simp only [Bool.and_eq_true]at this;exact this.1
 ·intro deep nodes;obtain ⟨k,n,p,d,is⟩:=d;have ih':∀(deep nodes:Int),deep≤151→nodes≤3000→((measL is deep nodes).1=true↔deep+depths is≤151∧nodes+cnts is≤3000∧okAlls is=true)∧((measL is deep nodes).1=true→(measL is deep nodes).2=nodes+cnts is):=ih;have hd:=G0 is;unfold meas depth cnt okAll;generalize (shapeOK (.mk k n p d is)&&seqOK (.mk k n p d is))=b;by_cases hc:150<deep∨3000<nodes+1∨b=false
  ·rw [if_pos hc];refine ⟨⟨fun h=>by simp at h,fun h=>?_⟩,fun h=>by simp at h⟩;have:=h.2.2;simp only [Bool.and_eq_true]at this;rcases hc with hc|hc|hc
   ·omega
   ·omega
   ·rw [this.1]at hc;cases hc
  ·rw [if_neg hc];have h0:b=true:=by cases b<;>simp_all
   have h5:=ih' (deep+1) (nodes+1) (by omega) (by omega);rw [h5.1,h0,Bool.true_and];refine ⟨⟨fun h=>⟨by omega,by omega,h.2.2⟩,fun h=>⟨by omega,by omega,h.2.2⟩⟩,fun h=>?_⟩;rw [h5.2 (h5.1.2 h)]
theorem vF:(∀ (d:PC) (left:Int),0≤left→(-1≤few d left∧few d left≤left)∧(0≤few d left↔(d.cnt:Int)+1≤left)∧(0≤few d left→few d left=left-(d.cnt+1)))∧
 (∀ (ds:List PC) (left:Int), -1≤left→(-1≤fews ds left∧fews ds left≤left)∧(0≤fews ds left↔(cnts ds:Int)≤left)∧(0≤fews ds left→fews ds left=left-cnts ds)):=by
 refine ind (fun ds ih=>?_) (fun d ih=>?_)
 ·induction ds with
  |nil=>intro left h;simp [fews,cnts];omega
  |cons x r ihr=>
   intro left h;unfold fews cnts;by_cases h0:0≤left
   ·rw [if_pos h0];have hx:=ih x (by simp) left h0;have hr:=ihr (fun y hy=>ih y (by simp [hy])) (few x left) (by omega);refine ⟨by omega,⟨fun h=>?_,fun h=>?_⟩,fun h=>?_⟩
    ·have h1:=hr.2.1.1 h;have h2:=hx.2.2 (by omega);omega
    ·have h2:=hx.2.2 (hx.2.1.2 (by omega));exact hr.2.1.2 (by omega)
    ·have h1:=hr.2.1.1 h;have h2:=hx.2.2 (by omega);have h3:=hr.2.2 h;omega
   ·rw [if_neg h0];refine ⟨by omega,⟨fun h=>by omega,fun h=>by omega⟩,fun h=>by omega⟩
 ·intro left h0;obtain ⟨k,n,p,d,is⟩:=d;have h:=ih (left-1) (by omega);have h':(-1≤fews is (left-1)∧fews is (left-1)≤left-1)∧(0≤fews is (left-1)↔(cnts is:Int)≤left-1)∧(0≤fews is (left-1)→fews is (left-1)=left-1-cnts is):=h;unfold few cnt;refine ⟨by omega,by rw [h'.2.1];omega,fun h=>by rw [h'.2.2 h];omega⟩
theorem meas_tree (d:PC):(meas d 1 0).1=d.tree:=by
 have h:=(pQ.1 d 1 0).1;generalize meas d 1 0=q at h;have e:d.tree=true↔((d.cnt:Int)+1≤3000∧d.depth≤150∧d.okAll=true):=by
  unfold tree;rw [Bool.and_eq_true,Bool.and_eq_true,decide_eq_true_iff,decide_eq_true_iff]
 rw [Bool.eq_iff_iff,h,e];refine ⟨fun h=>⟨by omega,by omega,h.2.2⟩,fun h=>⟨by omega,by omega,h.2.2⟩⟩
theorem few_tree (d:PC):(decide (0≤few d 3000)&&(decide (d.depth≤150)&&d.okAll))=d.tree:=by
 have h:=(vF.1 d 3000 (by omega)).2.1;have e:decide (0≤few d 3000)=decide ((d.cnt:Int)+1≤3000):=decide_eq_decide.2 h;unfold tree;rw [e]
theorem meas_eq (d:PC)(deep nodes:Int):meas d deep nodes=if 150<deep∨3000<nodes+1∨(shapeOK d&&seqOK d)=false then(false,nodes+1)else measL d.kids (deep+1) (nodes+1):=by cases d;rfl
theorem few_eq (d:PC)(left:Int):few d left=fews d.kids (left-1):=by cases d;rfl
theorem vA (d:PC):d.depth=depths d.kids+1:=by cases d;rfl
theorem okAll_eq (d:PC):d.okAll=((shapeOK d&&seqOK d)&&okAlls d.kids):=by cases d;rfl
theorem uZ:(∀ d:PC,d.depth≤d.cnt+1∧1≤d.depth)∧∀ ds:List PC,depths ds≤cnts ds:=by
 refine ind (fun ds ih=>?_) (fun d ih=>?_)
 ·induction ds with
  |nil=>simp [depths,cnts]
  |cons x r ihr=>
   have h1:=ih x (by simp);have h2:=ihr fun y hy=>ih y (by simp [hy]);unfold depths cnts;omega
 ·have:=G0 d.kids;rw [vA,cnt_eq];omega
mutual
def bnds:PC→LI
 |.mk _ _ p _ ks=>p++bndsL ks
def bndsL:List PC→LI
 | []=>[]
 |c::r=>bnds c++bndsL r
end
theorem bnds_eq (c:PC):bnds c=c.params++bndsL c.kids:=by cases c;rfl
theorem rL:(∀ c:PC,(bnds c).length≤wK c)∧∀ ds:List PC,(bndsL ds).length≤wKs ds:=by
 refine ind (fun ds h=>?_) (fun d h=>?_)
 ·induction ds with
  |nil=>simp [bndsL]
  |cons x r ih=>have:=h x (by simp);have:=ih (fun y hy=>h y (by simp [hy]));unfold bndsL wKs;simp;omega
 ·rw [bnds_eq,fL];simp;omega
def freeOne (c:PC)(b o:LI):LI:=if(named c&&(!b.contains c.number&&!o.contains c.number))=true then o++[c.number]else o
mutual
def free:PC→LI→LI→LI
 |.mk k n p d ks,b,o=>frees ks (b++p) (freeOne (.mk k n p d ks) b o)
def frees:List PC→LI→LI→LI
 | [],_,o=>o
 |c::r,b,o=>frees r b (free c b o)
end
theorem ar1 (c:PC)(b o:LI):free c b o=frees c.kids (b++c.params) (freeOne c b o):=by cases c;rfl
theorem freeOne_len (c:PC)(b o:LI):(freeOne c b o).length≤o.length+1:=by unfold freeOne;split<;>simp
theorem ab4:(∀ (c:PC) (b o:LI),(free c b o).length≤o.length+1+cnt c)∧∀(ds:List PC) (b o:LI),(frees ds b o).length≤o.length+cnts ds:=by
 refine ind (fun ds h=>?_) (fun d h=>?_)
 ·induction ds with
  |nil=>intro b o;simp [frees,cnts]
  |cons x r ih=>
   intro b o;have h1:=h x (by simp) b o;have h2:=ih (fun y hy=>h y (by simp [hy])) b (free x b o);unfold frees cnts;omega
 ·intro b o;have h1:=freeOne_len d b o;have h2:=h (b++d.params) (freeOne d b o);rw [ar1,cnt_eq];omega
def uniq:LI→LI→Bool
 |_,[]=>true
 |s,x::r=>inside x 0 99999&&(!s.contains x&&uniq (s++[x]) r)
mutual
def subst (x:Int)(s:PC):PC→PC
 |.mk k n p d ks=>if k=2∧n=x then s else .mk k n p d (substs x s ks)
def substs (x:Int)(s:PC):List PC→List PC
 | []=>[]
 |c::r=>subst x s c::substs x s r
end
theorem dZ (x:Int)(s:PC):∀ ds:List PC,substs x s ds=ds.map (subst x s)
 | []=>rfl
 |d::r=>by simp [substs,dZ x s r]
theorem nT (x:Int)(s c:PC):subst x s c=if c.kind=2∧c.number=x then s else .mk c.kind c.number c.params c.datum (c.kids.map (subst x s)):=by cases c;rw [← dZ];rfl
theorem subst_nice (x:Int)(s:PC)(hs:s.nice):(∀ c:PC,c.nice→(subst x s c).nice)∧∀ ds:List PC,nices ds→nices (substs x s ds):=by
 refine ind (fun ds h hd=>?_) (fun d h hd=>?_)
 ·rw [dZ];exact ac1 fun y hy=>by
   obtain⟨z,hz,rfl⟩:=List.mem_map.1 hy;exact h z hz (gQ hd hz)
 ·rw [nT];have hd':=(A4 d).1 hd;split
  ·exact hs
  ·exact (A4 _).2 ⟨hd'.1,hd'.2.1,by show(d.kids.map _).length≤_;rw [List.length_map];exact hd'.2.2.1,by have:=h hd'.2.2.2;rw [dZ]at this;exact this⟩
theorem subst_cnt (x:Int)(s:PC)(hs:s.cnt=0):(∀ c:PC,(subst x s c).cnt≤c.cnt)∧∀ ds:List PC,cnts (substs x s ds)≤cnts ds:=by
 refine ind (fun ds h=>?_) (fun d h=>?_)
 ·induction ds with
  |nil=>exact Nat.le_refl _
  |cons y r ih=>have:=h y (by simp);have:=ih (fun y hy=>h y (by simp [hy]));unfold substs cnts;omega
 ·rw [nT];split
  ·omega
  ·rw [dZ]at h;rw [cnt_eq d];exact h
theorem subst_wK (x:Int)(s:PC):(∀ c:PC,wK (subst x s c)≤wK c+(1+c.cnt) * wK s)∧∀ ds:List PC,wKs (substs x s ds)≤wKs ds+cnts ds * wK s:=by
 refine ind (fun ds h=>?_) (fun d h=>?_)
 ·induction ds with
  |nil=>simp [substs,wKs,cnts]
  |cons y r ih=>
   have h1:=h y (by simp);have h2:=ih (fun y hy=>h y (by simp [hy]));unfold substs wKs cnts;rw [Nat.add_mul (1+y.cnt)];omega
 ·rw [nT];split
  ·rw [Nat.add_mul,Nat.one_mul];omega
  ·rw [dZ]at h;rw [fL d,cnt_eq d,Nat.add_mul,Nat.one_mul];show d.params.length+wD d.datum+wKs (d.kids.map (subst x s))≤_;omega
end PC
end Go.Abs

namespace Go.Abs
open PC
theorem RF_cntK {c:PC}(h:c.cnt≤1000000000000):c.cnt<RF:=by rw [RF_eq];omega
theorem R4 {c:PC}{i:Nat}(hi:i<c.kids.length):(c.kids[i]).cnt<c.cnt:=X5 (List.getElem_mem hi)
theorem wF {α β R:Type}{L:(Int×List β→Option R)→Int×List β→Option R}(f:α→β)(F:List β→Option R)(xs:List α)(hn:xs.length≤1048576)
 (step:∀ go (i:Nat) o (hi:i<xs.length),o.length=i→L go ((i:Int),o)=go ((i:Int)+1,o++[f xs[i]])) (fin:∀ go o,L go ((xs.length:Int),o)=F o):
 itr L LF (0,[])=F (xs.map f):=by
 rw [F3 (L:=L) xs.length (fun i o=>o.length=i) (fun i o=>F (o++(xs.drop i).map f)) (by omega) (fun go i o hi ho hgo=>?_) (fun go o ho=>?_) (by simp)]
 ·simp
 ·rw [step go i o hi ho,hgo _ (by simp [ho]),List.drop_eq_getElem_cons hi,List.map_cons,List.append_assoc];rfl
 ·rw [fin];simp
theorem bM (l:LI)(h:l.length≤1000000000):bA l=some l:=by unfold bA;rw [l8 (by simp;omega)];rfl
theorem kids_len (c:PC):c.kids.length≤wK c:=by
 have h1:=cnts_len c.kids;have h2:=kS.2 c.kids;rw [fL];omega
theorem aw1 {ds:List PC}{i:Nat}(h:i<ds.length):wKs (ds.drop i)=1+wK ds[i]+wKs (ds.drop (i+1)):=by rw [List.drop_eq_getElem_cons h,wKs]
theorem an8 {E:PC→LI→Option (LI)}{L:(Int×LI→Option (LI))→Int×LI→Option (LI)}(c:PC)(out:LI)(hn:c.kids.length≤1048576)(ho:out.length+wKs c.kids≤1000000000)
 (hE:∀(i:Nat) (h:i<c.kids.length) (o:LI),o.length+wK c.kids[i]≤1000000000→E c.kids[i] o=some (o++bnds c.kids[i]))
 (hL:∀ go (i:Int) o,L go (i,o)=if i<(c.kids.length:Int)then bnd (nth c.kids i) fun x=>bnd (E x o) fun y=>chk (I64 (i+1)) (go (i+1,y))else some o):
 itr L LF (0,out)=some (out++bndsL c.kids):=by
 rw [F3 (L:=L) c.kids.length (fun i o=>o.length+wKs (c.kids.drop i)≤1000000000) (fun i o=>some (o++bndsL (c.kids.drop i))) (by omega) (fun go i o hi ho hgo=>?_) (fun go o ho=>?_) (by simpa using ho)]
 ·rw [List.drop_zero]
 ·have hw:=aw1 hi;have hb:=rL.1 c.kids[i];rw [hL,if_pos (by omega),t0 hi,f9,hE i hi o (by omega),f9,l8 (by omega),hgo _ (by rw [List.length_append];omega),List.drop_eq_getElem_cons hi,bndsL,List.append_assoc]
 ·rw [hL,if_neg (by omega),List.drop_length];simp [bndsL]
theorem zB:∀(n:Nat) (c:PC) (out:LI),c.cnt<n→c.nice→out.length+wK c≤1000000000→E6 n c out=some (out++bnds c)
 |0,d,_,h,_,_=>by omega
 |n+1,c,out,h,hc,ho=>by
  show gD (E6 n) c out=_;unfold gD;have hc':=(A4 c).1 hc;have hw:=fL c;rw [l8 (by omega),an8 (L:=pK (E6 n) c) (E:=E6 n) c (out++c.params) hc'.2.2.1 (by rw [List.length_append];omega) (fun i hi o ho=>zB n _ o (by have:=R4 hi;omega) (B8 hc (List.getElem_mem hi)) ho) (fun go i o=>rfl),bnds_eq,List.append_assoc]
theorem jA:∀(n:Nat) (c:PC) (out:LI),c.cnt<n→c.nice→out.length+wK c≤1000000000→C7 n c out=some (out++bnds c)
 |0,d,_,h,_,_=>by omega
 |n+1,c,out,h,hc,ho=>by
  show gY (C7 n) c out=_;unfold gY;have hc':=(A4 c).1 hc;have hw:=fL c;rw [l8 (by omega),an8 (L:=qE (C7 n) c) (E:=C7 n) c (out++c.params) hc'.2.2.1 (by rw [List.length_append];omega) (fun i hi o ho=>jA n _ o (by have:=R4 hi;omega) (B8 hc (List.getElem_mem hi)) ho) (fun go i o=>rfl),bnds_eq,List.append_assoc]
theorem fX (c:PC)(h:c.nice)(hw:wK c≤1048576):N9 c=some (bnds c):=by
 unfold N9;rw [zB RF c [] (RF_cntK (by have:=kS.1 c;omega)) h (by simp;omega),f9,List.nil_append]
theorem scope_loop {L:(Int→Option Bool)→Int→Option Bool}(l:LI)(x:Int)(h:l.length≤1000000000000)(hL:∀ go (i:Int),L go i=if i<(l.length:Int)then bnd (nth l i) fun y=>if y=x then some true else chk (I64 (i+1)) (go (i+1))else some false):itr L LF 0=some (l.contains x):=by
 rw [fG (L:=L) l.length (fun i=>some ((l.drop i).contains x)) (by omega) (fun go i hi hgo=>?_) (fun go=>?_)]
 ·rw [List.drop_zero]
 ·rw [hL,if_pos (by omega),t0 hi,f9,l8 (by omega),hgo,List.drop_eq_getElem_cons hi,List.contains_cons];by_cases hx:l[i]=x
  ·simp [hx]
  ·have:¬ x=l[i]:=fun h=>hx h.symm;simp [hx,this]
 ·rw [hL,if_neg (by omega),List.drop_length];rfl
theorem J1 (l:LI)(x:Int)(h:l.length≤1000000000000):I8 l x=some (l.contains x):=scope_loop l x h fun go i=>rfl
theorem qL (c:PC):eV c=some (named c):=by
 unfold eV named;by_cases h:c.kind=2<;>simp [h]
theorem ao4 {E:PC→LI→LI→Option (LI)}{L:(Int×LI→Option (LI))→Int×LI→Option (LI)}(c:PC)(b out:LI)(hn:c.kids.length≤1048576)(ho:out.length+cnts c.kids≤1000000000)
 (hE:∀(i:Nat) (h:i<c.kids.length) (o:LI),o.length+1+cnt c.kids[i]≤1000000000→E c.kids[i] b o=some (free c.kids[i] b o))
 (hL:∀ go (i:Int) o,L go (i,o)=if i<(c.kids.length:Int)then bnd (nth c.kids i) fun x=>bnd (E x b o) fun y=>chk (I64 (i+1)) (go (i+1,y))else some o):
 itr L LF (0,out)=some (frees c.kids b out):=by
 rw [F3 (L:=L) c.kids.length (fun i o=>o.length+cnts (c.kids.drop i)≤1000000000) (fun i o=>some (frees (c.kids.drop i) b o)) (by omega) (fun go i o hi ho hgo=>?_) (fun go o ho=>?_) (by simpa using ho)]
 ·rw [List.drop_zero]
 ·rw [List.drop_eq_getElem_cons hi,cnts]at ho;have hb:=ab4.1 c.kids[i] b o;rw [hL,if_pos (by omega),t0 hi,f9,hE i hi o (by omega),f9,l8 (by omega),hgo _ (by omega),List.drop_eq_getElem_cons hi,frees]
 ·rw [hL,if_neg (by omega),List.drop_length];simp [frees]
theorem aj7:∀(n:Nat) (c:PC) (b out:LI),c.cnt<n→c.nice→b.length+wK c≤1000000000→out.length+1+cnt c≤1000000000→z9 n c b out=some (free c b out)
 |0,d,_,_,h,_,_,_=>by omega
 |n+1,c,b,out,h,hc,hb,ho=>by
  show lJ (z9 n) c b out=_;unfold lJ;have hc':=(A4 c).1 hc;have hw:=fL c;have hcc:=cnt_eq c;have hJ2:∀ o:LI,o.length+cnt c≤1000000000→bP (z9 n) c b o=some (frees c.kids (b++c.params) o):=fun o ho=>by
   unfold bP;rw [bM _ (by omega),f9,l8 (by omega),ao4 (L:=uE (z9 n) c b) (E:=z9 n) c (b++c.params) o hc'.2.2.1 (by omega) (fun i hi o ho=>aj7 n _ _ o (by have:=R4 hi;omega) (B8 hc (List.getElem_mem hi)) (by have:=nV (List.getElem_mem hi);rw [List.length_append];omega) ho) (fun go i o=>rfl)]
  have hJ1:∀ x,Z8 (z9 n) c b out x=some (frees c.kids (b++c.params) (if x=true then out++[c.number]else out)):=fun x=>by
   unfold Z8;cases x
   ·exact hJ2 out (by omega)
   ·rw [if_pos rfl,if_pos rfl,l8 (by simp;omega)];exact hJ2 _ (by simp;omega)
  rw [qL,f9,J1 _ _ (by omega),J1 _ _ (by omega),f9,f9];simp only [hJ1];rw [ar1];unfold freeOne;cases named c<;>cases b.contains c.number<;>cases out.contains c.number<;>rfl
theorem iY (c:PC)(hc:c.nice)(hb:wK c≤40000000):J5 c=some (free c [] []):=by
 unfold J5 xD;have hc':=(A4 c).1 hc;have hw:=fL c;have hcc:=cnt_eq c;have hcw:=kS.1 c;have hJ2:∀ o:LI,o.length≤1→Z7 c [] o=some (frees c.kids ([]++c.params) o):=fun o ho=>by
  unfold Z7;rw [bM _ (by simp),f9,l8 (by simp;omega),ao4 (L:=qJ c []) (E:=z9 RF) c ([]++c.params) o hc'.2.2.1 (by omega) (fun i hi o ho=>aj7 RF _ _ o (RF_cntK (by have:=R4 hi;omega)) (B8 hc (List.getElem_mem hi)) (by have:=nV (List.getElem_mem hi);rw [List.length_append];simp;omega) ho) (fun go i o=>rfl)]
 have hJ1:∀ x,S9 c [] [] x=some (frees c.kids ([]++c.params) (if x=true then []++[c.number]else [])):=fun x=>by
  unfold S9;cases x
  ·exact hJ2 [] (by simp)
  ·rw [if_pos rfl,if_pos rfl,l8 (by simp)];exact hJ2 _ (by simp)
 rw [qL,f9,J1 _ _ (by simp),f9];simp only [hJ1];rw [ar1];unfold freeOne;cases named c<;>rfl
theorem nN (l:LI)(h:l.length≤1000000000000):dT l=some (uniq [] l):=by
 unfold dT;rw [fG (L:=nM l) l.length (fun i=>some (uniq (l.take i) (l.drop i))) (by omega) (fun go i hi hgo=>?_) (fun go=>?_)]
 ·rfl
 ·show P9 l go i=_;unfold P9;rw [if_pos (by omega),t0 hi,f9,Z1,f9,l8 (by omega),J1 _ _ (by rw [List.length_take];omega),f9,l8 (by omega),hgo,Int.toNat_natCast,List.drop_eq_getElem_cons hi,uniq,List.take_add_one,List.getElem?_eq_getElem hi];cases inside l[i] 0 99999<;>cases (l.take i).contains l[i]<;>rfl
 ·show P9 l go _=_;unfold P9;rw [if_neg (by omega),List.drop_length];simp [uniq]
theorem ite2 {p:Prop} [Decidable p] {a b:Option Bool}{x y:Bool}(h1:p→a=some x)(h2:¬p→b=some y):(if p then a else b)=some (if p then x else y):=by
 by_cases h:p
 ·rw [if_pos h,if_pos h,h1 h]
 ·rw [if_neg h,if_neg h,h2 h]
theorem toZero:PD.mk 0 0 ([]:LB) []=zeroDat:=rfl
theorem s_l5Shape_eq (c:PC)(h:c.nice):qN c=some (shapeOK c):=by
 have hp:bnd o7 (fun x3=>chk (I64 ((x3.length:Int)-1))<|bnd (dG c.number 0 ((x3.length:Int)-1)) fun x4=>some x4)=some (inside c.number 0 13):=by
  unfold o7;rw [f9,l8 (by simp;omega),Z1,f9];rfl
 have hJ:∀ b,I1 c b=some (!b&&(if c.kind=1 then decide ((c.params.length:Int)=0)&&(decide ((c.kids.length:Int)=0)&&c.datum.valid)
 else if c.kind=2 then decide ((c.params.length:Int)=0)&&decide ((c.kids.length:Int)=0)
 else if c.kind=3 then decide ((c.params.length:Int)=0)&&(decide ((c.kids.length:Int)=0)&&inside c.number 0 13)
 else if c.kind=4 then decide ((c.params.length:Int)=0)&&decide ((c.kids.length:Int)=1)
 else if c.kind=5 then decide ((c.params.length:Int)≤8)&&decide ((c.kids.length:Int)=1)
 else if c.kind=6 then decide ((c.params.length:Int)=0)&&inside (c.kids.length:Int) 1 9
 else if c.kind=7 then decide ((c.params.length:Int)=0)&&decide ((c.kids.length:Int)=3)
 else if c.kind=8 then decide ((c.params.length:Int)=0)&&inside (c.kids.length:Int) 2 60
 else if c.kind=9 then inside (c.params.length:Int) 1 60&&inside (c.kids.length:Int) 1 60
 else if c.kind=10 then decide ((c.params.length:Int)=0)&&decide ((c.kids.length:Int)=1)
 else if c.kind=11 then decide ((c.params.length:Int)=1)&&decide ((c.kids.length:Int)=1)
 else false)):=fun b=>by
  unfold I1;rw [hp,s_IsDatum_eq _ (J9 h),Z1,Z1,Z1,Z1];simp only [f9];generalize inside (c.kids.length:Int) 1 9=y1;generalize inside (c.kids.length:Int) 2 60=y2;generalize inside (c.kids.length:Int) 1 60=y3;generalize inside (c.params.length:Int) 1 60=y4;generalize inside c.number 0 13=y5;generalize c.datum.valid=y6;cases b
  ·rw [if_neg (by simp),Bool.not_false,Bool.true_and];iterate 11 (refine ite2 (fun _=>?_) fun _=>?_;rotate_left)
   all_goals (repeat' split)<;>simp_all
  ·rfl
 unfold qN shapeOK;rw [sO RF _ _ (RF_cnt (J9 h)) (J9 h),qL,toZero];simp only [f9,hJ];generalize (if c.kind=1 then decide ((c.params.length:Int)=0)&&(decide ((c.kids.length:Int)=0)&&c.datum.valid)else _)=z;generalize PD.eqb c.datum zeroDat=w;generalize named c=y;by_cases h1:c.kind=1<;>by_cases h2:c.number=0<;>cases w<;>cases y<;>simp [h1,h2]
theorem xX (c:PC)(hn:c.kids.length≤1048576):itr (eD c) LF 0=some (c.kids.all fun x=>!decide (x.kind=8)):=by
 rw [yE (L:=eD c) c.kids (fun x=>!decide (x.kind=8)) (some true) (some false) (by omega) (fun go i hi=>?_) (fun go=>?_)]
 ·cases c.kids.all fun x=>!decide (x.kind=8)<;>rfl
 ·show M7 c go i=_;unfold M7;rw [if_pos (by omega),t0 hi,f9,l8 (by omega)];by_cases h:c.kids[i].kind=8<;>simp [h]
 ·show M7 c go _=_;unfold M7;rw [if_neg (by omega)]
theorem al8 (c:PC)(h:c.nice):gG c=some (shapeOK c&&seqOK c):=by
 have hc':=(A4 c).1 h;have hp:bnd z7 (fun x4=>some (decide (c.number<(x4.length:Int))))=some (decide (c.number≤13)):=by
  unfold z7;rw [f9];show some (decide (c.number<(14:Int)))=_;congr 1;exact decide_eq_decide.2 (by omega)
 have hJ:∀ b,E7 c b=some (if c.kind=1 then !b&&(decide ((c.params.length:Int)=0)&&(decide ((c.kids.length:Int)=0)&&c.datum.valid))
 else if c.kind=2 then !b&&(decide ((c.params.length:Int)=0)&&decide ((c.kids.length:Int)=0))
 else if c.kind=3 then !b&&(decide ((c.params.length:Int)=0)&&(decide ((c.kids.length:Int)=0)&&inside c.number 0 13))
 else if c.kind=4 then !b&&(decide ((c.params.length:Int)=0)&&decide ((c.kids.length:Int)=1))
 else if c.kind=5 then !b&&(decide ((c.params.length:Int)≤8)&&decide ((c.kids.length:Int)=1))
 else if c.kind=6 then !b&&(decide ((c.params.length:Int)=0)&&inside (c.kids.length:Int) 1 9)
 else if c.kind=7 then !b&&(decide ((c.params.length:Int)=0)&&decide ((c.kids.length:Int)=3))
 else if c.kind=8 then !b&&((decide ((c.params.length:Int)=0)&&inside (c.kids.length:Int) 2 60)&&c.kids.all fun x=>!decide (x.kind=8))
 else if c.kind=9 then !b&&(inside (c.params.length:Int) 1 60&&inside (c.kids.length:Int) 1 60)
 else if c.kind=10 then !b&&(decide ((c.params.length:Int)=0)&&decide ((c.kids.length:Int)=1))
 else if c.kind=11 then !b&&(decide ((c.params.length:Int)=1)&&decide ((c.kids.length:Int)=1))
 else false):=fun b=>by
  unfold E7;rw [hp,i_IsDatum_eq _ (J9 h),xX c hc'.2.2.1];simp only [f9];generalize (c.kids.all fun x=>!decide (x.kind=8))=y5;generalize c.datum.valid=y6;unfold inside;cases b
  ·rw [if_neg (by simp)];iterate 11 (refine ite2 (fun _=>?_) fun _=>?_;rotate_left)
   all_goals (repeat' split)<;>simp_all<;>omega
  ·rw [if_pos rfl];simp only [Bool.not_true,Bool.false_and,ite_self]
 have hJ1:∀ b,P6 c b=(if b=true then some false else E7 c (!(decide (c.number=0)||(named c||decide (c.kind=3))))):=fun b=>by
  unfold P6 named;cases b
  ·by_cases h1:c.number=0<;>by_cases h2:c.kind=2<;>by_cases h3:c.kind=3<;>by_cases h4:c.kind=4<;>simp [h1,h2,h3,h4]
  ·rfl
 have hx:∀ w,(!decide (c.kind=1)&&!w)=false→E7 c (!(decide (c.number=0)||(named c||decide (c.kind=3))))=some (((decide (c.kind=1)||w)&&((decide (c.number=0)||(named c||decide (c.kind=3)))&&
 (if c.kind=1 then decide ((c.params.length:Int)=0)&&(decide ((c.kids.length:Int)=0)&&c.datum.valid)
 else if c.kind=2 then decide ((c.params.length:Int)=0)&&decide ((c.kids.length:Int)=0)
 else if c.kind=3 then decide ((c.params.length:Int)=0)&&(decide ((c.kids.length:Int)=0)&&inside c.number 0 13)
 else if c.kind=4 then decide ((c.params.length:Int)=0)&&decide ((c.kids.length:Int)=1)
 else if c.kind=5 then decide ((c.params.length:Int)≤8)&&decide ((c.kids.length:Int)=1)
 else if c.kind=6 then decide ((c.params.length:Int)=0)&&inside (c.kids.length:Int) 1 9
 else if c.kind=7 then decide ((c.params.length:Int)=0)&&decide ((c.kids.length:Int)=3)
 else if c.kind=8 then decide ((c.params.length:Int)=0)&&inside (c.kids.length:Int) 2 60
 else if c.kind=9 then inside (c.params.length:Int) 1 60&&inside (c.kids.length:Int) 1 60
 else if c.kind=10 then decide ((c.params.length:Int)=0)&&decide ((c.kids.length:Int)=1)
 else if c.kind=11 then decide ((c.params.length:Int)=1)&&decide ((c.kids.length:Int)=1)
 else false)))&&seqOK c):=fun w hw=>by
  have hw':(decide (c.kind=1)||w)=true:=by
   revert hw;clear hJ hJ1 hp;generalize decide (c.kind=1)=q;cases w<;>cases q<;>simp
  rw [hJ,hw',Bool.not_not,Bool.true_and];unfold seqOK;generalize (decide (c.number=0)||(named c||decide (c.kind=3)))=u;generalize (c.kids.all fun x=>!decide (x.kind=8))=y5;congr 1;by_cases h8:c.kind=8
  ·have n1:¬ c.kind=1:=by omega
   have n2:¬ c.kind=2:=by omega
   have n3:¬ c.kind=3:=by omega
   have n4:¬ c.kind=4:=by omega
   have n5:¬ c.kind=5:=by omega
   have n6:¬ c.kind=6:=by omega
   have n7:¬ c.kind=7:=by omega
   rw [if_neg n1,if_neg n2,if_neg n3,if_neg n4,if_neg n5,if_neg n6,if_neg n7,if_pos h8,if_neg n1,if_neg n2,if_neg n3,if_neg n4,if_neg n5,if_neg n6,if_neg n7,if_pos h8,decide_eq_true h8,Bool.not_true,Bool.false_or];simp only [Bool.and_assoc]
  ·rw [if_neg h8,if_neg h8,decide_eq_false h8,Bool.not_false,Bool.true_or,Bool.and_true];cases u
   ·simp only [Bool.false_and,ite_self]
   ·simp only [Bool.true_and]
 unfold gG shapeOK;rw [sG RF _ _ (RF_cnt (J9 h)) (J9 h),toZero];simp only [f9,hJ1];by_cases h1:c.kind=1
 ·rw [if_pos h1,if_neg (by simp)];exact hx (PD.eqb c.datum zeroDat) (by simp [h1])
 ·rw [if_neg h1];cases hw:PD.eqb c.datum zeroDat
  ·simp [h1]
  ·rw [if_neg (by simp)];exact hx true (by simp)
theorem sK:∀(n:Nat) (c:PC) (deep nodes:Int),c.cnt<n→c.nice→0≤deep→deep≤151→0≤nodes→nodes≤3000→z4 n c deep nodes=some (meas c deep nodes)
 |0,d,_,_,h,_,_,_,_,_=>by omega
 |n+1,d,deep,nodes,h,hd,h1,h2,h3,h4=>by
  show cM (z4 n) d deep nodes=_;unfold cM;rw [meas_eq,l8 (by omega)];by_cases h5:deep>150
  ·rw [if_pos h5,if_pos (.inl h5)]
  ·rw [if_neg h5];by_cases h6:nodes+1>3000
   ·rw [if_pos h6,if_pos (.inr (.inl h6))]
   ·rw [if_neg h6,al8 d hd,f9];cases h7:shapeOK d&&seqOK d
    ·simp
    ·rw [if_pos rfl,if_neg (by simp;omega)];have hs:=((A4 d).1 hd).2.2.1;rw [F3 (L:=jU (z4 n) d deep) d.kids.length (fun i a=>0≤a∧a≤3000) (fun i a=>some (measL (d.kids.drop i) (deep+1) a)) (by omega) (fun go i a hi ha hgo=>?_) (fun go a ha=>?_) (by omega)]
     ·rfl
     ·show M6 (z4 n) d deep go i a=_;unfold M6;rw [if_pos (by omega),t0 hi,f9,l8 (by omega),sK n _ _ _ (by have:=R4 hi;omega) (B8 hd (List.getElem_mem hi)) (by omega) (by omega) ha.1 ha.2,f9];rw [List.drop_eq_getElem_cons hi,measL];by_cases h8:(meas d.kids[i] (deep+1) a).1=true
      ·rw [if_pos h8,if_pos h8,l8 (by omega),hgo];have:=(pQ.1 d.kids[i] (deep+1) a)
       have h9:=this.1.1 h8;have h10:=this.2 h8;omega
      ·rw [if_neg h8,if_neg h8]
     ·show M6 (z4 n) d deep go _ a=_;unfold M6;rw [if_neg (by omega),List.drop_length];rfl
theorem s_l5Few_eq (n:Nat):∀(d:PC) (left:Int),d.cnt<n→d.nice→0≤left→left≤3000→J0 n d left=some (decide (0≤few d left),few d left):=by
 induction n with
 |zero=>intro d _ h;omega
 |succ n ih=>
  intro d left h hd h1 h2;show qI (J0 n) d left=_;unfold qI;rw [few_eq,l8 (by omega)];have hs:=((A4 d).1 hd).2.2.1;rw [F3 (L:=yP (J0 n) d) d.kids.length (fun i a=> -1≤a∧a≤3000) (fun i a=>some (decide (0≤fews (d.kids.drop i) a),fews (d.kids.drop i) a)) (by omega) (fun go i a hi ha hgo=>?_) (fun go a ha=>?_) (by omega)]
  ·rw [List.drop_zero]
  ·show bO (J0 n) d go i a=_;unfold bO dR;rw [if_pos (by omega),List.drop_eq_getElem_cons hi,fews];by_cases h0:0≤a
   ·rw [if_pos (by simpa using h0),if_pos h0,t0 hi];rw [f9];rw [ih _ _ (by have:=R4 hi;omega) (B8 hd (List.getElem_mem hi)) h0 ha.2];rw [f9];have:=(vF.1 d.kids[i] a h0).1;generalize few d.kids[i] a=z at this ⊢;rw [l8 (by omega),hgo _ (by omega)]
   ·rw [if_neg (by simpa using h0),if_neg h0]
  ·show bO (J0 n) d go _ a=_;unfold bO dR;rw [if_neg (by omega),List.drop_length];simp only [fews,Bool.false_eq_true,if_false];rfl
theorem fK (n:Nat):∀(d:PC),d.cnt<n→d.nice→d.cnt≤1048576→s6 n d=some d.depth:=by
 induction n with
 |zero=>intro d h;omega
 |succ n ih=>
  intro d h hd hc;show R7 (s6 n) d=_;unfold R7;have hs:=((A4 d).1 hd).2.2.1;have hmax:∀ x∈d.kids,0≤x.depth∧x.depth≤1048577:=fun x hx=>by
   have h1:=uZ.1 x;have h2:=X5 hx;omega
  rw [ab6 (L:=fJ (s6 n) d) d.kids.length (fun i a=>0≤a∧a≤1048577) (fun i a=>some (max a (depths (d.kids.drop i))+1)) (by omega) (fun go i a hi ha hgo=>?_) (fun go a ha=>?_) (by omega)]
  ·rw [vA,List.drop_zero];have:=G0 d.kids;rw [Int.max_eq_right this]
  ·show I7 (s6 n) d go a i=_;unfold I7;have hx:=hmax _ (List.getElem_mem hi);rw [if_pos (by omega),t0 hi];rw [f9];rw [ih _ (by have:=R4 hi;omega) (B8 hd (List.getElem_mem hi)) (by have:=R4 hi;omega)];rw [f9];rw [List.drop_eq_getElem_cons hi,depths];generalize depth d.kids[i]=z at hx ⊢;rw [l8 (by omega),hgo _ (by omega),Int.max_assoc]
  ·show I7 (s6 n) d go a _=_;unfold I7;rw [if_neg (by omega),List.drop_length,l8 (by omega)];simp only [depths];rw [Int.max_eq_left ha.1]
theorem zP:∀(n:Nat) (d:PC),d.cnt<n→d.nice→E3 n d=some d.okAll
 |0,d,h,_=>by omega
 |n+1,d,h,hd=>by
  show hO (E3 n) d=_;unfold hO;have hs:=((A4 d).1 hd).2.2.1;rw [okAll_eq,fG (L:=qM (E3 n) d) d.kids.length (fun i=>some (okAlls (d.kids.drop i)&&((!decide (d.kind=8)||(d.kids.drop i).all fun x=>!decide (x.kind=8))&&shapeOK d))) (by omega) (fun go i hi hgo=>?_) (fun go=>?_)]
  ·rw [List.drop_zero];unfold seqOK;generalize okAlls d.kids=a;generalize shapeOK d=b;generalize (!decide (d.kind=8)||d.kids.all fun x=>!decide (x.kind=8))=e;cases a<;>cases b<;>cases e<;>rfl
  ·show V0 (E3 n) d go i=_;unfold V0 Z9;rw [if_pos (by omega),t0 hi,f9];rw [zP n _ (by have:=R4 hi;omega) (B8 hd (List.getElem_mem hi)),f9];rw [l8 (by omega),hgo,List.drop_eq_getElem_cons hi,okAlls,List.all_cons];by_cases h8:d.kind=8<;>by_cases h9:d.kids[i].kind=8<;>cases okAll d.kids[i]<;>simp [h8,h9]
  ·show V0 (E3 n) d go _=_;unfold V0;rw [if_neg (by omega),List.drop_length,s_l5Shape_eq _ hd];simp [okAlls]
end Go.Abs

namespace Go.Abs
open PC
theorem mget_nil {α:Type} [DecidableEq α] (x:α):mget ([]:List (α×Int)) x=0:=rfl
theorem ao8 {α β:Type} [DecidableEq α] (k x:α)(v:β):∀ m:List (α×β),mlook (mput m k v) x=if x=k then some v else mlook m x
 | []=>by unfold mput mlook;rfl
 |p::r=>by
  unfold mput;by_cases h:k=p.1
  ·rw [if_pos h];unfold mlook;by_cases h2:x=k
   ·rw [if_pos h2,if_pos h2]
   ·rw [if_neg h2,if_neg h2,if_neg (by rw [← h];exact h2)]
  ·rw [if_neg h];unfold mlook;by_cases h2:x=p.1
   ·rw [if_pos h2,if_neg (by rw [h2];exact fun e=>h e.symm),if_pos h2]
   ·rw [if_neg h2,if_neg h2,ao8 k x v r]
theorem pR {α:Type} [DecidableEq α] (m:List (α×Int))(k x:α)(v:Int):mget (mput m k v) x=if x=k then v else mget m x:=by
 unfold mget;rw [ao8];split<;>rfl
def holds (m:MI)(s:LI):Prop:=∀ x,mget m x=if s.contains x=true then 1 else 0
theorem vN:holds [] []:=fun x=>rfl
theorem holds_put {m:MI}{s:LI}(h:holds m s)(y:Int):holds (mput m y 1) (s++[y]):=fun x=>by
 rw [pR,h x];by_cases e:x=y<;>by_cases e2:s.contains x=true<;>simp_all
theorem holds_1 {m:MI}{s:LI}(h:holds m s)(y:Int):(mget m y=1)=(s.contains y=true):=by
 rw [h y];split<;>simp_all
theorem holds_0 {m:MI}{s:LI}(h:holds m s)(y:Int):(mget m y=0)=(s.contains y=false):=by
 rw [h y];split<;>simp_all
def difM:MI→LI→Option (MI)
 |m,[]=>some m
 |m,x::r=>if inside x 0 99999=true∧¬ mget m x=1 then difM (mput m x 1) r else none
def difL:MI→List (LI)→Bool
 |_,[]=>true
 |m,l::r=>match difM m l with |none=>false|some m2=>difL m2 r
theorem vB:∀(l t s:LI) (m:MI),holds m s→(difM m l=none→uniq s (l++t)=false)∧∀ m2,difM m l=some m2→holds m2 (s++l)∧uniq s (l++t)=uniq (s++l) t
 | [],t,s,m,h=>⟨fun h=>by simp [difM]at h,fun m2 e=>by
  have:m=m2:=Option.some.inj e;subst this;rw [List.append_nil];exact⟨h,rfl⟩⟩
 |x::r,t,s,m,h=>by
  have ih:=vB r t (s++[x]) (mput m x 1) (holds_put h x);unfold difM;rw [List.cons_append,uniq];have h1:=holds_1 h x;by_cases hx:inside x 0 99999=true∧¬ mget m x=1
  ·rw [if_pos hx];have h2:s.contains x=false:=by
    have:=hx.2;rw [h1]at this;simpa using this
   rw [hx.1,h2];have e:s++x::r=s++[x]++r:=by simp
   rw [e];exact ih
  ·rw [if_neg hx];refine ⟨fun _=>?_,fun m2 e=>by cases e⟩;cases hi:inside x 0 99999
   ·rfl
   ·have:mget m x=1:=Classical.byContradiction fun h3=>hx ⟨hi,h3⟩;rw [h1]at this;rw [this];rfl
theorem af6 (x2:Int)(hx2:0≤x2∧x2≤100)(go4:(Int×(MI))→Option Bool)(l:LI)(hl:l.length≤1000000000000)(m:MI):itr (L5 x2 go4 l) LF (0,m)=match difM m l with |none=>some false|some m2=>go4 (x2+1,m2):=by
 rw [F3 (L:=L5 x2 go4 l) l.length (fun _ _=>True) (fun i m=>match difM m (l.drop i)with |none=>some false|some m2=>go4 (x2+1,m2)) (by omega) (fun go i m hi _ hgo=>?_) (fun go m _=>?_) trivial]
 ·rw [List.drop_zero]
 ·show A9 x2 go4 l go i m=_;unfold A9;rw [if_pos (by omega),t0 hi,f9,l8 (by omega),hgo _ trivial,List.drop_eq_getElem_cons hi,difM];unfold inside;by_cases h1:l[i]<0
  ·rw [if_pos h1,if_neg (by simp;omega)]
  ·rw [if_neg h1];by_cases h2:l[i]>99999
   ·rw [if_pos h2,if_neg (by simp;omega)]
   ·rw [if_neg h2];by_cases h3:mget m l[i]=1
    ·rw [if_pos h3,if_neg (by simp [h3])]
    ·rw [if_neg h3,if_pos (by simp [h3];omega)]
 ·show A9 x2 go4 l go _ m=_;unfold A9;rw [if_neg (by omega),List.drop_length,l8 (by omega)];rfl
theorem cN (a b:LI)(ha:a.length≤1000000000000)(hb:b.length≤1000000000000):A5 [a,b]=some (uniq [] (a++b)):=by
 unfold A5;have h:itr (D1 [a,b]) LF (0,[])=some (difL [] [a,b]):=by
  rw [F3 (L:=D1 [a,b]) 2 (fun _ _=>True) (fun i m=>some (difL m ([a,b].drop i))) (by omega) (fun go i m hi _ hgo=>?_) (fun go m _=>?_) trivial]
  ·rfl
  ·show A8 [a,b] go i m=_;unfold A8;have hi':i< [a,b].length:=hi;have hle:([a,b][i]).length≤1000000000000:=by
    have:=List.getElem_mem hi';simp only [List.mem_cons,List.not_mem_nil,or_false]at this;rcases this with h|h<;>rw [h]<;>assumption
   rw [if_pos (by simp;omega),t0 hi',f9,af6 i (by omega) go _ hle m,List.drop_eq_getElem_cons hi',difL];cases difM m [a,b][i]with
   |none=>rfl
   |some m2=>exact hgo m2 trivial
  ·rfl
 rw [h];congr 1;unfold difL;have h1:=vB a b [] [] vN;cases e:difM [] a with
 |none=>rw [h1.1 e]
 |some m2=>
  have h2:=h1.2 m2 e;rw [h2.2];show difL m2 [b]=_;unfold difL;have h3:=vB b [] ([]++a) m2 h2.1;rw [List.append_nil]at h3;cases e2:difM m2 b with
  |none=>rw [h3.1 e2]
  |some m3=>rw [(h3.2 m3 e2).2];rfl
theorem ag8 {A R:Type}{L:(Int×A→Option R)→Int×A→Option R}(n:Nat)(I:Nat→A→Prop)(Q:R→Prop)(hn:n≤9223372036854775807)
 (step:∀ go (i:Nat) a,i<n→I i a→(∀ a',I (i+1) a'→∃ r,go ((i:Int)+1,a')=some r∧Q r)→∃ r,L go ((i:Int),a)=some r∧Q r) (fin:∀ go a,I n a→∃ r,L go ((n:Int),a)=some r∧Q r) {a:A} (h0:I 0 a):∃ r,itr L LF (0,a)=some r∧Q r:=by
 refine itr_exLF Q (fun v:Int×A=>(0≤v.1∧v.1≤n)∧I v.1.toNat v.2) (fun v:Int×A=>n-v.1.toNat) (fun go v hv hgo=>?_) (0,a) ⟨⟨by omega,by omega⟩,h0⟩ (by simp;omega);obtain ⟨v1,v2⟩:=v;obtain ⟨i,rfl⟩:=Int.eq_ofNat_of_zero_le hv.1.1;show ∃ r,L go ((i:Int),v2)=some r∧Q r;have h1:(i:Int)≤n:=hv.1.2;by_cases h:i<n
 ·exact step go i v2 h hv.2 fun a' ha=>hgo ((i:Int)+1,a') ⟨⟨by show 0≤(i:Int)+1;omega,by show(i:Int)+1≤n;omega⟩,ha⟩ (by show n-((i:Int)+1).toNat<n-(i:Int).toNat;omega)
 ·have:i=n:=by omega
  subst this;exact fin go v2 hv.2
def cntm (m:MI)(B:LI):Prop:=∀ x,mget m x=(B.count x:Int)
theorem cntm_nil:cntm [] []:=fun x=>rfl
theorem cntm_up {m:MI}{B:LI}(h:cntm m B)(y:Int):cntm (mput m y (mget m y+1)) (B++[y]):=fun x=>by
 rw [pR,List.count_append];have h1:=h x;have h2:=h y;by_cases e:x=y
 ·subst e;rw [if_pos rfl,h2];simp
 ·rw [if_neg e,h1];have:List.count x [y]=0:=List.count_eq_zero.2 (by simp [e]);omega
theorem cntm_dn {m:MI}{B r:LI}{y:Int}(h:cntm m (B++y::r)):cntm (mput m y (mget m y-1)) (B++r):=fun x=>by
 have h1:=h x;have h2:=h y;rw [List.count_append,List.count_cons]at h1 h2;rw [pR,List.count_append];by_cases e:x=y
 ·subst e;rw [if_pos rfl,h2];simp only [beq_self_eq_true,if_true];omega
 ·rw [if_neg e,h1,if_neg (by simp;exact fun h=>e h.symm)];omega
theorem cntm_le {m:MI}{B:LI}(h:cntm m B)(y:Int):0≤mget m y∧mget m y≤B.length:=by
 rw [h y];have:=List.count_le_length (a:=y) (l:=B);omega
theorem cntm_0 {m:MI}{B:LI}(h:cntm m B)(y:Int):decide (mget m y=0)=!B.contains y:=by
 rw [h y];have h1:=List.count_eq_zero (a:=y) (l:=B);by_cases h2:y∈B
 ·have h3:¬ B.count y=0:=fun h=>h1.1 h h2;have h4:B.contains y=true:=by simpa using h2
  rw [h4];simp;omega
 ·have h3:=h1.2 h2;have h4:B.contains y=false:=by simpa using h2
  rw [h4,h3];rfl
def seenOK (s:Option (MI))(l:LI):Prop:=holds (s.getD []) l
theorem J7 {l:LI}{s:Option (MI)}(h:seenOK s l)(hl:l.length≤1000000000000)(x:Int):∃ s2,G2 l s x=some (if l.contains x=true then l else l++[x],s2)∧seenOK s2 (if l.contains x=true then l else l++[x]):=by
 have hJ:G2 l s x=G3 l x (s.getD []):=by
  unfold G2;cases s with
  |none=>rw [if_pos rfl];rfl
  |some m=>rw [if_neg (by simp)];rfl
 rw [hJ];unfold G3;have h0:=holds_0 h x;by_cases hx:l.contains x=true
 ·rw [if_neg (by rw [h0,hx];simp),if_pos hx];exact ⟨_,rfl,h⟩
 ·have hx':l.contains x=false:=by simpa using hx
  rw [if_pos (by rw [h0];exact hx'),if_neg hx,l8 (by simp;omega)];exact ⟨_,rfl,holds_put h x⟩
theorem mT:∀(n:Nat) (c:PC) (B:LI) (bound:MI) (list:LI) (seen:Option (MI)),c.cnt<n→c.nice→cntm bound B→seenOK seen list→B.length+wK c≤1000000000→list.length+1+cnt c≤1000000000→
 ∃ r,u6 n c bound list seen=some r∧(cntm r.1 B∧r.2.1=free c B list∧seenOK r.2.2 r.2.1)
 |0,c,_,_,_,_,h,_,_,_,_,_=>by omega
 |n+1,c,B,bound,list,seen,h,hc,hb,hs,hB,hl=>by
  show ∃ r,kX (u6 n) c bound list seen=some r∧_;have hc':=(A4 c).1 hc;have hw:=fL c;have hcc:=cnt_eq c;have h5:∀(l:LI) (s:Option (MI)) (m:MI),cntm m (B++c.params)→l=free c B list→seenOK s l→∃ r,itr (mS c l s) LF (0,m)=some r∧(cntm r.1 B∧r.2.1=free c B list∧seenOK r.2.2 r.2.1):=fun l s m hm hl hs=>by
   refine ag8 (L:=mS c l s) c.params.length (fun i m=>cntm m (B++c.params.drop i)) _ (by omega) (fun go i m hi hm hgo=>?_) (fun go m hm=>?_) (by simpa using hm)
   ·show ∃ r,Y2 c l s go i m=some r∧_;unfold Y2;have hq:=cntm_le hm c.params[i];rw [List.length_append,List.length_drop]at hq;rw [List.drop_eq_getElem_cons hi]at hm;rw [if_pos (by omega),t0 hi,f9,l8 (by omega),l8 (by omega)];exact hgo _ (cntm_dn hm)
   ·show ∃ r,Y2 c l s go _ m=some r∧_;unfold Y2;rw [List.drop_length,List.append_nil]at hm;rw [if_neg (by omega)];exact ⟨_,rfl,hm,hl,hs⟩
  have h4:∀(l:LI) (s:Option (MI)) (m:MI),cntm m (B++c.params)→frees c.kids (B++c.params) l=free c B list→l.length+cnts c.kids≤1000000000→seenOK s l→∃ r,itr (mR (u6 n) c) LF (0,m,l,s)=some r∧(cntm r.1 B∧r.2.1=free c B list∧seenOK r.2.2 r.2.1):=fun l s m hm hl hll hs=>by
   refine ag8 (L:=mR (u6 n) c) c.kids.length (fun i v=>cntm v.1 (B++c.params)∧frees (c.kids.drop i) (B++c.params) v.2.1=free c B list∧v.2.1.length+cnts (c.kids.drop i)≤1000000000∧seenOK v.2.2 v.2.1) _ (by omega) (fun go i v hi hv hgo=>?_) (fun go v hv=>?_) (by rw [List.drop_zero];exact⟨hm,hl,hll,hs⟩)
   ·obtain ⟨m,l,s⟩:=v;obtain ⟨g1,g2,g3,g4⟩:=hv;show ∃ r,Y1 (u6 n) c go i m l s=some r∧_;unfold Y1;rw [List.drop_eq_getElem_cons hi]at g2 g3;unfold frees at g2;unfold cnts at g3;simp only at g2 g3;obtain ⟨r,e1,e2,e3,e4⟩:=mT n c.kids[i] (B++c.params) m l s (by have:=R4 hi;omega) (B8 hc (List.getElem_mem hi)) g1 g4 (by have:=nV (List.getElem_mem hi);rw [List.length_append];omega) (by omega);have hfl:=ab4.1 c.kids[i] (B++c.params) l;rw [if_pos (by omega),t0 hi,f9,e1,f9,l8 (by omega)];refine hgo (r.1,r.2.1,r.2.2) ⟨e2,?_,?_,e4⟩
    ·show frees _ _ r.2.1=_;rw [e3];exact g2
    ·show r.2.1.length+_≤_;rw [e3];omega
   ·obtain ⟨m,l,s⟩:=v;obtain ⟨g1,g2,g3,g4⟩:=hv;show ∃ r,Y1 (u6 n) c go _ m l s=some r∧_;unfold Y1;rw [if_neg (by omega)];rw [List.drop_length]at g2;exact h5 l s m g1 g2 g4
  have h3:∀(l:LI) (s:Option (MI)),frees c.kids (B++c.params) l=free c B list→l.length+cnts c.kids≤1000000000→seenOK s l→∃ r,bC (u6 n) c bound l s=some r∧(cntm r.1 B∧r.2.1=free c B list∧seenOK r.2.2 r.2.1):=fun l s hl hll hs=>by
   unfold bC;refine ag8 (L:=tB (u6 n) c l s) c.params.length (fun i m=>cntm m (B++c.params.take i)) _ (by omega) (fun go i m hi hm hgo=>?_) (fun go m hm=>?_) (by simpa using hb)
   ·show ∃ r,Y0 (u6 n) c l s go i m=some r∧_;unfold Y0;have hq:=cntm_le hm c.params[i];rw [List.length_append,List.length_take]at hq;rw [if_pos (by omega),t0 hi,f9,l8 (by omega),l8 (by omega)];refine hgo _ ?_;have:=cntm_up hm c.params[i];rw [List.append_assoc]at this;rw [List.take_add_one,List.getElem?_eq_getElem hi];exact this
   ·show ∃ r,Y0 (u6 n) c l s go _ m=some r∧_;unfold Y0;rw [if_neg (by omega)];rw [List.take_length]at hm;exact h4 l s m hm hl hll hs
  have hJ:∀ x,(x=(named c&&!B.contains c.number))→∃ r,X9 (u6 n) c bound list seen x=some r∧(cntm r.1 B∧r.2.1=free c B list∧seenOK r.2.2 r.2.1):=fun x hx=>by
   unfold X9;have hfe:=ar1 c B list;unfold freeOne at hfe;cases hxx:x
   ·rw [if_neg (by simp)];refine h3 list seen ?_ (by omega) hs;rw [hfe,if_neg];rw [← Bool.and_assoc,← hx,hxx];simp
   ·rw [if_pos rfl];obtain ⟨s2,e1,e2⟩:=J7 hs (by omega) c.number;rw [e1,f9];refine h3 _ s2 ?_ ?_ e2
    ·rw [hfe,← Bool.and_assoc,← hx,hxx,Bool.true_and];cases list.contains c.number<;>rfl
    ·show List.length (if list.contains c.number=true then list else list++[c.number])+_≤_;split
     ·omega
     ·rw [List.length_append];simp;omega
  unfold kX;have h0:=cntm_0 hb c.number;unfold named at hJ;by_cases k2:c.kind=2
  ·rw [if_pos k2];exact hJ _ (by rw [h0];simp [k2])
  ·rw [if_neg k2];by_cases k4:c.kind=4
   ·rw [if_pos k4];exact hJ _ (by rw [h0];simp [k4])
   ·rw [if_neg k4];exact hJ _ (by simp [k2,k4])
theorem iQ (c:PC)(hc:c.nice)(hb:wK c≤40000000):Q7 c=some (free c [] []):=by
 unfold Q7;have hcw:=kS.1 c;obtain ⟨r,e1,e2,e3,e4⟩:=mT RF c [] [] [] none (RF_cntK (by omega)) hc cntm_nil vN (by simp;omega) (by simp;omega);rw [e1,f9,e3]
theorem ao3 (c:PC)(h:wK c≤1048576):(free c [] []).length≤1048577:=by
 have h1:=ab4.1 c [] [];have h2:=kS.1 c;simp at h1;omega
theorem zQ (c:PC)(hc:c.nice)(hcc:c.cnt≤1048576):lK c=some (decide (0≤few c 3000)):=by
 unfold lK;rw [s_l5Few_eq RF c 3000 (RF_cntK (by omega)) hc (by omega) (by omega),f9]
end Go.Abs

namespace Go.Abs
open PC
theorem wfK_len {c:PC}(h:c.wf):c.params.length≤9223372036854775807∧c.datum.wf∧c.kids.length≤9223372036854775807∧∀ x∈c.kids,x.wf:=by
 have:=(PC.wf_eq c).1 h;exact ⟨this.2.2.1.1,this.2.2.2.1,this.2.2.2.2.1,fun x hx=>PC.wfs_mem this.2.2.2.2.2 hx⟩
theorem szIntS_eq (l:LI)(h:l.length≤9223372036854775807)(left:Int)(h0:0≤left)(h1:left≤1048576):sD l left=some (szw l.length left):=by
 unfold sD;rw [l8 (by omega)];unfold szw;split<;>rfl
theorem w_szK_eq:∀ n:Nat,(∀ c:PC,c.wf→∀ left:Int,0≤left→left≤1048576→2 * left+2≤n→B9 n c left=some (szw (wK c) left))∧(∀ ds:List PC,ds.length≤9223372036854775807→(∀ x∈ds,x.wf)→∀ left:Int,0≤left→left≤1048576→2 * left+1≤n→G9 n ds left=some (szw (wKs ds) left))
 |0=>⟨fun d _ left h1 _ h2=>by omega,fun ds _ _ left h1 _ h2=>by omega⟩
 |n+1=>by
  have ih:=w_szK_eq n;refine ⟨fun c hw left h0 h1 h=>?_,fun ds hl hw left h0 h1 h=>?_⟩
  ·show lT (B9 n) (G9 n) c left=_;unfold lT;have hw':=wfK_len hw;rw [szIntS_eq _ hw'.1 _ h0 h1,f9,fL,← uR,← uR];by_cases hx:szw c.params.length left<0
   ·rw [if_pos hx,qT hx];have e:szw (wD c.datum) (-1)= -1:=by unfold szw;rw [if_pos (by omega)]
    rw [e];have e:szw (wKs c.kids) (-1)= -1:=by unfold szw;rw [if_pos (by omega)]
    rw [e]
   ·have hp:=av9 hx;rw [if_neg hx,(w_sz_eq RF).1 c.datum hw'.2.1 _ (by omega) (by omega) (by rw [RF_eq];omega),f9];by_cases hy:szw (wD c.datum) (szw c.params.length left)<0
    ·rw [if_pos hy,qT hy];have e:szw (wKs c.kids) (-1)= -1:=by unfold szw;rw [if_pos (by omega)]
     rw [e]
    ·have hq:=av9 hy;rw [if_neg hy,ih.2 c.kids hw'.2.2.1 hw'.2.2.2 _ (by omega) (by omega) (by omega),f9,szw_if]
  ·show iJ (B9 n) (G9 n) ds left=_;unfold iJ;rw [wKs_eq];refine szS_eq (L:=qZ (B9 n) ds) (E:=B9 n) wK ds left (fun x hx m hm hm2=>ih.1 x (hw x hx) m hm (by omega) ?_) (fun go left i=>rfl) ⟨h0,h1⟩ hl;have:0<ds.length:=List.length_pos_of_mem hx;omega
theorem w_toK_eq:∀ n:Nat,(∀ c:PC,2 * c.cnt+1<n→c.nice→B3 n c=some c)∧(∀ ds:List PC,2 * PC.cnts ds<n→ds.length≤1048576→nices ds→I0 n ds=some ds)
 |0=>⟨fun d h=>by omega,fun ds h=>by omega⟩
 |n+1=>by
  have ih:=w_toK_eq n;refine ⟨fun c h hs=>?_,fun ds h hl hw=>?_⟩
  ·show lU (B3 n) (I0 n) c=_;unfold lU jM;have hc:=PC.cnt_eq c;have hc':=(A4 c).1 hs;rw [toS_eq' (L:=oQ c.params) 0 c.params 8 (by omega) hc'.1 (fun go i out=>rfl),f9,toDatum_eq (J9 hs),f9,ih.2 c.kids (by omega) hc'.2.2.1 hc'.2.2.2,f9];cases c;rfl
  ·show iM (B3 n) (I0 n) ds=_;unfold iM;exact toS_eq (L:=rC (B3 n) ds) (T:=B3 n) _ ds 120 (by omega) hl (fun x hx=>ih.1 x (by have:=PC.cnts_mem hx;omega) (gQ hw hx)) (fun go i out=>rfl)
theorem w_eqK_eq:∀ n:Nat,(∀ c:PC,2 * c.cnt+1<n→c.nice→B6 n c c=some true)∧(∀ ds:List PC,2 * PC.cnts ds<n→ds.length≤1048576→nices ds→G8 n ds ds=some true)
 |0=>⟨fun d h=>by omega,fun ds h=>by omega⟩
 |n+1=>by
  have ih:=w_eqK_eq n;refine ⟨fun c h hs=>?_,fun ds h hl hw=>?_⟩
  ·show lR (B6 n) (G8 n) c c=_;unfold lR nZ;have hc:=PC.cnt_eq c;have hc':=(A4 c).1 hs;rw [if_pos rfl,if_pos rfl,eqS_refl' (L:=oA c.params c.params) c.params hc'.1 (fun go i=>rfl),f9,if_pos rfl,eqDatum_eq (J9 hs),f9,if_pos rfl,ih.2 c.kids (by omega) hc'.2.2.1 hc'.2.2.2,f9,if_pos rfl]
  ·show iD (B6 n) (G8 n) ds ds=_;unfold iD;exact aq8 (L:=qU (B6 n) ds ds) (E:=B6 n) ds hl (fun x hx=>ih.1 x (by have:=PC.cnts_mem hx;omega) (gQ hw hx)) (fun go i=>rfl)
theorem toCore_eq {c:PC}(h:c.nice)(hc:c.cnt≤1000000000000):B3 RF c=some c:=(w_toK_eq RF).1 c (by rw [RF_eq];omega) h
theorem eqCore_eq {c:PC}(h:c.nice)(hc:c.cnt≤1000000000000):B6 RF c c=some true:=(w_eqK_eq RF).1 c (by rw [RF_eq];omega) h
def mAll {α:Type}(M:Int→α→Int×α):Int→List α→Int×List α
 |k,[]=>(k,[])
 |k,x::r=>((mAll M (M k x).1 r).1,(M k x).2::(mAll M (M k x).1 r).2)
theorem Q3 {α:Type}(M:Int→α→Int×α):∀(xs:List α) (k:Int),(mAll M k xs).2.length=xs.length
 | [],_=>rfl
 |x::r,k=>by simp [mAll,Q3 M r]
theorem wts_nil {α:Type}(wt:α→Nat):wts wt ([]:List α)=0:=rfl
theorem ah3 {α:Type}{M:Int→α→Int×α}{wt:α→Nat}(hM:∀ k x,k≤(M k x).1∧(M k x).1≤k+6 * ((1+wt x:Nat):Int)):∀(xs:List α) (k:Int),k≤(mAll M k xs).1∧(mAll M k xs).1≤k+6 * ((wts wt xs:Nat):Int)
 | [],k=>by rw [wts_nil];exact⟨Int.le_refl _,by show k≤_;omega⟩
 |x::r,k=>by
  have h1:=hM k x;have h2:=ah3 hM r (M k x).1;rw [bB];unfold mAll;dsimp only;omega
theorem set_take {α:Type}{a:List α}{i:Nat}{y:α}(h:i<a.length):(a.set i y).take (i+1)=a.take i++[y]∧(a.set i y).drop (i+1)=a.drop (i+1):=by
 rw [List.set_eq_take_append_cons_drop,if_pos h];have e:(a.take i).length=i:=by rw [List.length_take];omega
 constructor
 ·rw [List.take_append,e,List.take_of_length_le (by omega)];simp
 ·rw [List.drop_append,e,List.drop_of_length_le (by omega)];simp
theorem rU {α:Type}{M:Int→α→Int×α}(wt:α→Nat)(S:α→Prop)(B:Int){L:(Int×Int×List α→Option (Int×List α))→Int×Int×List α→Option (Int×List α)}
 (hM:∀ k x,k≤(M k x).1∧(M k x).1≤k+6 * ((1+wt x:Nat):Int))
 (step:∀ go (i:Nat) k (a:List α) (hi:i<a.length),a.length≤130000000000→S a[i]→0≤k→k+6 * ((1+wt a[i]:Nat):Int)≤B→L go (k,(i:Int),a)=go ((M k a[i]).1,(i:Int)+1,a.set i (M k a[i]).2))
 (fin:∀ go k (a:List α),L go (k,(a.length:Int),a)=some (k,a))
 (xs:List α) (hS:∀ x∈xs,S x) (hn:xs.length≤130000000000) (k:Int) (h0:0≤k) (hB:k+6 * ((wts wt xs:Nat):Int)≤B):itr L LF (k,0,xs)=some (mAll M k xs):=by
 refine(fM (L:=L) (fun v=>some ((mAll M v.1 (v.2.2.drop v.2.1.toNat)).1,v.2.2.take v.2.1.toNat++(mAll M v.1 (v.2.2.drop v.2.1.toNat)).2)) (fun v=>(0≤v.2.1∧v.2.1≤v.2.2.length)∧v.2.2.length≤130000000000∧(∀ x∈v.2.2.drop v.2.1.toNat,S x)∧0≤v.1∧v.1+6 * ((wts wt (v.2.2.drop v.2.1.toNat):Nat):Int)≤B) (fun v=>v.2.2.length-v.2.1.toNat) (fun go v hv hgo=>?_) (k,0,xs) ⟨⟨Int.le_refl _,by show(0:Int)≤(xs.length:Int);omega⟩,hn,by simpa using hS,h0,by simpa using hB⟩ (by show xs.length-0<_;omega)).trans (by simp);obtain ⟨k,j,a⟩:=v;obtain ⟨⟨h1,h2⟩,h3,h4,h5,h6⟩:=hv;simp only at h1 h2 h3 h4 h5 h6;obtain ⟨i,rfl⟩:=Int.eq_ofNat_of_zero_le h1;simp only [Int.ofNat_eq_natCast,Int.toNat_natCast]at *;by_cases hi:i<a.length
 ·rw [List.drop_eq_getElem_cons hi]at h4 h6 ⊢;rw [bB]at h6;have hm:=hM k a[i];have hst:=set_take (y:=(M k a[i]).2) hi;rw [step go i k a hi h3 (h4 _ List.mem_cons_self) h5 (by omega)];refine (hgo ((M k a[i]).1,(i:Int)+1,a.set i (M k a[i]).2) ⟨⟨by show(0:Int)≤(i:Int)+1;omega,by show(i:Int)+1≤((a.set i _).length:Int);rw [List.length_set];omega⟩,by show(a.set i _).length≤_;rw [List.length_set];omega,?_,by show 0≤(M k a[i]).1;omega,?_⟩ (by show(a.set i _).length-((i:Int)+1).toNat<_;rw [List.length_set];omega)).trans ?_
  ·show ∀ x∈(a.set i _).drop ((i:Int)+1).toNat,S x;rw [show ((i:Int)+1).toNat=i+1 by omega,hst.2];exact fun x hx=>h4 x (List.mem_cons_of_mem _ hx)
  ·show (M k a[i]).1+6 * ((wts wt ((a.set i _).drop ((i:Int)+1).toNat):Nat):Int)≤B;rw [show ((i:Int)+1).toNat=i+1 by omega,hst.2];omega
  ·show some ((mAll M (M k a[i]).1 ((a.set i _).drop ((i:Int)+1).toNat)).1,(a.set i _).take ((i:Int)+1).toNat++(mAll M (M k a[i]).1 ((a.set i _).drop ((i:Int)+1).toNat)).2)=_;rw [show ((i:Int)+1).toNat=i+1 by omega,hst.2,hst.1,List.append_assoc];rfl
 ·have:i=a.length:=by omega
  subst this;rw [fin,List.drop_length,List.take_length];simp [mAll]
theorem rR {α:Type}{M:Int→α→Int×α}(wt:α→Nat)(S:α→Prop)(B:Int)(a:List α){L:(Int×Int→Option Int)→Int×Int→Option Int}
 (hM:∀ k x,k≤(M k x).1∧(M k x).1≤k+6 * ((1+wt x:Nat):Int))
 (step:∀ go (i:Nat) k (hi:i<a.length) x,a[i]=(M k x).2→S x→0≤k→k+6 * ((1+wt x:Nat):Int)≤B→L go (k,(i:Int))=go ((M k x).1,(i:Int)+1))
 (fin:∀ go k,L go (k,(a.length:Int))=some k)
 (xs:List α) (hS:∀ x∈xs,S x) (hn:xs.length≤130000000000) (k:Int) (h0:0≤k) (hB:k+6 * ((wts wt xs:Nat):Int)≤B) (ha:a=(mAll M k xs).2):itr L LF (k,0)=some (mAll M k xs).1:=by
 have hal:a.length=xs.length:=by rw [ha,Q3]
 refine fM (L:=L) (fun _=>some (mAll M k xs).1) (fun v=>(0≤v.2∧v.2≤a.length)∧∃ ys,a.drop v.2.toNat=(mAll M v.1 ys).2∧(mAll M v.1 ys).1=(mAll M k xs).1∧(∀ x∈ys,S x)∧0≤v.1∧v.1+6 * ((wts wt ys:Nat):Int)≤B) (fun v=>a.length-v.2.toNat) (fun go v hv hgo=>?_) (k,0) ⟨⟨Int.le_refl _,by show(0:Int)≤(a.length:Int);omega⟩,xs,by simpa using ha,rfl,hS,h0,hB⟩ (by show a.length-0<_;omega);obtain ⟨k1,j⟩:=v;obtain ⟨⟨h1,h2⟩,ys,g1,g2,g3,g4,g5⟩:=hv;simp only at h1 h2 g1 g2 g3 g4 g5;obtain ⟨i,rfl⟩:=Int.eq_ofNat_of_zero_le h1;simp only [Int.ofNat_eq_natCast,Int.toNat_natCast]at *;by_cases hi:i<a.length
 ·rw [List.drop_eq_getElem_cons hi]at g1;cases ys with
  |nil=>simp [mAll]at g1;omega
  |cons y r=>
   have g2:(mAll M (M k1 y).1 r).1=(mAll M k xs).1:=g2;have g1:a[i]::a.drop (i+1)=(M k1 y).2::(mAll M (M k1 y).1 r).2:=g1;simp only [List.cons.injEq]at g1;rw [bB]at g5;have hm:=hM k1 y;rw [step go i k1 hi y g1.1 (g3 y (by simp)) g4 (by omega)];exact hgo ((M k1 y).1,(i:Int)+1) ⟨⟨by show(0:Int)≤(i:Int)+1;omega,by show(i:Int)+1≤_;omega⟩,r,by show a.drop ((i:Int)+1).toNat=_;rw [show ((i:Int)+1).toNat=i+1 by omega];exact g1.2,g2,fun x hx=>g3 x (by simp [hx]),by show 0≤(M k1 y).1;omega,by show(M k1 y).1+_≤_;omega⟩ (by show a.length-((i:Int)+1).toNat<a.length-i;omega)
 ·have:i=a.length:=by omega
  subst this;rw [fin];rw [List.drop_length]at g1;cases ys with
  |nil=>rw [← g2];rfl
  |cons y r=>simp [mAll]at g1
def mI (k:Int)(_:Int):Int×Int:=(k+1,k)
theorem mI_le (k x:Int):k≤(mI k x).1∧(mI k x).1≤k+6 * ((1+0:Nat):Int):=by unfold mI;dsimp only;omega
theorem wts_0 {α:Type}(xs:List α):wts (fun _=>0) xs=xs.length:=by
 induction xs with
 |nil=>rfl
 |cons x r ih=>rw [bB,ih];simp;omega
theorem tK (xs:LI)(k:Int)(hn:xs.length≤130000000000)(h0:0≤k)(h1:k+6 * (xs.length:Int)≤1000000000000):W7 xs k=some (mAll mI k xs):=by
 unfold W7;refine rU (L:=oG) (fun _=>0) (fun _=>True) 1000000000000 (fun k x=>mI_le k x) (fun go i k a hi ha _ h0 h1=>?_) (fun go k a=>?_) xs (fun _ _=>trivial) hn k h0 (by rw [wts_0];exact h1)
 ·show Q1 go k i a=_;unfold Q1;rw [if_pos (by omega),t0 hi,f9,l8 (by omega),l8 (by omega),Int.toNat_natCast];rfl
 ·show Q1 go k _ a=_;unfold Q1;rw [if_neg (by omega)]
theorem sV (xs:LI)(k:Int)(hn:xs.length≤130000000000)(h0:0≤k)(h1:k+6 * (xs.length:Int)≤1000000000000):W6 (mAll mI k xs).2 k=some (mAll mI k xs).1:=by
 unfold W6;have hal:(mAll mI k xs).2.length=xs.length:=Q3 _ _ _;refine rR (L:=oD (mAll mI k xs).2) (fun _=>0) (fun _=>True) 1000000000000 (mAll mI k xs).2 (fun k x=>mI_le k x) (fun go i k1 hi x hx _ h0 h1=>?_) (fun go k1=>?_) xs (fun _ _=>trivial) hn k h0 (by rw [wts_0];exact h1) rfl
 ·show Q0 _ go k1 i=_;unfold Q0;rw [if_pos (by omega),t0 hi,f9,hx,if_pos (show (mI k1 x).2=k1 from rfl),l8 (by omega),l8 (by omega)];rfl
 ·show Q0 _ go k1 _=_;unfold Q0;rw [if_neg (by omega)]
def mtx (k:Int):LB:=(K0 k).getD []
theorem Y6 {k:Int}(h:k≤4611686018427387904):K0 k=some (mtx k):=by
 obtain⟨t,ht⟩:=as6 k h;unfold mtx;rw [ht];rfl
mutual
def mD:Int→PD→Int×PD
 |k,.mk _ _ _ is=>((mDs (k+1+1+1) is).1,.mk k (k+1) (mtx (k+1+1)) (mDs (k+1+1+1) is).2)
def mDs:Int→List PD→Int×List PD
 |k,[]=>(k,[])
 |k,d::r=>((mDs (mD k d).1 r).1,(mD k d).2::(mDs (mD k d).1 r).2)
end
theorem mDs_eq:∀(ds:List PD) (k:Int),mDs k ds=mAll mD k ds
 | [],_=>by unfold mDs mAll;rfl
 |d::r,k=>by unfold mDs mAll;rw [mDs_eq r]
theorem mD_eq (k:Int)(d:PD):mD k d=((mAll mD (k+1+1+1) d.items).1,.mk k (k+1) (mtx (k+1+1)) (mAll mD (k+1+1+1) d.items).2):=by
 cases d;unfold mD;rw [mDs_eq];rfl
theorem mD_le:(∀ d:PD,∀ k,k≤(mD k d).1∧(mD k d).1≤k+6 * ((1+wD d:Nat):Int))∧∀ ds:List PD,∀ k,k≤(mAll mD k ds).1∧(mAll mD k ds).1≤k+6 * ((wDs ds:Nat):Int):=by
 refine PD.ind (fun ds h k=>?_) (fun d h k=>?_)
 ·induction ds generalizing k with
  |nil=>exact⟨Int.le_refl _,by show k≤_;omega⟩
  |cons x r ih=>
   have h1:=h x (by simp) k;have h2:=ih (fun y hy=>h y (by simp [hy])) (mD k x).1;unfold wDs mAll;dsimp only;omega
 ·have h1:=h (k+1+1+1);have h2:=yW d;rw [mD_eq];dsimp only;omega
theorem mX:∀(n:Nat) (ds:List PD) (k:Int),PD.cnts ds<n→wDs ds≤130000000000→0≤k→k+6 * ((wDs ds:Nat):Int)≤1000000000000→u4 n ds k=some (mAll mD k ds)
 |0,ds,k,h,_,_,_=>by omega
 |n+1,ds,k,h,hc,h0,h1=>by
  show aS (u4 n) ds k=_;unfold aS;have hl:=PD.cnts_len ds;have hw:=ad4.2 ds;refine rU (L:=iI (u4 n)) wD (fun x=>wD x≤130000000000∧x.cnt<n) 1000000000000 (fun k x=>mD_le.1 x k) (fun go i k1 a hi ha hx hk hB=>?_) (fun go k1 a=>?_) ds (fun x hx=>⟨by have:=wDs_mem hx;omega,by have:=PD.cnts_mem hx;omega⟩) (by omega) k h0 (by rw [← wDs_eq];exact h1)
  ·show K8 (u4 n) go k1 (i:Int) a=_;unfold K8;have hwi:=yW a[i];have hci:=PD.cnt_eq a[i];simp only [Int.toNat_natCast,List.set_set];rw [if_pos (by omega),t0 hi,f9,l8 (by omega),U5 hi,f9,l8 (by omega),Y6 (by omega),f9,U5 hi,f9,l8 (by omega),U5 hi,f9];try simp only [ab9,as8,wI,as9]
   rw [mX n a[i].items (k1+1+1+1) (by omega) (by omega) (by omega) (by omega),f9];refine (l8 (Q3 mD a[i].items _)).trans ((l8 (by omega)).trans ?_);rw [mD_eq]
  ·show K8 (u4 n) go k1 _ a=_;unfold K8;rw [if_neg (by omega)]
theorem mB:∀(n:Nat) (ds:List PD) (k:Int),PD.cnts ds<n→wDs ds≤130000000000→0≤k→k+6 * ((wDs ds:Nat):Int)≤1000000000000→t9 n (mAll mD k ds).2 k=some (mAll mD k ds).1
 |0,ds,k,h,_,_,_=>by omega
 |n+1,ds,k,h,hc,h0,h1=>by
  show aR (t9 n) (mAll mD k ds).2 k=_;unfold aR;have hl:=PD.cnts_len ds;have hw:=ad4.2 ds;have hal:(mAll mD k ds).2.length=ds.length:=Q3 _ _ _;refine rR (L:=iG (t9 n) (mAll mD k ds).2) wD (fun x=>wD x≤130000000000∧x.cnt<n) 1000000000000 (mAll mD k ds).2 (fun k x=>mD_le.1 x k) (fun go i k1 hi x hx hS hk hB=>?_) (fun go k1=>?_) ds (fun x hx=>⟨by have:=wDs_mem hx;omega,by have:=PD.cnts_mem hx;omega⟩) (by omega) k h0 (by rw [← wDs_eq];exact h1) rfl
  ·show K7 (t9 n) (mAll mD k ds).2 go k1 (i:Int)=_;unfold K7;have hwi:=yW x;have hci:=PD.cnt_eq x;have hle:=mD_le.2 x.items (k1+1+1+1);rw [mD_eq]at hx;rw [if_pos (by omega),t0 hi,hx];simp only [f9,ab9,as8,wI,as9];rw [if_pos trivial,l8 (by omega),if_pos trivial,l8 (by omega),Y6 (by omega),f9];refine (if_pos rfl).trans ?_;rw [l8 (by omega),mB n x.items (k1+1+1+1) (by omega) (by omega) (by omega) (by omega),f9,if_neg (by omega),l8 (by omega),mD_eq]
  ·show K7 (t9 n) (mAll mD k ds).2 go k1 _=_;unfold K7;rw [if_neg (by omega)]
theorem kK (k n:Int)(p:LI)(d:PD)(ks:List PC):(PC.mk k n p d ks).kind=k∧(PC.mk k n p d ks).number=n∧(PC.mk k n p d ks).params=p∧(PC.mk k n p d ks).datum=d∧(PC.mk k n p d ks).kids=ks:=⟨rfl,rfl,rfl,rfl,rfl⟩
mutual
def mK:Int→PC→Int×PC
 |k,.mk _ _ p d ks=>((mKs (mAll mD ((mAll mI (k+1+1) p).1+1+1+1) d.items).1 ks).1,.mk k (k+1) (mAll mI (k+1+1) p).2 (.mk (mAll mI (k+1+1) p).1 ((mAll mI (k+1+1) p).1+1) (mtx ((mAll mI (k+1+1) p).1+1+1)) (mAll mD ((mAll mI (k+1+1) p).1+1+1+1) d.items).2) (mKs (mAll mD ((mAll mI (k+1+1) p).1+1+1+1) d.items).1 ks).2)
def mKs:Int→List PC→Int×List PC
 |k,[]=>(k,[])
 |k,d::r=>((mKs (mK k d).1 r).1,(mK k d).2::(mKs (mK k d).1 r).2)
end
theorem mKs_eq:∀(ds:List PC) (k:Int),mKs k ds=mAll mK k ds
 | [],_=>by unfold mKs mAll;rfl
 |d::r,k=>by unfold mKs mAll;rw [mKs_eq r]
def mP (k:Int)(c:PC):=mAll mI k c.params
def mQ (k:Int)(c:PC):=mAll mD k c.datum.items
theorem mK_eq (k:Int)(c:PC):mK k c=((mAll mK (mQ ((mP (k+1+1) c).1+1+1+1) c).1 c.kids).1,.mk k (k+1) (mP (k+1+1) c).2 (.mk (mP (k+1+1) c).1 ((mP (k+1+1) c).1+1) (mtx ((mP (k+1+1) c).1+1+1)) (mQ ((mP (k+1+1) c).1+1+1+1) c).2) (mAll mK (mQ ((mP (k+1+1) c).1+1+1+1) c).1 c.kids).2):=by
 cases c;unfold mK;rw [mKs_eq];rfl
theorem mP_le (k:Int)(c:PC):k≤(mP k c).1∧(mP k c).1≤k+6 * (c.params.length:Int):=by
 have:=ah3 (wt:=fun _=>0) (fun k x=>mI_le k x) c.params k;rw [wts_0]at this;exact this
theorem mQ_le (k:Int)(c:PC):k≤(mQ k c).1∧(mQ k c).1≤k+6 * (wD c.datum:Int):=by
 have h1:=mD_le.2 c.datum.items k;have h2:=yW c.datum;exact ⟨h1.1,by show(mAll mD k c.datum.items).1≤_;omega⟩
theorem mK_le:(∀ d:PC,∀ k,k≤(mK k d).1∧(mK k d).1≤k+6 * ((1+wK d:Nat):Int))∧∀ ds:List PC,∀ k,k≤(mAll mK k ds).1∧(mAll mK k ds).1≤k+6 * ((wKs ds:Nat):Int):=by
 refine PC.ind (fun ds h k=>?_) (fun d h k=>?_)
 ·induction ds generalizing k with
  |nil=>exact⟨Int.le_refl _,by show k≤_;omega⟩
  |cons x r ih=>
   have h1:=h x (by simp) k;have h2:=ih (fun y hy=>h y (by simp [hy])) (mK k x).1;unfold wKs mAll;dsimp only;omega
 ·have h1:=mP_le (k+1+1) d;have h2:=mQ_le ((mP (k+1+1) d).1+1+1+1) d;have h3:=h (mQ ((mP (k+1+1) d).1+1+1+1) d).1;have h4:=fL d;rw [mK_eq];dsimp only;omega
theorem zF:∀(n:Nat) (ds:List PC) (k:Int),PC.cnts ds<n→nices ds→ds.length≤130000000000→0≤k→k+6 * ((wKs ds:Nat):Int)≤1000000000000→z6 n ds k=some (mAll mK k ds)
 |0,ds,k,h,_,_,_,_=>by omega
 |n+1,ds,k,h,hc,hl,h0,h1=>by
  show dC (z6 n) ds k=_;unfold dC;refine rU (L:=kI (z6 n)) wK (fun x=>x.nice∧x.cnt<n) 1000000000000 (fun k x=>mK_le.1 x k) (fun go i k1 a hi ha hx hk hB=>?_) (fun go k1 a=>?_) ds (fun x hx=>⟨gQ hc hx,by have:=PC.cnts_mem hx;omega⟩) hl k h0 (by rw [← wKs_eq];exact h1)
  ·show N4 (z6 n) go k1 (i:Int) a=_;unfold N4;have hwi:=fL a[i];have hci:=PC.cnt_eq a[i];have hn:=(A4 a[i]).1 hx.1;have hwd:=yW a[i].datum;have hp:=mP_le (k1+1+1) a[i];have hq:=mQ_le ((mP (k1+1+1) a[i]).1+1+1+1) a[i];have hcw:=ad4.2 a[i].datum.items;have e1:W7 a[i].params (k1+1+1)=some (mP (k1+1+1) a[i]):=tK _ _ (Nat.le_trans hn.1 (by decide)) (by omega) (by omega);have e2:u4 RF a[i].datum.items ((mP (k1+1+1) a[i]).1+1+1+1)=some (mQ ((mP (k1+1+1) a[i]).1+1+1+1) a[i]):=mX RF _ _ (by rw [RF_eq];omega) (by omega) (by omega) (by omega);have e3:=zF n a[i].kids (mQ ((mP (k1+1+1) a[i]).1+1+1+1) a[i]).1 (by omega) hn.2.2.2 (Nat.le_trans hn.2.2.1 (by decide)) (by omega) (by omega);simp only [Int.toNat_natCast,List.set_set];rw [if_pos (by omega),t0 hi,f9,l8 (by omega),U5 hi,f9,l8 (by omega),U5 hi,f9];refine (congrArg (bnd · _) e1).trans ?_;rw [f9];refine (l8 (Q3 mI a[i].params _)).trans ?_;rw [U5 hi,f9,l8 (by omega),U5 hi,f9,l8 (by omega),Y6 (by omega),f9,U5 hi,f9,l8 (by omega),U5 hi,f9];refine (congrArg (bnd · _) e2).trans ?_;rw [f9];refine (l8 (Q3 mD a[i].datum.items _)).trans ?_;rw [U5 hi,f9];refine (congrArg (bnd · _) e3).trans ?_;rw [f9];refine (l8 (Q3 mK a[i].kids _)).trans ((l8 (by omega)).trans ?_);rw [mK_eq];rfl
  ·show N4 (z6 n) go k1 _ a=_;unfold N4;rw [if_neg (by omega)]
theorem zA:∀(n:Nat) (ds:List PC) (k:Int),PC.cnts ds<n→nices ds→ds.length≤130000000000→0≤k→k+6 * ((wKs ds:Nat):Int)≤1000000000000→z5 n (mAll mK k ds).2 k=some (mAll mK k ds).1
 |0,ds,k,h,_,_,_,_=>by omega
 |n+1,ds,k,h,hc,hl,h0,h1=>by
  show dB (z5 n) (mAll mK k ds).2 k=_;unfold dB;have hal:(mAll mK k ds).2.length=ds.length:=Q3 _ _ _;refine rR (L:=kE (z5 n) (mAll mK k ds).2) wK (fun x=>x.nice∧x.cnt<n) 1000000000000 (mAll mK k ds).2 (fun k x=>mK_le.1 x k) (fun go i k1 hi x hx hS hk hB=>?_) (fun go k1=>?_) ds (fun x hx=>⟨gQ hc hx,by have:=PC.cnts_mem hx;omega⟩) hl k h0 (by rw [← wKs_eq];exact h1) rfl
  ·show N2 (z5 n) (mAll mK k ds).2 go k1 (i:Int)=_;unfold N2;have hwi:=fL x;have hci:=PC.cnt_eq x;have hn:=(A4 x).1 hS.1;have hwd:=yW x.datum;have hp:=mP_le (k1+1+1) x;have hq:=mQ_le ((mP (k1+1+1) x).1+1+1+1) x;have hcw:=ad4.2 x.datum.items;have hk3:=mK_le.2 x.kids (mQ ((mP (k1+1+1) x).1+1+1+1) x).1;have e1:W6 (mP (k1+1+1) x).2 (k1+1+1)=some (mP (k1+1+1) x).1:=sV _ _ (Nat.le_trans hn.1 (by decide)) (by omega) (by omega);have e2:t9 RF (mQ ((mP (k1+1+1) x).1+1+1+1) x).2 ((mP (k1+1+1) x).1+1+1+1)=some (mQ ((mP (k1+1+1) x).1+1+1+1) x).1:=mB RF _ _ (by rw [RF_eq];omega) (by omega) (by omega) (by omega);have e3:=zA n x.kids (mQ ((mP (k1+1+1) x).1+1+1+1) x).1 (by omega) hn.2.2.2 (Nat.le_trans hn.2.2.1 (by decide)) (by omega) (by omega);rw [mK_eq]at hx;rw [if_pos (by omega),t0 hi,hx];simp only [f9,kK,ab9,as8,wI,as9];rw [if_pos trivial,l8 (by omega),if_pos trivial,l8 (by omega),e1,f9,if_neg (by omega),if_pos rfl,l8 (by omega),if_pos rfl,l8 (by omega),Y6 (by omega),f9];refine (if_pos rfl).trans ?_;rw [l8 (by omega),e2,f9,if_neg (by omega),e3,f9,if_neg (by omega),l8 (by omega),mK_eq]
  ·show N2 (z5 n) (mAll mK k ds).2 go k1 _=_;unfold N2;rw [if_neg (by omega)]
end Go.Abs

namespace Go.Abs
open PC
def atomV (d:PD):PVal:=if d.kind=1 then PVal.mk 4 0 d.text else if d.kind=2 then PVal.mk 3 d.number []else if d.kind=3 then PVal.mk 2 d.number []else if d.kind=4 then PVal.mk 5 0 d.text else PVal.mk 1 0 []
theorem am3 (n:Nat)(d:PD)(h:d.items=[]):D7 (n+1) d []=some (atomV d,[]):=by
 show gN (D7 n) d []=_;unfold gN atomV;have hl:itr (iU (D7 n) d) LF (((d.items.length:Int)-1),[],(PVal.mk 1 0 ([]:LB)))=some (PVal.mk 1 0 [],[]):=by
  rw [h];refine fM (L:=iU (D7 n) d) (fun v=>some (v.2.2,v.2.1)) (fun v=>v.1= -1) (fun _=>0) (fun go v hv _=>?_) _ (by rfl) (by omega);obtain ⟨i,ps,l⟩:=v;have hv':i= -1:=hv;subst hv';rfl
 rw [l8 (by rw [h];exact pG (by simp)),hl];repeat' split
 all_goals rfl
theorem sQ (n:Nat)(d:PD)(h:d.items=[]):C8 (n+1) d []=some (atomV d,[]):=by
 show hX (C8 n) d []=_;unfold hX atomV;have hl:itr (jF (C8 n) d) LF (((d.items.length:Int)-1),[],(PVal.mk 1 0 ([]:LB)))=some (PVal.mk 1 0 [],[]):=by
  rw [h];refine fM (L:=jF (C8 n) d) (fun v=>some (v.2.2,v.2.1)) (fun v=>v.1= -1) (fun _=>0) (fun go v hv _=>?_) _ (by rfl) (by omega);obtain ⟨i,ps,l⟩:=v;have hv':i= -1:=hv;subst hv';rfl
 rw [l8 (by rw [h];exact pG (by simp)),hl];repeat' split
 all_goals rfl
def isAt (c:PC):Bool:=decide (c.kind=1)&&decide ((c.datum.items.length:Int)=0)
theorem tC (c:PC):iT c=some (isAt c):=by
 unfold iT isAt;by_cases h:c.kind=1<;>simp [h]
theorem uI (c:PC):jG c=some (isAt c):=by
 unfold jG isAt;by_cases h:c.kind=1<;>simp [h]
def nums9 (a:PVal):Prop:=a.kind=3→ -999999999≤a.number∧a.number≤999999999
def plainV (a:PVal):Prop:=nums9 a∧a.kind≠7
def arT (p:Int):Int:=if p=6∨p=7∨p=8∨p=9∨p=10∨p=12∨p=13 then 1 else 2
theorem cases14 {p:Int}(h:0≤p∧p≤13):p=0∨p=1∨p=2∨p=3∨p=4∨p=5∨p=6∨p=7∨p=8∨p=9∨p=10∨p=11∨p=12∨p=13:=by omega
theorem i_ArityOf_eq {p:Int}(h:0≤p∧p≤13):vO p=some (arT p):=by
 rcases cases14 h with rfl|rfl|rfl|rfl|rfl|rfl|rfl|rfl|rfl|rfl|rfl|rfl|rfl|rfl<;>rfl
theorem s_ArityOf_eq {p:Int}(h:0≤p∧p≤13):pY p=some (arT p):=by
 rcases cases14 h with rfl|rfl|rfl|rfl|rfl|rfl|rfl|rfl|rfl|rfl|rfl|rfl|rfl|rfl<;>rfl
theorem i_isPure_eq {p:Int}(h:0≤p∧p≤13):ab5 p=some (decide (p≠5)&&decide (p≠13)):=by
 rcases cases14 h with rfl|rfl|rfl|rfl|rfl|rfl|rfl|rfl|rfl|rfl|rfl|rfl|rfl|rfl<;>rfl
def boolV (b:Bool):PVal:=if b=true then PVal.mk 2 1 []else PVal.mk 2 0 []
theorem jS (b:Bool):O9 b=some (boolV b):=by cases b<;>rfl
theorem V2 (b:Bool):eE b=some (boolV b):=by cases b<;>rfl
theorem mul_in {a b:Int}(h1: -999999999≤a∧a≤999999999)(h2: -999999999≤b∧b≤999999999): -9223372036854775808≤a * b∧a * b≤9223372036854775807:=by
 have e:=Int.natAbs_mul a b;have l:a.natAbs * b.natAbs≤999999999 * 999999999:=Nat.mul_le_mul (by omega) (by omega);rw [← e]at l;generalize a * b=z at l;omega
theorem lim_eq (z:Int)(hz:I64 z)(v e:PVal×LB):(if I64 z then if z< -999999999 then some e else if 999999999<z then some e else some v else none)=bnd (if I64 z then if -999999999≤z∧z≤999999999 then some v else some e else none) fun x=>some (x.1,x.2):=by
 rw [if_pos hz,if_pos hz];by_cases h1:z< -999999999
 ·rw [if_pos h1,if_neg (by omega)];rfl
 ·rw [if_neg h1];by_cases h2:999999999<z
  ·rw [if_pos h2,if_neg (by omega)];rfl
  ·rw [if_neg h2,if_pos (by omega)];rfl
theorem two_eq {p:Int}(h:p=0∨p=1∨p=2∨p=3∨p=4)(a b:PVal)(ha:plainV a)(hb:plainV b):Q9 p [a,b] []=w6 p [a,b] []:=by
 have h1:=ha.1;have h2:=hb.1;unfold nums9 at h1 h2;have n0:nth [a,b] 0=some a:=rfl;have n1:nth [a,b] 1=some b:=rfl;by_cases k1:a.kind=3
 ·by_cases k2:b.kind=3
  ·have h1:=h1 k1;have h2:=h2 k2;have hm:=mul_in h1 h2;rcases h with rfl|rfl|rfl|rfl|rfl;all_goals
    unfold Q9 w6 z7 o7;simp only [f9,n0,n1];simp [nth,O2,u9,dU,k1,k2,jS,V2,Z1,inside,chk]
   ·exact lim_eq _ (pG (by omega)) _ _
   ·exact lim_eq _ (pG (by omega)) _ _
   ·exact lim_eq _ (pG hm) _ _
  ·rcases h with rfl|rfl|rfl|rfl|rfl;all_goals
    unfold Q9 w6 z7 o7;simp only [f9,n0,n1];simp [nth,O2,u9,k1,k2,chk]
 ·rcases h with rfl|rfl|rfl|rfl|rfl;all_goals
   unfold Q9 w6 z7 o7;simp only [f9,n0,n1];simp [nth,O2,u9,k1,chk]
theorem eq_eq (a b:PVal):Q9 11 [a,b] []=w6 11 [a,b] []:=by
 have n0:nth [a,b] 0=some a:=rfl;have n1:nth [a,b] 1=some b:=rfl;unfold Q9 w6 z7 o7;simp only [f9,n0,n1];simp [nth,u9,J6,jS,V2,chk]
theorem i_isFalse_eq (x:PVal):pN x=some (decide (x.kind=2)&&decide (x.number=0)):=by
 unfold pN;by_cases h:x.kind=2<;>simp [h]
theorem jE (x:PVal):lL x=some (decide (x.kind=2)&&decide (x.number=0)):=by
 unfold lL;by_cases h:x.kind=2<;>simp [h]
theorem one_eq {p:Int}(h:p=6∨p=7∨p=8∨p=9∨p=10∨p=12)(a:PVal)(ha:plainV a):Q9 p [a] []=w6 p [a] []:=by
 have n0:nth [a] 0=some a:=rfl;have k:=ha.2;rcases h with rfl|rfl|rfl|rfl|rfl|rfl;all_goals
  unfold Q9 w6 z7 o7;simp only [f9,n0];simp [nth,O2,u9,J6,jS,V2,i_isFalse_eq,jE,k,chk]
theorem app_eq {p:Int}(h:0≤p∧p≤13)(h5:p≠5)(h13:p≠13)(args:List PVal)(hl:(args.length:Int)=arT p)(ha:∀ a∈args,plainV a):Q9 p args []=w6 p args []:=by
 unfold arT at hl;by_cases h1:p=6∨p=7∨p=8∨p=9∨p=10∨p=12∨p=13
 ·rw [if_pos h1]at hl
  match args,hl,ha with
  | [a],_,ha=>exact one_eq (by omega) a (ha a (by simp))
  | [],hl,_=>simp at hl
  |_::_::_,hl,_=>simp at hl;omega
 ·rw [if_neg h1]at hl
  match args,hl,ha with
  | [a,b],_,ha=>
   by_cases h11:p=11
   ·subst h11;exact eq_eq a b
   ·exact two_eq (by omega) a b (ha a (by simp)) (ha b (by simp))
  | [],hl,_=>simp at hl
  | [_],hl,_=>simp at hl
  |_::_::_::_,hl,_=>simp at hl;omega
theorem as5 (z:Int)(hz:I64 z)(v e:PVal×LB):∃ a b,(bnd (if I64 z then if -999999999≤z∧z≤999999999 then some v else some e else none) fun x=>some (x.1,x.2))=some (a,b):=by
 rw [if_pos hz];split<;>exact⟨_,_,rfl⟩
theorem two_some {p:Int}(h:p=0∨p=1∨p=2∨p=3∨p=4)(a b:PVal)(ha:plainV a)(hb:plainV b):∃ r,w6 p [a,b] []=some r:=by
 have h1:=ha.1;have h2:=hb.1;unfold nums9 at h1 h2;have n0:nth [a,b] 0=some a:=rfl;have n1:nth [a,b] 1=some b:=rfl;by_cases k1:a.kind=3
 ·by_cases k2:b.kind=3
  ·have h1:=h1 k1;have h2:=h2 k2;have hm:=mul_in h1 h2;rcases h with rfl|rfl|rfl|rfl|rfl;all_goals
    unfold w6 o7;simp only [f9,n0,n1];simp [nth,u9,dU,k1,k2,V2,Z1,inside,chk]
   ·exact as5 _ (pG (by omega)) _ _
   ·exact as5 _ (pG (by omega)) _ _
   ·exact as5 _ (pG hm) _ _
  ·rcases h with rfl|rfl|rfl|rfl|rfl;all_goals
    unfold w6 o7;simp only [f9,n0,n1];simp [nth,u9,k1,k2,chk]
 ·rcases h with rfl|rfl|rfl|rfl|rfl;all_goals
   unfold w6 o7;simp only [f9,n0,n1];simp [nth,u9,k1,chk]
theorem eq_some (a b:PVal):∃ r,w6 11 [a,b] []=some r:=by
 have n0:nth [a,b] 0=some a:=rfl;have n1:nth [a,b] 1=some b:=rfl;unfold w6 o7;simp only [f9,n0,n1];simp [nth,u9,J6,V2,chk]
theorem one_some {p:Int}(h:p=6∨p=7∨p=8∨p=9∨p=10∨p=12)(a:PVal)(ha:plainV a):∃ r,w6 p [a] []=some r:=by
 have n0:nth [a] 0=some a:=rfl;have k:=ha.2;rcases h with rfl|rfl|rfl|rfl|rfl|rfl;all_goals
  unfold w6 o7;simp only [f9,n0];simp [nth,u9,J6,V2,jE,k,chk]
theorem app_some {p:Int}(h:0≤p∧p≤13)(h5:p≠5)(h13:p≠13)(args:List PVal)(hl:(args.length:Int)=arT p)(ha:∀ a∈args,plainV a):∃ r,w6 p args []=some r:=by
 unfold arT at hl;by_cases h1:p=6∨p=7∨p=8∨p=9∨p=10∨p=12∨p=13
 ·rw [if_pos h1]at hl
  match args,hl,ha with
  | [a],_,ha=>exact one_some (by omega) a (ha a (by simp))
  | [],hl,_=>simp at hl
  |_::_::_,hl,_=>simp at hl;omega
 ·rw [if_neg h1]at hl
  match args,hl,ha with
  | [a,b],_,ha=>
   by_cases h11:p=11
   ·subst h11;exact eq_some a b
   ·exact two_some (by omega) a b (ha a (by simp)) (ha b (by simp))
  | [],hl,_=>simp at hl
  | [_],hl,_=>simp at hl
  |_::_::_::_,hl,_=>simp at hl;omega
def failR:PC×Bool:=(PC.mk 0 0 [] (PD.mk 0 0 ([]:LB) []) [],false)
theorem an7 {L:(Int×List PVal→Option (PC×Bool))→Int×List PVal→Option (PC×Bool)}(ks:List PC)(hn:ks.length≤1048576)(F:List PVal→Option (PC×Bool))(E:PD→List PPair→Option (PVal×List PPair))(A:PC→Option Bool)(hA:∀ x,A x=some (isAt x))
 (hE:∀ x:PC,isAt x=true→E x.datum []=some (atomV x.datum,[]))
 (hL:∀ go (i:Int) o,L go (i,o)=if i<(ks.length:Int)then bnd (nth ks i) fun x=>bnd (A x) fun b=>if b=true then bnd (E x.datum []) fun y=>chk ((o.length+([y.1]:List PVal).length) * 32≤140737488355328)<|chk (I64 (i+1))<|go (i+1,o++([y.1]:List PVal))else some failR else F o):
 itr L LF (0,[])=if ks.all isAt=true then F (ks.map fun x=>atomV x.datum)else some failR:=by
 rw [F3 (L:=L) ks.length (fun i o=>o.length=i) (fun i o=>if(ks.drop i).all isAt=true then F (o++(ks.drop i).map fun x=>atomV x.datum)else some failR) (by omega) (fun go i o hi ho hgo=>?_) (fun go o ho=>?_) (by simp)]
 ·simp
 ·rw [hL,if_pos (by omega),t0 hi,f9,hA,f9,List.drop_eq_getElem_cons hi,List.all_cons,List.map_cons];cases h:isAt ks[i]
  ·simp
  ·rw [if_pos rfl,hE _ h,f9,l8 (by simp;omega),l8 (by omega),hgo _ (by simp [ho]),Bool.true_and,List.append_assoc];rfl
 ·rw [hL,if_neg (by omega),List.drop_length];simp
def datR (n k:Int):PC×Bool:=(PC.mk 1 0 [] (PD.mk k n ([]:LB) []) [],true)
def resOf (r:PVal×LB):PC×Bool:=if r.2=([]:LB)then(if r.1.kind=1 then datR 0 0 else if r.1.kind=2 then datR r.1.number 3 else if r.1.kind=3 then datR r.1.number 2 else failR)else failR
def appV (p:Int)(args:List PVal):PVal×LB:=(w6 p args []).getD (PVal.mk 0 0 [],[])
def avs (ks:List PC):List PVal:=ks.map fun x=>atomV x.datum
def foldR (c:PC):PC×Bool:=if c.kind=6 then(match c.kids with
 | []=>failR
 |f::ks=>if f.kind=3 then(if (f.number≠5∧f.number≠13)∧((ks.length:Int)=arT f.number∧ks.all isAt=true)then resOf (appV f.number (avs ks))else failR)else failR)else failR
theorem Y7:∀{ks:List PC} {x:PC},okAlls ks=true→x∈ks→okAll x=true
 |d::r,x,h,hx=>by
  unfold okAlls at h;rw [Bool.and_eq_true]at h;rcases List.mem_cons.1 hx with rfl|hx
  ·exact h.1
  ·exact Y7 h.2 hx
theorem cZ {c:PC}(h:okAll c=true):shapeOK c=true:=by
 rw [okAll_eq]at h;simp only [Bool.and_eq_true]at h;exact h.1.1
theorem plain_of {c:PC}(h:okAll c=true)(ha:isAt c=true):plainV (atomV c.datum):=by
 have hs:=cZ h;unfold isAt at ha;simp only [Bool.and_eq_true,decide_eq_true_eq]at ha;unfold shapeOK at hs;rw [if_pos ha.1]at hs;simp only [Bool.and_eq_true]at hs;have hd:=hs.2.2.2.2;unfold PD.valid at hd;simp only [Bool.and_eq_true]at hd;have ho:=hd.2.2;rw [PD.okAll_eq,Bool.and_eq_true]at ho;have hn:=ho.1;unfold plainV nums9 atomV;by_cases k1:c.datum.kind=1
 ·rw [if_pos k1];exact⟨fun h=>by simp at h,by simp⟩
 ·by_cases k2:c.datum.kind=2
  ·rw [if_neg k1,if_pos k2];unfold PD.nodeOK at hn;rw [if_neg (by omega),if_neg k1,if_pos k2]at hn;unfold inside at hn;simp only [Bool.and_eq_true,decide_eq_true_eq]at hn;exact ⟨fun _=>⟨hn.1.1,hn.1.2⟩,by simp⟩
  ·rw [if_neg k1,if_neg k2];split
   ·exact ⟨fun h=>by simp at h,by simp⟩
   ·split
    ·exact ⟨fun h=>by simp at h,by simp⟩
    ·exact ⟨fun h=>by simp at h,by simp⟩
theorem uV {ks:List PC}(h:okAlls ks=true)(ha:ks.all isAt=true):∀ a∈avs ks,plainV a:=fun a hx=>by
 obtain⟨x,hm,rfl⟩:=List.mem_map.1 hx;exact plain_of (Y7 h hm) (List.all_eq_true.1 ha x hm)
theorem wB {x:PC}(h:isAt x=true):x.datum.items=[]:=by
 unfold isAt at h;simp only [Bool.and_eq_true,decide_eq_true_eq]at h;exact List.length_eq_zero_iff.1 (by omega)
theorem RF_succ:RF=18446744073709551615+1:=by rw [RF_eq]
theorem s_res_eq (r:PVal×LB):(bnd (lN r.1) fun x9=>if r.2=([]:LB)then(if x9.2=true then some ((PC.mk 1 0 [] x9.1 []:PC),true)else some failR)else some failR)=some (resOf r):=by
 unfold lN resOf datR;by_cases h:r.2=[]<;>by_cases k1:r.1.kind=1<;>by_cases k2:r.1.kind=2<;>by_cases k3:r.1.kind=3<;>simp [h,k1,k2,k3]
theorem i_res_eq (r:PVal×LB):(if r.2=([]:LB)then(if r.1.kind=1 then some ((PC.mk 1 0 [] (PD.mk 0 0 ([]:LB) []) []:PC),true)else if r.1.kind=2 then some (PC.mk 1 0 [] (PD.mk 3 r.1.number ([]:LB) []) [],true)else if r.1.kind=3 then some (PC.mk 1 0 [] (PD.mk 2 r.1.number ([]:LB) []) [],true)else some failR)else some failR)=some (resOf r):=by
 unfold resOf datR;by_cases h:r.2=[]<;>by_cases k1:r.1.kind=1<;>by_cases k2:r.1.kind=2<;>by_cases k3:r.1.kind=3<;>simp [h,k1,k2,k3]
theorem head_ok {c f:PC}{ks:List PC}(hv:okAll c=true)(hk:c.kids=f::ks)(h3:f.kind=3):(0≤f.number∧f.number≤13)∧okAlls ks=true:=by
 rw [okAll_eq,Bool.and_eq_true]at hv;have h:=hv.2;rw [hk]at h;unfold okAlls at h;rw [Bool.and_eq_true]at h;refine ⟨?_,h.2⟩;have hs:=cZ h.1;unfold shapeOK at hs;rw [if_neg (by omega),if_neg (by omega),if_pos h3]at hs;unfold inside at hs;simp only [Bool.and_eq_true,decide_eq_true_eq]at hs;exact ⟨hs.2.2.2.2.1,hs.2.2.2.2.2⟩
theorem yG {c:PC}(hv:okAll c=true)(h6:c.kind=6):∃ f ks,c.kids=f::ks:=by
 have hs:=cZ hv;unfold shapeOK at hs;rw [if_neg (by omega),if_neg (by omega),if_neg (by omega),if_neg (by omega),if_neg (by omega),if_pos h6]at hs;unfold inside at hs;simp only [Bool.and_eq_true,decide_eq_true_eq]at hs;cases hk:c.kids with
 |nil=>rw [hk]at hs;have:=hs.2.2.2.1;simp at this
 |cons f ks=>exact⟨f,ks,rfl⟩
theorem s_l9Fold_eq (c:PC)(hc:c.nice)(hv:okAll c=true):xG c=some (foldR c):=by
 unfold xG foldR;by_cases h6:c.kind=6
 ·obtain ⟨f,ks,hk⟩:=yG hv h6;have hn:=((A4 c).1 hc).2.2.1;rw [hk]at hn;simp only [List.length_cons]at hn;have n0:nth c.kids 0=some f:=by rw [hk];rfl
  have hd:c.kids.drop (1:Int).toNat=ks:=by rw [hk];rfl
  rw [if_pos h6,if_pos h6,n0,f9,f9];rw [hk];dsimp only;by_cases h3:f.kind=3
  ·obtain ⟨hr,hks⟩:=head_ok hv hk h3;rw [if_pos h3,if_pos h3,l8 (by simp;omega)];rw [an7 (L:=uM c f) ks (by omega) (fun args=>if f.number=5 then some failR else if f.number=13 then some failR else bnd (pY f.number) fun x7=>if(args.length:Int)=x7 then bnd (w6 f.number args []) fun x8=>bnd (lN x8.1) fun x9=>if x8.2=([]:LB)then(if x9.2=true then some ((PC.mk 1 0 [] x9.1 []:PC),true)else some failR)else some failR else some failR) (C8 RF) jG uI (fun x hx=>by rw [RF_succ];exact sQ _ _ (wB hx)) (fun go i o=>by
    show eW c f go i o=_;unfold eW;rw [hd];rfl)]
   rw [s_ArityOf_eq hr];by_cases ha:ks.all isAt=true
   ·rw [if_pos ha];by_cases h5:f.number=5
    ·rw [if_pos h5,if_neg (by simp [h5])]
    ·by_cases h13:f.number=13
     ·rw [if_neg h5,if_pos h13,if_neg (by simp [h13])]
     ·rw [if_neg h5,if_neg h13,f9];have hla:(avs ks).length=ks.length:=by simp [avs]
      by_cases hl:(ks.length:Int)=arT f.number
      ·rw [if_pos (by rw [List.length_map];exact hl),if_pos ⟨⟨h5,h13⟩,hl,ha⟩];obtain ⟨r,e⟩:=app_some hr h5 h13 (avs ks) (by rw [hla];exact hl) (uV hks ha);have e2:appV f.number (avs ks)=r:=by unfold appV;rw [e];rfl
       rw [e2];refine (congrArg (bnd · _) e).trans ?_;rw [f9];exact s_res_eq r
      ·rw [if_neg (by rw [List.length_map];exact hl),if_neg (fun h=>hl h.2.1)]
   ·rw [if_neg ha,if_neg (fun h=>ha h.2.2)]
  ·rw [if_neg h3,if_neg h3];rfl
 ·rw [if_neg h6,if_neg h6];rfl
theorem i_folded_eq (c:PC)(hc:c.nice)(hv:okAll c=true):vU c=some (foldR c):=by
 unfold vU foldR;by_cases h6:c.kind=6
 ·obtain ⟨f,ks,hk⟩:=yG hv h6;have hn:=((A4 c).1 hc).2.2.1;rw [hk]at hn;simp only [List.length_cons]at hn;have n0:nth c.kids 0=some f:=by rw [hk];rfl
  have hd:c.kids.drop (1:Int).toNat=ks:=by rw [hk];rfl
  have hlen:c.kids.length=ks.length+1:=by rw [hk];rfl
  rw [if_pos h6,if_pos h6,n0,f9,f9,hlen];rw [hk];dsimp only;by_cases h3:f.kind=3
  ·obtain ⟨hr,hks⟩:=head_ok hv hk h3;rw [if_pos h3,if_pos h3,i_isPure_eq hr,f9,l8 (by omega),i_ArityOf_eq hr,f9,l8 (by omega)];rw [an7 (L:=tA c f) ks (by omega) (fun args=>bnd (Q9 f.number args []) fun x9=>if x9.2=([]:LB)then(if x9.1.kind=1 then some ((PC.mk 1 0 [] (PD.mk 0 0 ([]:LB) []) []:PC),true)else if x9.1.kind=2 then some (PC.mk 1 0 [] (PD.mk 3 x9.1.number ([]:LB) []) [],true)else if x9.1.kind=3 then some (PC.mk 1 0 [] (PD.mk 2 x9.1.number ([]:LB) []) [],true)else some failR)else some failR) (D7 RF) iT tC (fun x hx=>by rw [RF_succ];exact am3 _ _ (wB hx)) (fun go i o=>by
    show eN c f go i o=_;unfold eN;rw [hd];rfl)]
   by_cases h5:f.number=5
   ·rw [if_neg (by simp [h5]),if_neg (by simp [h5])];rfl
   ·by_cases h13:f.number=13
    ·rw [if_neg (by simp [h13]),if_neg (by simp [h13])];rfl
    ·rw [if_pos (by simp [h5,h13])];have hla:(avs ks).length=ks.length:=by simp [avs]
     by_cases hl:(ks.length:Int)=arT f.number
     ·rw [if_pos (by omega)];by_cases ha:ks.all isAt=true
      ·rw [if_pos ha,if_pos ⟨⟨h5,h13⟩,hl,ha⟩];obtain ⟨r,e⟩:=app_some hr h5 h13 (avs ks) (by rw [hla];exact hl) (uV hks ha);have e2:appV f.number (avs ks)=r:=by unfold appV;rw [e];rfl
       rw [e2];refine (congrArg (bnd · _) ((app_eq hr h5 h13 (avs ks) (by rw [hla];exact hl) (uV hks ha)).trans e)).trans ?_;rw [f9];exact i_res_eq r
      ·rw [if_neg ha,if_neg (fun h=>ha h.2.2)]
     ·rw [if_neg (by omega),if_neg (fun h=>hl h.2.1)];rfl
  ·rw [if_neg h3,if_neg h3];rfl
 ·rw [if_neg h6,if_neg h6];rfl
end Go.Abs

namespace Go.Abs
open PC
theorem ar9 (l:LI)(h:l.length≤1048576):aG l=some l:=by unfold aG;rw [l8 (by omega)]
theorem tX:∀(n:Nat) (d:PD),d.cnt<n→d.small→F6 n d=some d
 |0,d,h,_=>by omega
 |n+1,d,h,hd=>by
  show lF (F6 n) d=_;unfold lF;have hs:=eZ hd;rw [wF (L:=tW (F6 n) d) id (fun o=>some (PD.mk d.kind d.number d.text o)) d.items hs (fun go i o hi ho=>?_) (fun go o=>?_)]
  ·rw [List.map_id];cases d;rfl
  ·show Z0 (F6 n) d go i o=_;unfold Z0;rw [if_pos (by omega),t0 hi,f9,tX n _ (by have:=(J8 hd hi).2;omega) (J8 hd hi).1,f9,l8 (by simp;omega),l8 (by omega)];rfl
  ·show Z0 (F6 n) d go _ o=_;unfold Z0;rw [if_neg (by omega)]
theorem sJ:∀(n:Nat),(∀ d:PD,2 * d.cnt+1<n→d.small→s9 n d=some d)∧(∀ ds:List PD,2 * PD.cnts ds<n→ds.length≤1048576→(∀ x∈ds,x.small)→D0 n ds=some ds)
 |0=>⟨fun d h=>by omega,fun ds h=>by omega⟩
 |n+1=>by
  have ih:=sJ n;refine ⟨fun d h hs=>?_,fun ds h hl hw=>?_⟩
  ·show cL (s9 n) (D0 n) d=_;unfold cL;have hc:=PD.cnt_eq d;rw [ih.2 d.items (by omega) (eZ hs) (fun x hx=>PD.small_item hs hx),f9];cases d;rfl
  ·show eM (s9 n) (D0 n) ds=_;unfold eM;rw [wF (L:=mN (s9 n) ds) id some ds hl (fun go i o hi ho=>?_) (fun go o=>?_)]
   ·rw [List.map_id]
   ·show P5 (s9 n) ds go i o=_;unfold P5;rw [if_pos (by omega),t0 hi,f9,ih.1 _ (by have:=PD.cnts_mem (List.getElem_mem hi);omega) (hw _ (List.getElem_mem hi)),f9,l8 (by simp;omega),l8 (by omega)];rfl
   ·show P5 (s9 n) ds go _ o=_;unfold P5;rw [if_neg (by omega)]
theorem L4:∀(n:Nat) (c:PC),c.cnt<n→c.nice→r7 n c=some c
 |0,d,h,_=>by omega
 |n+1,c,h,hc=>by
  show eK (r7 n) c=_;unfold eK;have hc':=(A4 c).1 hc;rw [ar9 _ hc'.1,f9,(sJ RF).1 _ (yK (J9 hc)) (J9 hc),f9];rw [wF (L:=mM (r7 n) c c.params c.datum) id (fun o=>some (PC.mk c.kind c.number c.params c.datum o)) c.kids hc'.2.2.1 (fun go i o hi ho=>?_) (fun go o=>?_)]
  ·rw [List.map_id];cases c;rfl
  ·show P4 (r7 n) c c.params c.datum go i o=_;unfold P4;rw [if_pos (by omega),t0 hi,f9,L4 n _ (by have:=R4 hi;omega) (B8 hc (List.getElem_mem hi)),f9,l8 (by simp;omega),l8 (by omega)];rfl
  ·show P4 (r7 n) c c.params c.datum go _ o=_;unfold P4;rw [if_neg (by omega)]
theorem Z5:∀(n:Nat) (c:PC),c.cnt<n→c.nice→B5 n c=some c
 |0,d,h,_=>by omega
 |n+1,c,h,hc=>by
  show lI (B5 n) c=_;unfold lI;have hc':=(A4 c).1 hc;rw [bM _ (by omega),f9,tX RF _ (RF_cnt (J9 hc)) (J9 hc),f9];rw [wF (L:=uC (B5 n) c c.params c.datum) id (fun o=>some (PC.mk c.kind c.number c.params c.datum o)) c.kids hc'.2.2.1 (fun go i o hi ho=>?_) (fun go o=>?_)]
  ·rw [List.map_id];cases c;rfl
  ·show Z4 (B5 n) c c.params c.datum go i o=_;unfold Z4;rw [if_pos (by omega),t0 hi,f9,Z5 n _ (by have:=R4 hi;omega) (B8 hc (List.getElem_mem hi)),f9,l8 (by simp;omega),l8 (by omega)];rfl
  ·show Z4 (B5 n) c c.params c.datum go _ o=_;unfold Z4;rw [if_neg (by omega)]
theorem oS (x:Int)(s:PC)(hs:s.nice)(hsc:s.cnt≤1048576):∀(n:Nat) (c:PC),c.cnt<n→c.nice→o3 n c x s=some (subst x s c)
 |0,d,h,_=>by omega
 |n+1,c,h,hc=>by
  show Y4 (o3 n) c x s=_;unfold Y4 O0;have hc':=(A4 c).1 hc;have e:(if c.kind=2 then(if decide (c.number=x)=true then bnd (r7 RF s) fun x6=>some x6 else bnd (r7 RF (PC.mk c.kind c.number c.params c.datum [])) fun x6=>itr (K4 (o3 n) c x s x6) LF (0,x6.kids))else if false=true then bnd (r7 RF s) fun x6=>some x6 else bnd (r7 RF (PC.mk c.kind c.number c.params c.datum [])) fun x6=>itr (K4 (o3 n) c x s x6) LF (0,x6.kids))=if c.kind=2∧c.number=x then bnd (r7 RF s) fun x6=>some x6 else bnd (r7 RF (PC.mk c.kind c.number c.params c.datum [])) fun x6=>itr (K4 (o3 n) c x s x6) LF (0,x6.kids):=by
   by_cases h1:c.kind=2<;>by_cases h2:c.number=x<;>simp [h1,h2]
  refine e.trans ?_;have e2:r7 RF (PC.mk c.kind c.number c.params c.datum [])=some (PC.mk c.kind c.number c.params c.datum []):=L4 RF _ (by rw [RF_eq];show 0<_;omega) ((A4 _).2 ⟨hc'.1,hc'.2.1,by show 0≤_;omega,trivial⟩);rw [nT,L4 RF s (RF_cntK (by omega)) hs,e2,f9,f9];split
  ·rfl
  ·show itr (K4 (o3 n) c x s (PC.mk c.kind c.number c.params c.datum [])) LF (0,[])=_;rw [wF (L:=K4 (o3 n) c x s (PC.mk c.kind c.number c.params c.datum [])) (subst x s) (fun o=>some (PC.mk c.kind c.number c.params c.datum o)) c.kids hc'.2.2.1 (fun go i o hi ho=>?_) (fun go o=>?_)]
   ·show I6 (o3 n) c x s _ go i o=_;unfold I6;rw [if_pos (by omega),t0 hi,f9,oS x s hs hsc n _ (by have:=R4 hi;omega) (B8 hc (List.getElem_mem hi)),f9,l8 (by simp;omega),l8 (by omega)]
   ·show I6 (o3 n) c x s _ go _ o=_;unfold I6;rw [if_neg (by omega)];rfl
theorem set_map {α:Type}{xs:List α}{f:α→α}{i:Nat}(h:i<xs.length):((xs.take i).map f++xs.drop i).set i (f xs[i])=(xs.take (i+1)).map f++xs.drop (i+1):=by
 rw [List.set_append_right _ _ (by simp;omega)];have e2:i-((xs.take i).map f).length=0:=by simp;omega
 rw [e2,List.drop_eq_getElem_cons h,List.set_cons_zero,List.take_add_one,List.map_append,List.append_assoc];simp [List.getElem?_eq_getElem h]
theorem lP (x:Int)(s:PC)(hs:s.nice)(hsc:s.cnt≤1048576):∀(n:Nat) (c:PC),c.cnt<n→c.nice→c.cnt≤1048576→n9 n c x s=some (subst x s c)
 |0,d,h,_,_=>by omega
 |n+1,c,h,hc,hcc=>by
  show W1 (n9 n) c x s=_;unfold W1 M3;have hc':=(A4 c).1 hc;rw [nT,Z5 RF s (RF_cntK (by omega)) hs,Z5 RF c (RF_cntK (by omega)) hc,f9,f9];have hl:itr (aK (n9 n) c x s c) LF (0,c.kids)=some (PC.mk c.kind c.number c.params c.datum (c.kids.map (subst x s))):=by
   rw [F3 (L:=aK (n9 n) c x s c) c.kids.length (fun i o=>o=(c.kids.take i).map (subst x s)++c.kids.drop i) (fun _ _=>some (PC.mk c.kind c.number c.params c.datum (c.kids.map (subst x s)))) (by omega) (fun go i o hi ho hgo=>?_) (fun go o ho=>?_) (by simp)]
   ·show G7 (n9 n) c x s c go i o=_;unfold G7;subst ho;rw [if_pos (by omega),t0 hi,f9,lP x s hs hsc n _ (by have:=R4 hi;omega) (B8 hc (List.getElem_mem hi)) (by have:=R4 hi;omega),f9,t0 (by simp;omega),f9,l8 (by omega),Int.toNat_natCast,set_map hi,hgo _ rfl]
   ·show G7 (n9 n) c x s c go _ o=_;unfold G7;subst ho;rw [if_neg (by omega)];simp
  by_cases h1:c.kind=2<;>by_cases h2:c.number=x<;>simp [h1,h2,hl]
end Go.Abs

namespace Go.Abs
open PC
theorem ah5 {k n m:Int}{t:LB}(h:PD.nodeOK k n t m=true):t.length≤20:=by
 unfold PD.nodeOK at h;by_cases k0:k=0
 ·rw [if_pos k0]at h;simp only [Bool.and_eq_true,decide_eq_true_eq]at h;rw [h.2];simp
 ·rw [if_neg k0]at h;by_cases k1:k=1
  ·rw [if_pos k1]at h;simp only [Bool.and_eq_true,decide_eq_true_eq]at h;have h2:=h.2.2;unfold isSymbol headBad at h2;simp only [Bool.and_eq_true,Bool.not_eq_true',Bool.or_eq_false_iff,decide_eq_false_iff_not]at h2;have:=h2.1.1.1.2;omega
  ·rw [if_neg k1]at h;by_cases k2:k=2
   ·rw [if_pos k2]at h;simp only [Bool.and_eq_true,decide_eq_true_eq]at h;rw [h.2.1];simp
   ·rw [if_neg k2]at h;by_cases k3:k=3
    ·rw [if_pos k3]at h;simp only [Bool.and_eq_true,decide_eq_true_eq]at h;rw [h.2.1];simp
    ·rw [if_neg k3]at h;by_cases k4:k=4
     ·rw [if_pos k4]at h;unfold isText at h;simp only [Bool.and_eq_true,decide_eq_true_eq]at h;have:=h.2.2.1;omega
     ·rw [if_neg k4]at h;cases h
theorem dat_w:(∀ d:PD,d.okAll=true→wD d≤20+21 * d.cnt)∧∀ ds:List PD,PD.okAlls ds=true→wDs ds≤21 * PD.cnts ds:=by
 refine PD.ind (fun ds h ho=>?_) (fun d h ho=>?_)
 ·induction ds with
  |nil=>simp [wDs]
  |cons x r ih=>
   unfold PD.okAlls at ho;rw [Bool.and_eq_true]at ho;have h1:=h x (by simp) ho.1;have h2:=ih (fun y hy=>h y (by simp [hy])) ho.2;unfold wDs PD.cnts;omega
 ·rw [PD.okAll_eq,Bool.and_eq_true]at ho;have h1:=ah5 ho.1;have h2:=h ho.2;rw [yW,PD.cnt_eq];omega
theorem valid_w {d:PD}(h:d.valid=true):wD d≤12600:=by
 unfold PD.valid at h;simp only [Bool.and_eq_true,decide_eq_true_eq]at h;have:=dat_w.1 d h.2.2;omega
theorem eqb_zero {d:PD}(h:PD.eqb d zeroDat=true):wD d=0:=by
 obtain⟨k,n,t,is⟩:=d;unfold zeroDat PD.eqb at h;simp only [Bool.and_eq_true,decide_eq_true_eq]at h;obtain ⟨_,_,h3,h4⟩:=h;cases is with
 |nil=>subst h3;rfl
 |cons x r=>unfold PD.eqbs at h4;cases h4
theorem shape_dat {c:PC}(h:shapeOK c=true)(k:¬ c.kind=1):wD c.datum=0:=by
 unfold shapeOK at h;rw [Bool.and_eq_true]at h;have h1:=h.1;rw [decide_eq_false k,Bool.false_or]at h1;exact eqb_zero h1
theorem zV {c:PC}(h:shapeOK c=true):c.params.length≤60∧c.kids.length≤60∧wD c.datum≤12600:=by
 have hd:=shape_dat h;unfold shapeOK at h;rw [Bool.and_eq_true,Bool.and_eq_true]at h;obtain ⟨_,_,h3⟩:=h;unfold inside at h3;by_cases k1:c.kind=1
 ·rw [if_pos k1]at h3;simp only [Bool.and_eq_true,decide_eq_true_eq]at h3;exact ⟨by omega,by omega,valid_w h3.2.2⟩
 ·have hd:=hd k1;rw [if_neg k1]at h3;refine ⟨?_,?_,by omega⟩;all_goals
   repeat' split at h3
   all_goals first
    |(simp only [Bool.and_eq_true,decide_eq_true_eq]at h3;omega)
    |cases h3
theorem core_w:(∀ c:PC,okAll c=true→wK c≤12660+12661 * c.cnt)∧∀ ds:List PC,okAlls ds=true→wKs ds≤12661 * cnts ds:=by
 refine ind (fun ds h ho=>?_) (fun c h ho=>?_)
 ·induction ds with
  |nil=>simp [wKs]
  |cons x r ih=>
   unfold okAlls at ho;rw [Bool.and_eq_true]at ho;have h1:=h x (by simp) ho.1;have h2:=ih (fun y hy=>h y (by simp [hy])) ho.2;unfold wKs cnts;omega
 ·have h1:=zV (cZ ho);rw [okAll_eq,Bool.and_eq_true]at ho;have h2:=h ho.2;rw [fL,cnt_eq];omega
theorem eI:(∀ c:PC,okAll c=true→c.nice)∧∀ ds:List PC,okAlls ds=true→nices ds:=by
 refine ind (fun ds h ho=>?_) (fun c h ho=>?_)
 ·exact ac1 fun x hx=>h x hx (Y7 ho hx)
 ·have h1:=zV (cZ ho);rw [okAll_eq,Bool.and_eq_true]at ho;exact (A4 c).2 ⟨by omega,by omega,by omega,h ho.2⟩
theorem ok_w {c:PC}(h:okAll c=true)(hc:c.cnt≤3000):wK c≤40000000:=by
 have:=core_w.1 c h;omega
theorem sL {c x:PC}(hv:okAll c=true)(hx:x∈c.kids):okAll x=true:=Y7 (ks:=c.kids) (by rw [okAll_eq,Bool.and_eq_true]at hv;exact hv.2) hx
end Go.Abs
