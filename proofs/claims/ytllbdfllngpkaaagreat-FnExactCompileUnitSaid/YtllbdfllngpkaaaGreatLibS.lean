
import Derived.Test.YtllbdfllngpkaaaGreatLibP
import Derived.Test.YtllbdfllngpkaaaGreatLibF
set_option linter.all false
namespace Go.Abs
def symI (b:Int):Bool:=(decide (97<=b)&&decide (b<=122))||(decide (48<=b)&&decide (b<=57))||markOdd.contains b
theorem symI_b (b:UInt8):symI b.toNat=markB b:=rfl
theorem i_isDigit_eq (b:Int):mA b=some (decide (48<=b)&&decide (b<=57)):=by
 unfold mA;by_cases h:48<=b<;>simp [h]
theorem zT (b:Int):fU b=some (decide (48<=b)&&decide (b<=57)):=by
 unfold fU;by_cases h:48<=b<;>simp [h]
theorem wJ (b:Int)(x:Bool):I6 b x=some (x||markOdd.contains b):=by
 unfold I6;cases x
 .by_cases h:markOdd.contains b=true
  .simp only [markOdd,List.contains_cons,Bool.or_eq_true,beq_iff_eq,List.contains_nil]at h;rcases h with h|h|h|h|h|h|h|h|h|h|h|h;all_goals first|(subst h;rfl)|cases h
  .have h':markOdd.contains b=false:=by simpa using h
   simp only [markOdd,List.contains_cons,Bool.or_eq_true,beq_iff_eq,List.contains_nil,not_or]at h;rw [h'];simp [h]
 .rfl
theorem ag7 (b:Int):fP b=some (symI b):=by
 unfold fP symI;simp only [wJ];by_cases h1:97<=b<;>by_cases h2:b<=122<;>by_cases h3:48<=b<;>simp [h1,h2,h3]
theorem an3 (b:Int)(x:Bool):bI b x=some (x||markOdd.contains b):=by
 unfold bI;cases x
 .simp only [Bool.false_eq_true,if_false,Bool.false_or];have:=lA (L:=uN b) 11 (fun i=>some ((markTab.drop i).any fun c=>decide (((c.toNat:Nat):Int)=b))) (by omega) (fun go i hi hgo=>?_) (fun go=>?_)
  .rw [this,List.drop_zero,markTab_any]
  .show dK b go i=_;unfold dK;have hl:i<markTab.length:=hi;have hl':(i:Int)<11:=by omega
   simp only [show ([33,63,42,60,62,61,47,43,45,46,95]:LB)=markTab from rfl,show(markTab.length:Int)=11 from rfl,hl',if_true,w6 hl,g8];rw [p0 (by omega),hgo,List.drop_eq_getElem_cons hl,List.any_cons];by_cases h:(markTab[i].toNat:Int)=b<;>simp [h]
  .show dK b go ((11:Nat):Int)=_;rfl
 .rfl
theorem s_l1Mark_eq (b:Int):xI b=some (symI b):=by
 unfold xI symI;simp only [an3,zT,g8];by_cases h1:97<=b<;>by_cases h2:b<=122<;>simp [h1,h2]
def SM (l:LB):Prop:=l.length<=9223372036854775806
theorem ag0 (s:LB)(h:SM s):itr (nT s) LF 0=some (s.all markB):=by
 rw [oA s markB (some true) (some false) (by unfold SM at h;omega) (fun go i hi=>?_) (fun go=>?_)]
 .cases s.all markB<;>rfl
 .show V3 s go i=_;unfold V3 SM at *;simp only [show ((i:Int)<(s.length:Int))from by omega,if_true,w6 hi,g8,ag7,symI_b];rw [p0 (by omega)]
 .show V3 s go _=_;unfold V3;simp
theorem aj2 (s:LB)(h:SM s):itr (oI s) LF 0=some (s.all markB):=by
 rw [oA s markB (some true) (some false) (by unfold SM at h;omega) (fun go i hi=>?_) (fun go=>?_)]
 .cases s.all markB<;>rfl
 .show W4 s go i=_;unfold W4 SM at *;simp only [show ((i:Int)<(s.length:Int))from by omega,if_true,w6 hi,g8,s_l1Mark_eq,symI_b];rw [p0 (by omega)]
 .show W4 s go _=_;unfold W4;simp
theorem wA (s:LB)(h:SM s):gS s=some (isSymbol s):=by
 unfold gS;have hJ:∀ b,K2 s b=some (!b&&s.all markB):=fun b=>by
  unfold K2;cases b
  .simp [ag0 s h]
  .rfl
 simp only [hJ,i_isDigit_eq,g8];unfold isSymbol headBad isDigit;by_cases h1:(s.length:Int)<1
 .simp [h1]
 .by_cases h2:(s.length:Int)>16
  .simp [h1,h2]
  .have hl:0<s.length:=by omega
   have e0:nth s 0=some (s.getD 0 0):=by rw [show (0:Int)=((0:Nat):Int)from rfl,w6 hl];simp [List.getD,List.getElem?_eq_getElem hl]
   simp only [h1,h2,if_false,e0,g8];generalize s.getD 0 0=b0;by_cases h3:(decide (48<=(b0.toNat:Int))&&decide ((b0.toNat:Int)<=57))=true
   .simp [h3]
   .simp only [h3,if_false];by_cases h4:(b0.toNat:Int)=45
    .by_cases h5:(s.length:Int)>1
     .have hl1:1<s.length:=by omega
      have e1:nth s 1=some (s.getD 1 0):=by rw [show (1:Int)=((1:Nat):Int)from rfl,w6 hl1];simp [List.getD,List.getElem?_eq_getElem hl1]
      simp [h4,h5,e1]
     .simp [h4,h5]
    .simp [h4]
theorem aE (x a b:Int):bW x a b=some (inside x a b):=by
 unfold bW inside;by_cases h:a<=x<;>simp [h]
theorem xE (s:LB)(h:SM s):gW s=some (isSymbol s):=by
 unfold gW;have hJ:∀ b,N8 s b=some (!b&&s.all markB):=fun b=>by
  unfold N8;cases b
  .simp [aj2 s h]
  .rfl
 simp only [hJ,zT,g8,aE];unfold isSymbol headBad isDigit inside;by_cases h1:(s.length:Int)<1
 .have h1':(decide (1<=(s.length:Int)))=false:=by simp;omega
  simp [h1,h1']
 .by_cases h2:(s.length:Int)>16
  .simp [h1,h2];omega
  .have hl:0<s.length:=by omega
   have e0:nth s 0=some (s.getD 0 0):=by rw [show (0:Int)=((0:Nat):Int)from rfl,w6 hl];simp [List.getD,List.getElem?_eq_getElem hl]
   have h1':1<=(s.length:Int):=by omega
   have h2':(s.length:Int)<=16:=by omega
   simp only [h1',h2',h1,h2,decide_true,Bool.and_self,if_true,e0,g8];generalize s.getD 0 0=b0;by_cases h3:(decide (48<=(b0.toNat:Int))&&decide ((b0.toNat:Int)<=57))=true
   .simp [h3]
   .simp only [h3,if_false];by_cases h4:(b0.toNat:Int)=45
    .by_cases h5:(s.length:Int)>1
     .have hl1:1<s.length:=by omega
      have e1:nth s 1=some (s.getD 1 0):=by rw [show (1:Int)=((1:Nat):Int)from rfl,w6 hl1];simp [List.getD,List.getElem?_eq_getElem hl1]
      simp [h4,h5,e1]
     .simp [h4,h5]
    .simp [h4]
theorem ag5 (s:LB)(h:SM s):fO s=some (isText s):=by
 unfold fO isText;have hL:itr (iM s) LF 0=some (s.all fun b=>!badChar b):=by
  rw [oA s (fun b=>!badChar b) (some true) (some false) (by unfold SM at h;omega) (fun go i hi=>?_) (fun go=>?_)]
  .cases (s.all fun b=>!badChar b)<;>rfl
  .show O9 s go i=_;unfold O9 SM at *;simp only [show ((i:Int)<(s.length:Int))from by omega,if_true,w6 hi,g8];rw [p0 (by omega)];unfold badChar;by_cases h1:(s[i].toNat:Int)<32<;>by_cases h2:(s[i].toNat:Int)>126<;>by_cases h3:(s[i].toNat:Int)=34<;>simp [h1,h2,h3]
  .show O9 s go _=_;unfold O9;simp
 rw [hL];by_cases h1:(s.length:Int)>20
 .have:(decide ((s.length:Int)<=20))=false:=by simp;omega
  simp [h1,this]
 .have:(s.length:Int)<=20:=by omega
  simp [h1];omega
theorem ax1 (s:LB)(h:SM s):mV s=some (isText s):=by
 unfold mV isText;rw [oA s (fun b=>!badChar b) (some (decide ((s.length:Int)<=20))) (some false) (by unfold SM at h;omega) (fun go i hi=>?_) (fun go=>?_)]
 .cases (s.all fun b=>!badChar b)<;>simp
 .show W7 s go i=_;unfold W7 SM at *;simp only [show ((i:Int)<(s.length:Int))from by omega,if_true,w6 hi,g8];rw [p0 (by omega)];unfold badChar;by_cases h1:(s[i].toNat:Int)<32<;>by_cases h2:(s[i].toNat:Int)>126<;>by_cases h3:(s[i].toNat:Int)=34<;>simp [h1,h2,h3]
 .show W7 s go _=_;unfold W7;simp
theorem am3 (k n:Int)(t:LB)(m:Int)(h:SM t):iL k n t m=some (PD.nodeOK k n t m):=by
 unfold iL PD.nodeOK inside;simp only [wA t h,ag5 t h,g8];repeat' split
 all_goals simp_all<;>omega
theorem s_l1Node_eq (k n:Int)(t:LB)(m:Int)(h:SM t):xJ k n t m=some (PD.nodeOK k n t m):=by
 unfold xJ PD.nodeOK;simp only [xE t h,ax1 t h,aE,g8];repeat' split
 all_goals simp_all<;>omega
end Go.Abs

namespace Go.Abs
open PD
theorem small_SM {d:PD}(h:d.small):SM d.text:=by
 have:=((ax7 d).1 h.1).1;unfold SM;omega
theorem fY {d:PD}(h:d.small):d.items.length<=1048576:=by
 have h1:=cnts_len d.items;have h2:=h.2;rw [cnt_eq]at h2;omega
theorem O4 {d:PD}(h:d.small){i:Nat}(hi:i<d.items.length):(d.items[i]).small/\(d.items[i]).cnt<d.cnt:=
 ⟨small_item h (List.getElem_mem hi),ar4 (List.getElem_mem hi)⟩
theorem eq_loop {E:PD->PD->Option Bool}{L:(Int->Option Bool)->Int->Option Bool}(a b:PD)(hl:a.items.length=b.items.length)(hn:a.items.length<=1048576)
 (hE:∀ i (h:i<a.items.length) (h2:i<b.items.length),E a.items[i] b.items[i]=some (eqb a.items[i] b.items[i]))
 (hL:∀ go (i:Int),L go i=if i<(a.items.length:Int)then bnd (nth a.items i) fun x=>bnd (nth b.items i) fun y=>bnd (E x y) fun e=>if e=true then chk (I64 (i+1)) (go (i+1))else some false else some true):
 itr L LF 0=some (eqbs a.items b.items):=by
 rw [lA (L:=L) a.items.length (fun i=>some (eqbs (a.items.drop i) (b.items.drop i))) (by omega) (fun go i hi hgo=>?_) (fun go=>?_)]
 .rfl
 .have hi2:i<b.items.length:=by omega
  rw [hL,if_pos (by omega),w6 hi,w6 hi2];simp only [g8,hE i hi hi2];rw [p0 (by omega),hgo,List.drop_eq_getElem_cons hi,List.drop_eq_getElem_cons hi2,eqbs];cases eqb a.items[i] b.items[i]<;>simp
 .rw [hL,if_neg (by omega),List.drop_length,hl,List.drop_length];rfl
theorem kW:∀(n:Nat) (a b:PD),a.cnt<n->a.small->B8 n a b=some (eqb a b)
 |0,a,b,h,_=>by omega
 |n+1,a,b,h,ha=>by
  show dR (B8 n) a b=_;unfold dR;rw [eqb_eq];by_cases h1:a.kind=b.kind<;>by_cases h2:a.number=b.number<;>by_cases h3:a.text=b.text<;>simp only [h1,h2,h3,if_true,if_false,decide_true,decide_false,Bool.true_and,Bool.false_and]
  by_cases h4:a.items.length=b.items.length
  .rw [if_pos (by omega),eq_loop (L:=kV (B8 n) a b) a b h4 (fY ha) (E:=B8 n) (fun i hi hi2=>kW n _ _ (by have:=(O4 ha hi).2;omega) (O4 ha hi).1) (fun go i=>rfl)]
  .rw [if_neg (by omega)];cases he:eqbs a.items b.items
   .rfl
   .exact absurd (as0 he) h4
theorem lC:∀(n:Nat) (a b:PD),a.cnt<n->a.small->C4 n a b=some (eqb a b)
 |0,a,b,h,_=>by omega
 |n+1,a,b,h,ha=>by
  show eA (C4 n) a b=_;unfold eA;rw [eqb_eq];by_cases h1:a.kind=b.kind<;>by_cases h2:a.number=b.number<;>by_cases h3:a.text=b.text<;>simp only [h1,h2,h3,if_true,if_false,decide_true,decide_false,Bool.true_and,Bool.false_and]
  by_cases h4:a.items.length=b.items.length
  .rw [if_pos (by omega),eq_loop (L:=lB (C4 n) a b) a b h4 (fY ha) (E:=C4 n) (fun i hi hi2=>lC n _ _ (by have:=(O4 ha hi).2;omega) (O4 ha hi).1) (fun go i=>rfl)]
  .rw [if_neg (by omega)];cases he:eqbs a.items b.items
   .rfl
   .exact absurd (as0 he) h4
theorem RF_cnt {d:PD}(h:d.small):d.cnt<RF:=by rw [RF_eq];have:=h.2;omega
theorem zM:∀(n:Nat) (d:PD) (deep nodes:Int),d.cnt<n->d.small->0<=deep->deep<=21->0<=nodes->nodes<=600->G5 n d deep nodes=some (meas d deep nodes)
 |0,d,_,_,h,_,_,_,_,_=>by omega
 |n+1,d,deep,nodes,h,hd,h1,h2,h3,h4=>by
  show iI (G5 n) d deep nodes=_;unfold iI;rw [meas_eq,p0 (by omega)];by_cases h5:deep>20
  .rw [if_pos h5,if_pos (.inl h5)]
  .rw [if_neg h5];by_cases h6:nodes+1>600
   .rw [if_pos h6,if_pos (.inr (.inl h6))]
   .rw [if_neg h6,am3 _ _ _ _ (small_SM hd)];simp only [g8];cases h7:nodeOK d.kind d.number d.text d.items.length
    .simp
    .rw [if_pos rfl,if_neg (by simp;omega)];have hs:=fY hd;rw [I3 (L:=qC (G5 n) d deep) d.items.length (fun i a=>0<=a/\a<=600) (fun i a=>some (measL (d.items.drop i) (deep+1) a)) (by omega) (fun go i a hi ha hgo=>?_) (fun go a ha=>?_) (by omega)]
     .rfl
     .show Y6 (G5 n) d deep go i a=_;unfold Y6;rw [if_pos (by omega),w6 hi];simp only [g8];rw [p0 (by omega),zM n _ _ _ (by have:=(O4 hd hi).2;omega) (O4 hd hi).1 (by omega) (by omega) ha.1 ha.2];simp only [g8];rw [List.drop_eq_getElem_cons hi,measL];by_cases h8:(meas d.items[i] (deep+1) a).1=true
      .rw [if_pos h8,if_pos h8,p0 (by omega),hgo];have:=(qF.1 d.items[i] (deep+1) a)
       have h9:=this.1.1 h8;have h10:=this.2 h8;omega
      .rw [if_neg h8,if_neg h8]
     .show Y6 (G5 n) d deep go _ a=_;unfold Y6;rw [if_neg (by omega),List.drop_length];rfl
theorem zI (d:PD)(h:d.small):lV d=some d.valid:=by
 unfold lV;rw [zM RF d 1 0 (RF_cnt h) h (by omega) (by omega) (by omega) (by omega)];simp only [g8,meas_valid]
theorem s_l1Few_eq (n:Nat):∀(d:PD) (left:Int),d.cnt<n->d.small->0<=left->left<=600->N4 n d left=some (decide (0<=few d left),few d left):=by
 induction n with
 |zero=>intro d _ h;omega
 |succ n ih=>
  intro d left h hd h1 h2;show qU (N4 n) d left=_;unfold qU;rw [few_eq,p0 (by omega)];have hs:=fY hd;rw [I3 (L:=yX (N4 n) d) d.items.length (fun i a=> -1<=a/\a<=600) (fun i a=>some (decide (0<=fews (d.items.drop i) a),fews (d.items.drop i) a)) (by omega) (fun go i a hi ha hgo=>?_) (fun go a ha=>?_) (by omega)]
  .rw [List.drop_zero]
  .show cW (N4 n) d go i a=_;unfold cW eY;rw [if_pos (by omega),List.drop_eq_getElem_cons hi,fews];by_cases h0:0<=a
   .rw [if_pos (by simpa using h0),if_pos h0,w6 hi];rw [g8];rw [ih _ _ (by have:=(O4 hd hi).2;omega) (O4 hd hi).1 h0 ha.2];rw [g8];have:=(vL.1 d.items[i] a h0).1;generalize few d.items[i] a=z at this |-;rw [p0 (by omega),hgo _ (by omega)]
   .rw [if_neg (by simpa using h0),if_neg h0]
  .show cW (N4 n) d go _ a=_;unfold cW eY;rw [if_neg (by omega),List.drop_length];simp only [fews,Bool.false_eq_true,if_false];rfl
theorem s_DepthOf_eq (n:Nat):∀(d:PD),d.cnt<n->d.small->G6 n d=some d.depth:=by
 induction n with
 |zero=>intro d h;omega
 |succ n ih=>
  intro d h hd;show iT (G6 n) d=_;unfold iT;have hs:=fY hd;have hc:=hd.2;have hdc:=vG.1 d;have hmax:∀ x∈d.items,0<=x.depth/\x.depth<=1048577:=fun x hx=>by
   have h1:=vG.1 x;have h2:=ar4 hx;omega
  rw [at9 (L:=qN (G6 n) d) d.items.length (fun i a=>0<=a/\a<=1048577) (fun i a=>some (max a (depths (d.items.drop i))+1)) (by omega) (fun go i a hi ha hgo=>?_) (fun go a ha=>?_) (by omega)]
  .rw [vI,List.drop_zero];have:=J8 d.items;rw [Int.max_eq_right this]
  .show Y9 (G6 n) d go a i=_;unfold Y9;have hx:=hmax _ (List.getElem_mem hi);rw [if_pos (by omega),w6 hi];rw [g8];rw [ih _ (by have:=(O4 hd hi).2;omega) (O4 hd hi).1];rw [g8];rw [List.drop_eq_getElem_cons hi,depths];generalize depth d.items[i]=z at hx |-;rw [p0 (by omega),hgo _ (by omega),Int.max_assoc]
  .show Y9 (G6 n) d go a _=_;unfold Y9;rw [if_neg (by omega),List.drop_length,p0 (by omega)];simp only [depths];rw [Int.max_eq_left ha.1]
theorem zU:∀(n:Nat) (d:PD),d.cnt<n->d.small->G7 n d=some d.okAll
 |0,d,h,_=>by omega
 |n+1,d,h,hd=>by
  show jB (G7 n) d=_;unfold jB;have hs:=fY hd;rw [okAll_eq,lA (L:=qV (G7 n) d) d.items.length (fun i=>some (okAlls (d.items.drop i)&&nodeOK d.kind d.number d.text d.items.length)) (by omega) (fun go i hi hgo=>?_) (fun go=>?_)]
  .rw [List.drop_zero,Bool.and_comm]
  .show Z4 (G7 n) d go i=_;unfold Z4;rw [if_pos (by omega),w6 hi];simp only [g8];rw [zU n _ (by have:=(O4 hd hi).2;omega) (O4 hd hi).1];simp only [g8];rw [p0 (by omega),hgo,List.drop_eq_getElem_cons hi,okAlls];cases okAll d.items[i]<;>simp
  .show Z4 (G7 n) d go _=_;unfold Z4;rw [if_neg (by omega),List.drop_length,s_l1Node_eq _ _ _ _ (small_SM hd)];simp [okAlls]
theorem zQ (d:PD)(h:d.small):mL d=some d.valid:=by
 unfold mL;rw [s_l1Few_eq RF d 600 (RF_cnt h) h (by omega) (by omega),s_DepthOf_eq RF d (RF_cnt h) h,zU RF d (RF_cnt h) h];simp only [g8];rw [<- few_valid];by_cases h1:0<=few d 600<;>by_cases h2:d.depth<=20<;>simp [h1,h2]
theorem i_instrOk_eq (x:ej)(h:x.d.small):qA x=some (instrOK x):=by
 unfold qA instrOK inside;rw [zI _ h,kW RF _ _ (RF_cnt h) h];simp only [g8,show PD.mk 0 0 ([]:LB) []=zeroDat from rfl];by_cases h1:x.op<1
 .have:¬ 1<=x.op:=by omega
  simp [h1,this]
 .have h1':1<=x.op:=by omega
  by_cases h2:x.op>20
  .have:¬ x.op<=20:=by omega
   simp [h1,h2,this]
  .have h2':x.op<=20:=by omega
   by_cases h3:x.op=1
   .by_cases h4:x.a=0<;>simp [h3,h4]
   .simp only [h1,h2,h3,h1',h2',if_false,decide_true,Bool.true_and,Bool.and_self];cases eqb x.d zeroDat
    .simp
    .by_cases h5:x.a<0
     .have:¬ 0<=x.a:=by omega
      simp [h5,this]
     .have h5':0<=x.a:=by omega
      by_cases h6:x.a>4000
      .have:¬ x.a<=4000:=by omega
       simp [h5,h6,this]
      .have h6':x.a<=4000:=by omega
       by_cases h7:x.a=0<;>by_cases h8:x.op=14<;>simp [h5,h6,h5',h6',h7,h8]
theorem aw5 (x:ej)(h:x.d.small):mT x=some (instrOK x):=by
 unfold mT instrOK sQ;rw [zQ _ h,lC RF _ _ (RF_cnt h) h];simp only [g8,show PD.mk 0 0 ([]:LB) []=zeroDat from rfl,aE];cases inside x.op 1 20
 .simp
 .by_cases h3:x.op=1
  .by_cases h4:x.a=0<;>simp [h3,h4]
  .cases eqb x.d zeroDat
   .simp [h3]
   .cases inside x.a 0 4000
    .simp [h3]
    .by_cases h7:x.a=0<;>by_cases h8:x.op=14<;>simp [h3,h7,h8]
end Go.Abs

namespace Go.Abs
theorem gO {α:Type}{d:α}{l:List α}{i:Int}(h:0<=i)(h2:i<l.length):nth l i=some (l.getD i.toNat d):=by
 rw [nth_int h h2];have:i.toNat<l.length:=by omega
 simp [List.getD,List.getElem?_eq_getElem this]
theorem cM {α:Type}{d:α}{l:List α}{i:Nat}(h:i<l.length):nth l (i:Int)=some (l.getD i d):=by
 rw [w6 h];simp [List.getD,List.getElem?_eq_getElem h]
theorem sI (n:Int):n=1\/n=2\/n=3\/n=4\/n=5\/n=6\/n=7\/n=8\/n=9\/n=10\/n=11\/n=12\/n=13\/n=14\/n=15\/n=16\/n=17\/n=18\/n=19\/n=20\/(¬ n=1/\¬ n=2/\¬ n=3/\¬ n=4/\¬ n=5/\¬ n=6/\¬ n=7/\¬ n=8/\¬ n=9/\¬ n=10/\¬ n=11/\¬ n=12/\¬ n=13/\¬ n=14/\¬ n=15/\¬ n=16/\¬ n=17/\¬ n=18/\¬ n=19/\¬ n=20):=by omega
def namedOp (x:ej):Prop:=x.op=11\/x.op=18\/x.op=19\/x.op=20
instance (x:ej):Decidable (namedOp x):=by unfold namedOp;infer_instance
theorem i_effect_eq (m:eo)(x:ej)(h:namedOp x->0<=x.a/\x.a<m.codes.length)(ha:0<=x.a/\x.a<=4000):wG m x=some (effectOf m x):=by
 unfold wG effectOf;rw [p0 (by omega),p0 (by omega)];by_cases hn:namedOp x
 .obtain ⟨h1,h2⟩:=h hn;rw [gO (d:=default) h1 h2];unfold namedOp at hn;rcases hn with hn|hn|hn|hn<;>simp [hn]
 .unfold namedOp at hn;simp only [not_or]at hn;obtain ⟨n1,n2,n3,n4⟩:=hn;clear h;rcases sI x.op with h|h|h|h|h|h|h|h|h|h|h|h|h|h|h|h|h|h|h|h|h<;>first|exact absurd h n1|exact absurd h n2|exact absurd h n3|exact absurd h n4|simp [h]
theorem am9 (m:eo)(x:ej)(h:namedOp x->0<=x.a/\x.a<m.codes.length)(ha:0<=x.a/\x.a<=4000):iX m x=some (effectOf m x):=by
 unfold iX effectOf;rw [p0 (by omega),p0 (by omega)];by_cases hn:namedOp x
 .obtain ⟨h1,h2⟩:=h hn;rw [gO (d:=default) h1 h2];unfold namedOp at hn;rcases hn with hn|hn|hn|hn<;>simp [hn]
 .unfold namedOp at hn;simp only [not_or]at hn;obtain ⟨n1,n2,n3,n4⟩:=hn;clear h;rcases sI x.op with h|h|h|h|h|h|h|h|h|h|h|h|h|h|h|h|h|h|h|h|h<;>first|exact absurd h n1|exact absurd h n2|exact absurd h n3|exact absurd h n4|simp [h]
theorem s_prims:P3=M0:=rfl
theorem ap7:∃ l,M0=some l/\(l.length:Int)=14:=⟨_,rfl,rfl⟩
theorem am1 (m:eo)(c:ek)(k:Int)(x:ej)(ha:0<=x.a)(hk:k<=m.codes.length):iK m c k x=some (fitsOf false m c k x):=by
 obtain⟨l,hl,hl2⟩:=ap7;unfold iK aG fitsOf;rw [hl];simp only [g8,hl2];by_cases hx:x.a<k
 .rw [gO (d:=default) ha (by omega)];simp only [g8,hx,if_true,decide_true,Bool.true_and];clear hl hl2;by_cases h9:c.params<=x.a<;>rcases sI x.op with h|h|h|h|h|h|h|h|h|h|h|h|h|h|h|h|h|h|h|h|h<;>simp [h,h9]
 .simp only [hx,if_false,decide_false,Bool.false_and];clear hl hl2;by_cases h9:c.params<=x.a<;>rcases sI x.op with h|h|h|h|h|h|h|h|h|h|h|h|h|h|h|h|h|h|h|h|h<;>simp [h,h9]
theorem s_l10Fits_eq (m:eo)(k:Nat)(x:ej)(ha:0<=x.a)(hk:k<m.codes.length)(hs:0<=(m.codes.getD k default).slots/\(m.codes.getD k default).slots<=500):qR m k x=some (fitsOf true m (m.codes.getD k default) k x):=by
 obtain⟨l,hl,hl2⟩:=ap7;unfold qR dF fitsOf;rw [cM (d:=default) hk,s_prims,hl];simp only [g8,hl2];generalize m.codes.getD k default=c at hs |-;rw [p0 (by omega),aE];simp only [g8];have e:inside x.a c.params (c.slots-1)=(decide (c.params<=x.a)&&decide (x.a<c.slots)):=by
  unfold inside;congr 1;exact decide_eq_decide.2 (by omega)
 rw [e];by_cases hx:x.a<k
 .rw [gO (d:=default) ha (by omega)];simp only [g8,hx,if_true,decide_true,Bool.true_and];clear hl hl2;rcases sI x.op with h|h|h|h|h|h|h|h|h|h|h|h|h|h|h|h|h|h|h|h|h<;>simp [h]
 .simp only [hx,if_false,decide_false,Bool.false_and];clear hl hl2;rcases sI x.op with h|h|h|h|h|h|h|h|h|h|h|h|h|h|h|h|h|h|h|h|h<;>simp [h]
theorem i_codeOk_eq (m:eo)(k:Nat)(hm:m.small)(hk:k<m.codes.length):wE m k=some (codeOKs false m k):=by
 have hc:=hm.2 _ (as3 (d:=default) hk);unfold wE;rw [cM (d:=default) hk,codeOK_c];simp only [g8];generalize m.codes.getD k default=c at hc |-;unfold codeOKc headOK inside;have hL:itr (tS m k c) LF 0=some (c.instrs.all fun x=>instrOK x&&fitsOf false m c k x):=by
  rw [oA c.instrs (fun x=>instrOK x&&fitsOf false m c k x) (some true) (some false) (by have:=hc.1;omega) (fun go i hi=>?_) (fun go=>?_)]
  .cases (c.instrs.all fun x=>instrOK x&&fitsOf false m c k x)<;>rfl
  .show aV m k c go i=_;unfold aV;have:=hc.1;rw [if_pos (by omega),w6 hi,g8,i_instrOk_eq _ (hc.2 _ (List.getElem_mem hi)),g8];cases h1:instrOK c.instrs[i]
   .rfl
   .rw [am1 m c k _ (wL h1).1 (by omega),g8,if_pos rfl,p0 (by omega),Bool.true_and]
  .show aV m k c go _=_;unfold aV;rw [if_neg (by omega)]
 rw [hL];by_cases h1:c.params<0
 .have:decide (0<=c.params)=false:=by simp;omega
  simp [h1,this]
 .have h1':decide (0<=c.params)=true:=by simp;omega
  by_cases h2:c.params>8
  .have:decide (c.params<=8)=false:=by simp;omega
   simp [h1,h2,this]
  .have h2':decide (c.params<=8)=true:=by simp;omega
   by_cases h3:c.slots<c.params
   .have:decide (c.params<=c.slots)=false:=by simp;omega
    simp [h1,h2,h3,this]
   .have h3':decide (c.params<=c.slots)=true:=by simp;omega
    by_cases h4:c.slots>500
    .have:decide (c.slots<=500)=false:=by simp;omega
     simp [h1,h2,h3,h4,this]
    .have h4':decide (c.slots<=500)=true:=by simp;omega
     by_cases h5:c.captures<0
     .have:decide (0<=c.captures)=false:=by simp;omega
      simp [h1,h2,h3,h4,h5,this]
     .have h5':decide (0<=c.captures)=true:=by simp;omega
      by_cases h6:c.captures>500
      .have:decide (c.captures<=500)=false:=by simp;omega
       simp [h1,h2,h3,h4,h5,h6,this]
      .have h6':decide (c.captures<=500)=true:=by simp;omega
       by_cases h7:(c.instrs.length:Int)<1
       .have:decide (1<=(c.instrs.length:Int))=false:=by simp;omega
        simp [h1,h2,h3,h4,h5,h6,h7,this]
       .have h7':decide (1<=(c.instrs.length:Int))=true:=by simp;omega
        by_cases h8:(c.instrs.length:Int)>4000
        .have:decide ((c.instrs.length:Int)<=4000)=false:=by simp;omega
         simp [h1,h2,h3,h4,h5,h6,h7,h8,this]
        .have h8':decide ((c.instrs.length:Int)<=4000)=true:=by simp;omega
         simp only [h1,h2,h3,h4,h5,h6,h7,h8,h1',h2',h3',h4',h5',h6',h7',h8',if_false,Bool.and_self,Bool.true_and]
theorem yF {c:ek}(h:headOK c=true):(0<=c.slots/\c.slots<=500)/\(0<=c.captures/\c.captures<=500)/\1<=c.instrs.length/\c.instrs.length<=4000:=by
 unfold headOK inside at h;simp only [Bool.and_eq_true,decide_eq_true_eq]at h;omega
theorem s_l10Code_eq (m:eo)(k:Nat)(hm:m.small)(hk:k<m.codes.length):qQ m k=some (codeOKs true m k):=by
 have hc:=hm.2 _ (as3 (d:=default) hk);unfold qQ;rw [cM (d:=default) hk,codeOK_c];simp only [g8,aE];have hf:=fun x=>s_l10Fits_eq m k x;generalize m.codes.getD k default=c at hc hf |-;unfold codeOKc headOK;cases h1:inside c.params 0 8
 .rfl
 cases h2:inside c.slots c.params 500
 .rfl
 cases h3:inside c.captures 0 500
 .rfl
 cases h4:inside c.instrs.length 1 4000
 .rfl
 have hh:headOK c=true:=by unfold headOK;rw [h1,h2,h3,h4];rfl
 simp only [if_true,Bool.true_and];rw [oA c.instrs (fun x=>instrOK x&&fitsOf true m c k x) (some true) (some false) (by have:=hc.1;omega) (fun go i hi=>?_) (fun go=>?_)]
 .cases (c.instrs.all fun x=>instrOK x&&fitsOf true m c k x)<;>rfl
 .show Z0 m k c go i=_;unfold Z0;have:=hc.1;rw [if_pos (by omega),w6 hi,g8,aw5 _ (hc.2 _ (List.getElem_mem hi)),g8];cases h5:instrOK c.instrs[i]
  .rfl
  .rw [hf _ (wL h5).1 hk (yF hh).1,g8,if_pos rfl,p0 (by omega),Bool.true_and]
 .show Z0 m k c go _=_;unfold Z0;rw [if_neg (by omega)]
structure InsOK (m:eo) (x:ej):Prop where
 a:0<=x.a/\x.a<=4000
 named:namedOp x->x.a<m.codes.length
 take:0<=(effectOf m x).1/\(effectOf m x).1<=4001
theorem fits_named {s:Bool}{m:eo}{c:ek}{k:Int}{x:ej}(h:fitsOf s m c k x=true)(hn:namedOp x):x.a<k:=by
 unfold fitsOf at h;unfold namedOp at hn;rcases hn with hn|hn|hn|hn<;>simp [hn]at h<;>omega
theorem at8 {m:eo}{k:Nat}(hk:k<m.codes.length)(h:∀ i,i<=k->codeOKs false m i=true):∀ x∈(m.codes.getD k default).instrs,InsOK m x:=fun x hx=>by
 have h0:=h k (Nat.le_refl _);unfold codeOKs at h0;simp only [Bool.and_eq_true,List.all_eq_true]at h0;have h1:=h0.2 x hx;have h2:=wL h1.1;have hn:namedOp x->x.a<k:=fits_named h1.2;refine ⟨⟨h2.1,h2.2.1⟩,fun hq=>by have:=hn hq;omega,?_⟩;unfold effectOf;repeat' split
 all_goals try (dsimp only;omega)
 rename_i hq;have hq':=hn hq;have h3:=h x.a.toNat (by omega);unfold codeOKs at h3;simp only [Bool.and_eq_true]at h3;have:=(yF h3.1).2.1;dsimp only;omega
def putAll (i len v:Int):LI->LI->Option LI
 | [],out=>some out
 |k::r,out=>match putD i len v k out with |some o=>putAll i len v r o|none=>none
def dres:Option LI->LI×Bool
 |some o=>(o,true)
 |none=>([],false)
def nextOf (i:Int)(x:ej):LI:=if x.op=14\/x.op=13 then []else if x.op=15 then [x.a]else if x.op=16 then [i+1,x.a]else [i+1]
theorem wT (i len v:Int)(x:ej)(out:LI)(h:x.op=14\/x.op=13->v=0):nextD i len v x out=putAll i len v (nextOf i x) out:=by
 unfold nextD nextOf;split
 .rename_i hx;rw [if_pos (h hx)];rfl
 .split
  .simp only [putAll];cases putD i len v x.a out<;>rfl
  .split
   .simp only [putAll];cases h1:putD i len v (i+1) out with
    |none=>rfl
    |some o=>simp only;cases putD i len v x.a o<;>rfl
   .simp only [putAll];cases putD i len v (i+1) out<;>rfl
theorem mG {i len v k:Int}{out:LI}(h:k<=i\/len<=k\/(0<=at0 out k/\¬ at0 out k=v)):putD i len v k out=none:=if_pos h
theorem wY {i len v k:Int}{out:LI}(h:¬ (k<=i\/len<=k\/(0<=at0 out k/\¬ at0 out k=v))):putD i len v k out=some (out.set k.toNat v):=if_neg h
theorem au6 {out:LI}{k:Int}(h:0<=k)(h2:k<out.length):nth out k=some (at0 out k):=gO h h2
theorem i_next_eq (c:ek)(i:Int)(go:Int×LI->Option (LI×Bool))(tl:Int×Int)(d:Int)(next:LI)(hi:0<=i)(hn:next.length<=1000)(out0:LI)(h0:out0.length=c.instrs.length):
 itr (gM c i go tl d next) LF (0,out0)=match putAll i c.instrs.length ((d-tl.1)+tl.2) next out0 with |some o=>P9 i go o|none=>some ([],false):=by
 rw [I3 (L:=gM c i go tl d next) next.length (fun _ o=>o.length=c.instrs.length) (fun j o=>match putAll i c.instrs.length ((d-tl.1)+tl.2) (next.drop j) o with |some o=>P9 i go o|none=>some ([],false)) (by omega) (fun go2 j o hj ho hgo=>?_) (fun go2 o ho=>?_) h0]
 .rw [List.drop_zero]
 .show V8 c i go tl d next go2 j o=_;unfold V8 U6;rw [if_pos (by omega),w6 hj,g8,List.drop_eq_getElem_cons hj];simp only [putAll];generalize next[j]=k;by_cases h1:k<=i
  .rw [if_pos h1,mG (.inl h1)];rfl
  .rw [if_neg h1];by_cases h2:k>=c.instrs.length
   .rw [if_pos h2,mG (.inr (.inl h2))];rfl
   .rw [if_neg h2,au6 (by omega) (by omega),g8,g8,g8,p0 (by omega)];have hg:=hgo (o.set k.toNat ((d-tl.1)+tl.2)) (by rw [List.length_set,ho]);by_cases h3:at0 o k>=0
    .rw [if_pos h3];by_cases h4:at0 o k=(d-tl.1)+tl.2
     .rw [wY (by omega),h4,hg];simp
     .rw [mG (.inr (.inr ⟨h3,h4⟩))];simp [h4]
    .rw [if_neg h3,wY (by omega),hg];simp
 .show V8 c i go tl d next go2 _ o=_;unfold V8;rw [if_neg (by omega),List.drop_length];rfl
theorem s_next_eq (c:ek)(i:Int)(go:Int×LI->Option (LI×Bool))(tl:Int×Int)(d:Int)(next:LI)(hi:0<=i)(hn:next.length<=1000)(hv:I64 ((d-tl.1)+tl.2))(out0:LI)(h0:out0.length=c.instrs.length):
 itr (fI c i go tl d next) LF (0,out0)=match putAll i c.instrs.length ((d-tl.1)+tl.2) next out0 with |some o=>N9 i go o|none=>some ([],false):=by
 rw [I3 (L:=fI c i go tl d next) next.length (fun _ o=>o.length=c.instrs.length) (fun j o=>match putAll i c.instrs.length ((d-tl.1)+tl.2) (next.drop j) o with |some o=>N9 i go o|none=>some ([],false)) (by omega) (fun go2 j o hj ho hgo=>?_) (fun go2 o ho=>?_) h0]
 .rw [List.drop_zero]
 .show S6 c i go tl d next go2 j o=_;unfold S6 R1;rw [if_pos (by omega),w6 hj,g8,List.drop_eq_getElem_cons hj];simp only [putAll];generalize next[j]=k;by_cases h1:k<=i
  .rw [if_pos h1,mG (.inl h1)];rfl
  .rw [if_neg h1];by_cases h2:k>=c.instrs.length
   .rw [if_pos h2,mG (.inr (.inl h2))];rfl
   .rw [if_neg h2,au6 (by omega) (by omega),g8,g8,g8,p0 hv,p0 hv,p0 (by omega)];have hg:=hgo (o.set k.toNat ((d-tl.1)+tl.2)) (by rw [List.length_set,ho]);by_cases h3:at0 o k>=0
    .rw [if_pos h3];by_cases h4:at0 o k=(d-tl.1)+tl.2
     .rw [wY (by omega),h4,hg];simp
     .rw [mG (.inr (.inr ⟨h3,h4⟩))];simp [h4]
    .rw [if_neg h3,wY (by omega),hg];simp
 .show S6 c i go tl d next go2 _ o=_;unfold S6;rw [if_neg (by omega),List.drop_length];rfl
def runK (m:eo)(len:Int)(i:Nat)(xs:List ej):Option LI->Option LI
 |some o=>runD m len i xs o
 |none=>none
theorem runD_cons (m:eo)(len:Int)(i:Nat)(x:ej)(r:List ej)(out:LI):runD m len i (x::r) out=runK m len (i+1) r (stepD m len i x out):=by
 rw [runD];unfold runK;cases stepD m len i x out<;>rfl
theorem ap5 (i:Int)(x:ej):(nextOf i x).length<=2:=by
 unfold nextOf;repeat' split
 all_goals simp
theorem eff_ret {m:eo}{x:ej}(h:x.op=14\/x.op=13):(effectOf m x).2=0:=by
 unfold effectOf;rcases h with h|h<;>simp [h]
theorem i_run_eq (m:eo)(c:ek)(hc:c.instrs.length<=4000)(hx:∀ x∈c.instrs,InsOK m x)(out0:LI)(h0:out0.length=c.instrs.length)(hs:small500 out0):
 itr (gL m c) LF (0,out0)=some (dres (runD m c.instrs.length 0 c.instrs out0)):=by
 rw [I3 (L:=gL m c) c.instrs.length (fun _ o=>o.length=c.instrs.length/\small500 o) (fun i o=>some (dres (runD m c.instrs.length i (c.instrs.drop i) o))) (by omega) (fun go i o hi ho hgo=>?_) (fun go o ho=>?_) ⟨h0,hs⟩]
 .rw [List.drop_zero]
 .show V7 m c go i o=_;unfold V7;have hX:=hx _ (List.getElem_mem hi);have h5:=ak1 ho.2 (i:Int);have hep:=ap0 m c.instrs[i];rw [if_pos (by omega),w6 hi,g8,au6 (by omega) (by omega),g8,List.drop_eq_getElem_cons hi];rw [runD_cons];unfold stepD;have hJ:∀ o',P9 i go o'=go ((i:Int)+1,o'):=fun o'=>by unfold P9;rw [p0 (by omega)]
  rw [i_effect_eq m _ (fun hq=>⟨hX.a.1,hX.named hq⟩) hX.a,g8,g8,g8];have hr:=@eff_ret m c.instrs[i];generalize c.instrs[i]=x at hX hep hr |-;have ht:=hX.take;by_cases h1:at0 o i<0
  .rw [if_pos h1,if_pos h1,hJ,hgo o ho];rfl
  .rw [if_neg h1,if_neg h1];by_cases h2:(effectOf m x).1>at0 o i
   .rw [if_pos h2,if_pos h2];rfl
   .rw [if_neg h2,if_neg h2,p0 (by omega),p0 (by omega)];by_cases h3:(at0 o i-(effectOf m x).1)+(effectOf m x).2>500
    .rw [if_pos h3,if_pos h3];rfl
    .rw [if_neg h3,if_neg h3];have hnx:∀ next:LI,next.length<=2->N7 c i o go (effectOf m x) (at0 o i) next=match putAll i c.instrs.length ((at0 o i-(effectOf m x).1)+(effectOf m x).2) next o with |some o'=>go ((i:Int)+1,o')|none=>some ([],false):=fun next hl=>by
      unfold N7;rw [i_next_eq c i go _ _ next (by omega) (by omega) o ho.1];cases putAll i c.instrs.length ((at0 o i-(effectOf m x).1)+(effectOf m x).2) next o with
      |none=>rfl
      |some o'=>exact hJ o'
     have hfin:(x.op=14\/x.op=13->(at0 o i-(effectOf m x).1)+(effectOf m x).2=0)->N7 c i o go (effectOf m x) (at0 o i) (nextOf i x)=some (dres (runK m c.instrs.length (i+1) (c.instrs.drop (i+1)) (nextD i c.instrs.length ((at0 o i-(effectOf m x).1)+(effectOf m x).2) x o))):=fun hv=>by
      rw [hnx _ (ap5 _ _),wT _ _ _ _ _ hv];cases hp:putAll i c.instrs.length ((at0 o i-(effectOf m x).1)+(effectOf m x).2) (nextOf i x) o with
      |none=>rfl
      |some o'=>
       rw [<- wT _ _ _ _ _ hv]at hp;show go ((i:Int)+1,o')=some (dres (runD m c.instrs.length (i+1) (c.instrs.drop (i+1)) o'));rw [hgo o' ⟨by rw [nextD_len hp];exact ho.1,ah4 ho.2 (by omega) hp⟩]
     unfold bS;by_cases h4:x.op=14\/x.op=13
     .have e:nextOf i x=[]:=by unfold nextOf;rw [if_pos h4]
      have:(if x.op=14 then true else decide (x.op=13))=true:=by rcases h4 with h4|h4<;>simp [h4]
      by_cases h5:(at0 o i-(effectOf m x).1)+(effectOf m x).2=0
      .have hq:=hfin (fun _=>h5);rw [e]at hq;rcases h4 with h4|h4
       .simp only [h4,if_true,h5];simp only [h4,h5]at hq;exact hq
       .simp only [h4,if_true,h5];simp only [h4,h5]at hq;simpa using hq
      .have hn:nextD i c.instrs.length ((at0 o i-(effectOf m x).1)+(effectOf m x).2) x o=none:=by unfold nextD;rw [if_pos h4,if_neg h5]
       rw [hn];rcases h4 with h4|h4<;>simp [h4,h5,dres,runK]
     .have hq:=hfin (fun h=>absurd h h4);simp only [not_or]at h4;rw [if_neg h4.1,if_neg (by simp [h4.2])];unfold nextOf at hq;rw [if_neg (by simp [h4])]at hq;rw [<- hq];by_cases h6:x.op=15
      .rw [if_pos h6,if_pos h6]
      .rw [if_neg h6,if_neg h6,p0 (by omega),p0 (by omega)];by_cases h7:x.op=16
       .rw [if_pos h7,if_pos h7]
       .rw [if_neg h7,if_neg h7]
 .show V7 m c go _ o=_;unfold V7;rw [if_neg (by omega),List.drop_length];rfl
end Go.Abs

namespace Go.Abs
theorem s_run_eq (m:eo)(c:ek)(hc:c.instrs.length<=4000)(hx:∀ x∈c.instrs,InsOK m x)(out0:LI)(h0:out0.length=c.instrs.length)(hs:small500 out0):
 itr (fG m c) LF (0,out0)=some (dres (runD m c.instrs.length 0 c.instrs out0)):=by
 rw [I3 (L:=fG m c) c.instrs.length (fun _ o=>o.length=c.instrs.length/\small500 o) (fun i o=>some (dres (runD m c.instrs.length i (c.instrs.drop i) o))) (by omega) (fun go i o hi ho hgo=>?_) (fun go o ho=>?_) ⟨h0,hs⟩]
 .rw [List.drop_zero]
 .show S5 m c go i o=_;unfold S5;have hX:=hx _ (List.getElem_mem hi);have h5:=ak1 ho.2 (i:Int);have hep:=ap0 m c.instrs[i];rw [if_pos (by omega),w6 hi,g8,au6 (by omega) (by omega),g8,List.drop_eq_getElem_cons hi];rw [runD_cons];unfold stepD;have hJ:∀ o',N9 i go o'=go ((i:Int)+1,o'):=fun o'=>by unfold N9;rw [p0 (by omega)]
  rw [am9 m _ (fun hq=>⟨hX.a.1,hX.named hq⟩) hX.a,g8,g8];have hr:=@eff_ret m c.instrs[i];generalize c.instrs[i]=x at hX hep hr |-;have ht:=hX.take;by_cases h1:at0 o i<0
  .rw [if_pos h1,if_pos h1,hJ,hgo o ho];rfl
  .rw [if_neg h1,if_neg h1,p0 (by omega)];have hJ4:E6 c i o go x (effectOf m x) (at0 o i) true=some ([],false):=rfl;by_cases h2:(at0 o i-(effectOf m x).1)<0
   .rw [if_pos h2,if_pos (show at0 o i<(effectOf m x).1 by omega),hJ4];rfl
   .rw [if_neg h2,if_neg (show ¬ at0 o i<(effectOf m x).1 by omega),p0 (by omega)];by_cases h3:(at0 o i-(effectOf m x).1)+(effectOf m x).2>500
    .rw [if_pos h3,if_pos h3,hJ4];rfl
    .rw [if_neg h3,if_neg h3];have hnx:∀ next:LI,next.length<=2->I7 c i o go (effectOf m x) (at0 o i) next=match putAll i c.instrs.length ((at0 o i-(effectOf m x).1)+(effectOf m x).2) next o with |some o'=>go ((i:Int)+1,o')|none=>some ([],false):=fun next hl=>by
      unfold I7;rw [s_next_eq c i go _ _ next (by omega) (by omega) ⟨by omega,by omega⟩ o ho.1];cases putAll i c.instrs.length ((at0 o i-(effectOf m x).1)+(effectOf m x).2) next o with
      |none=>rfl
      |some o'=>exact hJ o'
     have hfin:(x.op=14\/x.op=13->(at0 o i-(effectOf m x).1)+(effectOf m x).2=0)->I7 c i o go (effectOf m x) (at0 o i) (nextOf i x)=some (dres (runK m c.instrs.length (i+1) (c.instrs.drop (i+1)) (nextD i c.instrs.length ((at0 o i-(effectOf m x).1)+(effectOf m x).2) x o))):=fun hv=>by
      rw [hnx _ (ap5 _ _),wT _ _ _ _ _ hv];cases hp:putAll i c.instrs.length ((at0 o i-(effectOf m x).1)+(effectOf m x).2) (nextOf i x) o with
      |none=>rfl
      |some o'=>
       rw [<- wT _ _ _ _ _ hv]at hp;show go ((i:Int)+1,o')=some (dres (runD m c.instrs.length (i+1) (c.instrs.drop (i+1)) o'));rw [hgo o' ⟨by rw [nextD_len hp];exact ho.1,ah4 ho.2 (by omega) hp⟩]
     have hf4:E6 c i o go x (effectOf m x) (at0 o i) false=I7 c i o go (effectOf m x) (at0 o i) (nextOf i x):=by
      unfold E6 aJ nextOf;rw [p0 (by omega)];by_cases h14:x.op=14
      .simp [h14]
      .by_cases h13:x.op=13
       .simp [h13]
       .by_cases h15:x.op=15
        .simp [h15]
        .by_cases h16:x.op=16
         .rw [p0 (by simp)];simp [h16]
         .rw [p0 (by simp)];simp [h14,h13,h15,h16]
     by_cases h4:x.op=14\/x.op=13
     .have hz:=hr h4;by_cases h5':(at0 o i-(effectOf m x).1)=0
      .have hq:=hfin (fun _=>by omega);rcases h4 with h4|h4
       .have h13:¬ x.op=13:=by omega
        rw [if_pos h4,if_pos h5',if_neg h13,hf4];exact hq
       .have h14:¬ x.op=14:=by omega
        rw [if_neg h14,if_pos h4,h5'];simp only [decide_true,Bool.not_true];rw [<- h5',hf4];exact hq
      .have hn:nextD i c.instrs.length ((at0 o i-(effectOf m x).1)+(effectOf m x).2) x o=none:=by unfold nextD;rw [if_pos h4,if_neg (by omega)]
       rw [hn];rcases h4 with h4|h4
       .rw [if_pos h4,if_neg h5',hJ4];rfl
       .have h14:¬ x.op=14:=by omega
        rw [if_neg h14,if_pos h4];simp only [h5',decide_false,Bool.not_false];rfl
     .have hq:=hfin (fun h=>absurd h h4);simp only [not_or]at h4;rw [if_neg h4.1,if_neg h4.2,hf4];exact hq
 .show S5 m c go _ o=_;unfold S5;rw [if_neg (by omega),List.drop_length];rfl
theorem fillM_0 (n:Nat):fillM n 0=List.replicate n 0:=by simp [fillM]
theorem ak2 (n:Nat):small500 ((List.replicate n (-1)).set 0 0):=aa2 (fun v hv=>by rw [List.eq_of_mem_replicate hv];omega) ⟨by decide,by decide⟩ _
theorem at5 (m:eo)(k:Nat)(hk:k<m.codes.length)(h1:1<=(m.codes.getD k default).instrs.length)(h2:(m.codes.getD k default).instrs.length<=4000)(hx:∀ x∈(m.codes.getD k default).instrs,InsOK m x):
 lY m k=some (dres (depthsOf m k)):=by
 unfold lY depthsOf;rw [cM (d:=default) hk,g8];generalize m.codes.getD k default=c at h1 h2 hx |-;rw [p0 (by omega),Int.toNat_natCast];rw [I3 (L:=nX m c) c.instrs.length (fun i o=>o=fillM c.instrs.length i) (fun _ _=>some (dres (runD m c.instrs.length 0 c.instrs ((List.replicate c.instrs.length (-1)).set 0 0)))) (by omega) (fun go i o hi ho hgo=>?_) (fun go o ho=>?_) (fillM_0 _).symm]
 .show V6 m c go i o=_;unfold V6;subst ho;have hl:=vM (n:=c.instrs.length) (i:=i) (by omega);rw [if_pos (by simp;omega),cM (d:=0) (by omega),g8,p0 (by omega),Int.toNat_natCast,fillM_set hi,hgo _ rfl]
 .show V6 m c go _ o=_;unfold V6;subst ho;have hl:=vM (n:=c.instrs.length) (i:=c.instrs.length) (by omega);rw [if_neg (by simp),show(0:Int)=((0:Nat):Int)from rfl,cM (d:=0) (by omega),g8,fillM_all];exact i_run_eq m c h2 hx _ (by simp) (ak2 _)
theorem am7 (m:eo)(k:Nat)(hk:k<m.codes.length)(h1:1<=(m.codes.getD k default).instrs.length)(h2:(m.codes.getD k default).instrs.length<=4000)(hx:∀ x∈(m.codes.getD k default).instrs,InsOK m x):
 iW m k=some (dres (depthsOf m k)):=by
 unfold iW depthsOf;rw [cM (d:=default) hk,g8];generalize m.codes.getD k default=c at h1 h2 hx |-;rw [p0 (by omega),Int.toNat_natCast];rw [I3 (L:=lE m c) c.instrs.length (fun i o=>o=fillM c.instrs.length i) (fun _ _=>some (dres (runD m c.instrs.length 0 c.instrs ((List.replicate c.instrs.length (-1)).set 0 0)))) (by omega) (fun go i o hi ho hgo=>?_) (fun go o ho=>?_) (fillM_0 _).symm]
 .show R9 m c go i o=_;unfold R9;subst ho;have hl:=vM (n:=c.instrs.length) (i:=i) (by omega);rw [if_pos (by simp;omega),cM (d:=0) (by omega),g8,p0 (by omega),Int.toNat_natCast,fillM_set hi,hgo _ rfl]
 .show R9 m c go _ o=_;unfold R9;subst ho;have hl:=vM (n:=c.instrs.length) (i:=c.instrs.length) (by omega);rw [if_neg (by simp),if_neg (by omega),show(0:Int)=((0:Nat):Int)from rfl,cM (d:=0) (by omega),g8,fillM_all];exact s_run_eq m c h2 hx _ (by simp) (ak2 _)
theorem ar7 {s:Bool}{m:eo}{k:Nat}(h:codeOKs s m k=true):1<=(m.codes.getD k default).instrs.length/\(m.codes.getD k default).instrs.length<=4000:=by
 unfold codeOKs at h;simp only [Bool.and_eq_true]at h;exact (yF h.1).2.2
def bumpI (t:LI)(x:ej):LI:=if namedOp x then t.set x.a.toNat (t.getD x.a.toNat 0+1)else t
def bumpIs (xs:List ej)(t:LI):LI:=xs.foldl bumpI t
def bumpCs (cs:List ek)(t:LI):LI:=cs.foldl (fun t c=>bumpIs c.instrs t) t
def totalOf (cs:List ek):Int:=cs.foldl (fun n c=>n+(c.instrs.length:Int)) 0
def codesOK (m:eo):Bool:=(List.range m.codes.length).all fun k=>codeOKs false m k&&(depthsOf m k).isSome
def onceOK (m:eo):Bool:=((bumpCs m.codes (List.replicate m.codes.length 0)).take (m.codes.length-1)).all fun n=>decide (n=1)
def isImg (m:eo)(captures:Int):Bool:=
 inside m.codes.length 1 1500&&(decide (m.main=(m.codes.length:Int)-1)&&(decide ((m.codes.getD (m.codes.length-1) default).params=0)&&(decide ((m.codes.getD (m.codes.length-1) default).captures=captures)&&
  (codesOK m&&(decide (totalOf m.codes<=16000)&&onceOK m)))))
theorem ad5 (t:LI)(x:ej):(bumpI t x).length=t.length:=by unfold bumpI;split<;>simp
theorem xY:∀(xs:List ej) (t:LI),(bumpIs xs t).length=t.length
 | [],t=>rfl
 |x::xs,t=>by show(bumpIs xs (bumpI t x)).length=_;rw [xY xs,ad5]
def low (b:Int)(t:LI):Prop:=∀ v∈t,0<=v/\v<=b
theorem low_get {b:Int}{t:LI}(h:low b t)(hb:0<=b)(i:Nat):0<=t.getD i 0/\t.getD i 0<=b:=by
 by_cases hi:i<t.length
 .rw [List.getD,List.getElem?_eq_getElem hi];exact h _ (List.getElem_mem hi)
 .rw [List.getD,List.getElem?_eq_none (by omega)];simp;exact hb
theorem ad6 {b:Int}{t:LI}(h:low b t)(hb:0<=b)(x:ej):low (b+1) (bumpI t x):=by
 unfold bumpI;split
 .intro v hv;have hg:=low_get h hb x.a.toNat;rcases List.mem_or_eq_of_mem_set hv with hv|rfl
  .have:=h v hv;omega
  .omega
 .intro v hv;have:=h v hv;omega
theorem namesCode_eq (op:Int):iJ op=some (decide (op=11\/op=18\/op=19\/op=20)):=by
 unfold iJ;by_cases h1:op=11<;>by_cases h2:op=18<;>by_cases h3:op=19<;>simp [h1,h2,h3]
theorem l10Inside_eq (op:Int):iZ op=some (decide (op=11\/op=18\/op=19\/op=20)):=by
 unfold iZ;by_cases h1:op=11<;>by_cases h2:op=18<;>by_cases h3:op=19<;>simp [h1,h2,h3]
def InsOK' (n:Nat)(x:ej):Prop:=namedOp x->0<=x.a/\x.a<n
theorem i_count_eq (total x6:Int)(go8:Int×Int×LI->Option Bool)(c:ek)(n:Nat)(b:Int)(hb:0<=b/\b<=1000000000)(hx6:0<=x6/\x6<=2000)(hc:c.instrs.length<=4000)(hx:∀ x∈c.instrs,InsOK' n x)(t:LI)(ht:t.length=n)(hlow:low b t):
 itr (kA total x6 go8 c) LF (0,t)=go8 (total+(c.instrs.length:Int),x6+1,bumpIs c.instrs t):=by
 rw [I3 (L:=kA total x6 go8 c) c.instrs.length (fun i t=>t.length=n/\low (b+i) t) (fun i t=>go8 (total+(c.instrs.length:Int),x6+1,bumpIs (c.instrs.drop i) t)) (by omega) (fun go i t hi ht hgo=>?_) (fun go t ht=>?_) ⟨ht,by simpa using hlow⟩]
 .rw [List.drop_zero]
 .show Y0 total x6 go8 c go i t=_;unfold Y0 dA;have hX:=hx _ (List.getElem_mem hi);rw [if_pos (by omega),w6 hi,g8,namesCode_eq,g8,p0 (by omega),List.drop_eq_getElem_cons hi];show _=go8 (total+(c.instrs.length:Int),x6+1,bumpIs (c.instrs.drop (i+1)) (bumpI t c.instrs[i]));have hl:=ad6 ht.2 (by omega) c.instrs[i];have hll:=ad5 t c.instrs[i];have hg:=hgo (bumpI t c.instrs[i]) ⟨by rw [hll,ht.1],by rw [show b+((i+1:Nat):Int)=b+i+1 by omega];exact hl⟩;rw [<- hg];clear hg hl hll hgo;generalize c.instrs[i]=x at hX |-;unfold bumpI;by_cases hn:namedOp x
  .have ha:=hX hn;have hv:=low_get ht.2 (by omega) x.a.toNat;have hn':decide (x.op=11\/x.op=18\/x.op=19\/x.op=20)=true:=decide_eq_true hn;rw [hn',if_pos rfl,if_pos hn,gO (d:=0) ha.1 (by omega),g8,g8,p0 (by omega),p0 (by omega)]
  .have hn':decide (x.op=11\/x.op=18\/x.op=19\/x.op=20)=false:=decide_eq_false hn;rw [hn',if_neg hn];simp
 .show Y0 total x6 go8 c go _ t=_;unfold Y0;rw [if_neg (by omega),p0 (by omega),List.drop_length];rfl
theorem s_count_eq (x2:Int)(go4:Int×LI->Option Bool)(c:ek)(n:Nat)(b:Int)(hb:0<=b/\b<=1000000000)(hx2:0<=x2/\x2<=2000)(hc:c.instrs.length<=4000)(hx:∀ x∈c.instrs,InsOK' n x)(t:LI)(ht:t.length=n)(hlow:low b t):
 itr (kI x2 go4 c) LF (0,t)=go4 (x2+1,bumpIs c.instrs t):=by
 rw [I3 (L:=kI x2 go4 c) c.instrs.length (fun i t=>t.length=n/\low (b+i) t) (fun i t=>go4 (x2+1,bumpIs (c.instrs.drop i) t)) (by omega) (fun go i t hi ht hgo=>?_) (fun go t ht=>?_) ⟨ht,by simpa using hlow⟩]
 .rw [List.drop_zero]
 .show Z2 x2 go4 c go i t=_;unfold Z2 dI;have hX:=hx _ (List.getElem_mem hi);rw [if_pos (by omega),w6 hi,g8,l10Inside_eq,g8,p0 (by omega),List.drop_eq_getElem_cons hi];show _=go4 (x2+1,bumpIs (c.instrs.drop (i+1)) (bumpI t c.instrs[i]));have hl:=ad6 ht.2 (by omega) c.instrs[i];have hll:=ad5 t c.instrs[i];have hg:=hgo (bumpI t c.instrs[i]) ⟨by rw [hll,ht.1],by rw [show b+((i+1:Nat):Int)=b+i+1 by omega];exact hl⟩;rw [<- hg];clear hg hl hll hgo;generalize c.instrs[i]=x at hX |-;unfold bumpI;by_cases hn:namedOp x
  .have ha:=hX hn;have hv:=low_get ht.2 (by omega) x.a.toNat;have hn':decide (x.op=11\/x.op=18\/x.op=19\/x.op=20)=true:=decide_eq_true hn;rw [hn',if_pos rfl,if_pos hn,gO (d:=0) ha.1 (by omega),g8,g8,p0 (by omega),p0 (by omega)]
  .have hn':decide (x.op=11\/x.op=18\/x.op=19\/x.op=20)=false:=decide_eq_false hn;rw [hn',if_neg hn];simp
 .show Z2 x2 go4 c go _ t=_;unfold Z2;rw [if_neg (by omega),p0 (by omega),List.drop_length];rfl
end Go.Abs

namespace Go.Abs
def okOne (m:eo)(k:Nat):Bool:=codeOKs false m k&&(depthsOf m k).isSome
def okFrom (m:eo)(k:Nat):Bool:=(List.range' k (m.codes.length-k)).all (okOne m)
theorem okFrom_0 (m:eo):okFrom m 0=codesOK m:=by unfold okFrom codesOK;rw [List.range_eq_range'];rfl
theorem ah8 {m:eo}{k:Nat}(h:k<m.codes.length):okFrom m k=(okOne m k&&okFrom m (k+1)):=by
 unfold okFrom;rw [show m.codes.length-k=(m.codes.length-(k+1))+1 by omega,List.range'_succ,List.all_cons]
theorem ap6 (m:eo):okFrom m m.codes.length=true:=by unfold okFrom;simp
def addT (n:Int)(cs:List ek):Int:=cs.foldl (fun n c=>n+(c.instrs.length:Int)) n
theorem xZ:∀(xs:List ej) {b:Int} {t:LI},low b t->0<=b->low (b+xs.length) (bumpIs xs t)
 | [],b,t,h,_=>by simpa [bumpIs]using h
 |x::xs,b,t,h,hb=>by
  have h1:=xZ xs (ad6 h hb x) (by omega);show low _ (bumpIs xs (bumpI t x));rw [show b+((x::xs).length:Int)=b+1+(xs.length:Int)by simp;omega];exact h1
theorem insOK'_of {m:eo}{c:ek}(h:∀ x∈c.instrs,InsOK m x):∀ x∈c.instrs,InsOK' m.codes.length x:=fun x hx hn=>⟨(h x hx).a.1,(h x hx).named hn⟩
theorem low_mono {b b':Int}{t:LI}(h:low b t)(hb:b<=b'):low b' t:=fun v hv=>by have:=h v hv;omega
theorem low_zero (n:Nat):low 0 (List.replicate n 0):=fun v hv=>by rw [List.eq_of_mem_replicate hv];omega
theorem dres_snd (o:Option LI):(dres o).2=o.isSome:=by cases o<;>rfl
def imgRest (m:eo)(total:Int)(k:Nat)(t:LI):Bool:=
 okFrom m k&&(((bumpCs (m.codes.drop k) t).take (m.codes.length-1)).all (fun n=>decide (n=1))&&decide (addT total (m.codes.drop k)<=16000))
theorem i_loop_eq (m:eo)(hm:m.small)(hn:1<=m.codes.length/\m.codes.length<=1500):itr (pW m) LF (0,0,List.replicate m.codes.length 0)=some (imgRest m 0 0 (List.replicate m.codes.length 0)):=by
 refine wN (fun v:Int×Int×LI=>some (imgRest m v.1 v.2.1.toNat v.2.2)) (fun v=>(0<=v.2.1/\v.2.1<=m.codes.length)/\(∀ i:Nat,(i:Int)<v.2.1->codeOKs false m i=true)/\(0<=v.1/\v.1<=4000 * v.2.1)/\v.2.2.length=m.codes.length/\low (4000 * v.2.1) v.2.2) (fun v=>m.codes.length-v.2.1.toNat) (fun go v hv hgo=>?_) (0,0,List.replicate m.codes.length 0) ⟨⟨by simp,by simp⟩,fun i hi=>by dsimp only at hi;omega,⟨by simp,by simp⟩,by simp,by simpa using low_zero _⟩ (by simp;omega);obtain ⟨total,k0,t⟩:=v;obtain ⟨⟨hk0,hk1⟩,hok,ht,hl,hlow⟩:=hv;dsimp only at hk0 hk1 hok ht hl hlow |-;obtain ⟨k,rfl⟩:=Int.eq_ofNat_of_zero_le hk0;rw [Int.toNat_natCast];show dT m go total k t=_;unfold dT;by_cases hk:(k:Int)<m.codes.length
 .have hkn:k<m.codes.length:=by omega
  have hcs:=hm.2 _ (as3 (d:=default) hkn);have hdrop:m.codes.drop k=m.codes.getD k default::m.codes.drop (k+1):=ae7 hkn;rw [if_pos hk,cM (d:=default) hkn,g8,i_codeOk_eq m k hm hkn,g8];unfold imgRest;rw [ah8 hkn];unfold okOne;cases hc:codeOKs false m k
  .rw [if_neg (by simp)];simp
  .have hall:∀ i,i<=k->codeOKs false m i=true:=fun i hi=>by
    by_cases e:i=k
    .subst e;exact hc
    .exact hok i (by omega)
   have hlen:=ar7 hc;have hins:=at8 hkn hall;rw [if_pos rfl,at5 m k hkn hlen.1 hlen.2 hins,g8,dres_snd];cases hd:(depthsOf m k).isSome
   .rw [if_neg (by simp)];simp
   .rw [if_pos rfl,p0 (by omega),hdrop];rw [i_count_eq total k go (m.codes.getD k default) m.codes.length (4000 * k) (by omega) (by omega) hlen.2 (insOK'_of hins) t hl hlow];have hb:=xZ (m.codes.getD k default).instrs hlow (by omega);rw [hgo (total+((m.codes.getD k default).instrs.length:Int),(k:Int)+1,bumpIs (m.codes.getD k default).instrs t)
     ⟨⟨by dsimp only;omega,by dsimp only;omega⟩,fun i hi=>hall i (by dsimp only at hi;omega),⟨by dsimp only;omega,by dsimp only;omega⟩,by dsimp only;rw [xY];exact hl,low_mono hb (by dsimp only;omega)⟩ (by dsimp only;omega)]
    dsimp only;rw [show ((k:Int)+1).toNat=k+1 by omega];unfold imgRest;simp only [Bool.true_and];rfl
 .have hkn:k=m.codes.length:=by omega
  subst hkn;rw [if_neg hk,p0 (by omega),p0 (by omega)];unfold imgRest;rw [ap6,List.drop_length,Bool.true_and];have e:((m.codes.length:Int)-1).toNat=m.codes.length-1:=by omega
  show itr (kB m total t) LF 0=some (((t.take (m.codes.length-1)).all fun n=>decide (n=1))&&decide (total<=16000));rw [oA (L:=kB m total t) (t.take (m.codes.length-1)) (fun n=>decide (n=1)) (some (decide (total<=16000))) (some false) (by simp;omega) (fun go i hi=>?_) (fun go=>?_)]
  .cases ((t.take (m.codes.length-1)).all fun n=>decide (n=1))<;>simp
  .show Y1 m total t go i=_;unfold Y1;have hi':=hi;rw [List.length_take]at hi';rw [e,if_pos (by rw [List.length_take];omega),w6 hi,g8,p0 (by omega)];by_cases h1:(t.take (m.codes.length-1))[i]=1<;>simp [h1]
  .show Y1 m total t go _=_;unfold Y1;rw [e,if_neg (by omega)]
theorem i_IsImage_eq (m:eo)(hm:m.small)(captures:Int):pV m captures=some (isImg m captures):=by
 unfold pV isImg inside;by_cases h1:(m.codes.length:Int)<1
 .have:decide (1<=(m.codes.length:Int))=false:=by simp;omega
  rw [if_pos h1,this];rfl
 .have h1':decide (1<=(m.codes.length:Int))=true:=by simp;omega
  by_cases h2:(m.codes.length:Int)>1500
  .have:decide ((m.codes.length:Int)<=1500)=false:=by simp;omega
   rw [if_neg h1,if_pos h2,h1',this];rfl
  .have h2':decide ((m.codes.length:Int)<=1500)=true:=by simp;omega
   rw [if_neg h1,if_neg h2,h1',h2',p0 (by omega),p0 (by omega),p0 (by omega)];rw [gO (d:=default) (by omega) (by omega),g8,g8,p0 (by omega),show((m.codes.length:Int)-1).toNat=m.codes.length-1 by omega,Int.toNat_natCast,i_loop_eq m hm (by omega)];by_cases h3:m.main=(m.codes.length:Int)-1
   .rw [if_pos h3];by_cases h4:(m.codes.getD (m.codes.length-1) default).params=0
    .rw [if_pos h4];by_cases h5:(m.codes.getD (m.codes.length-1) default).captures=captures
     .rw [if_pos h5];unfold imgRest;rw [okFrom_0,List.drop_zero];simp only [h3,h4,h5,decide_true,Bool.true_and];congr 2;exact Bool.and_comm _ _
     .rw [if_neg h5];simp only [h5,decide_false,Bool.and_false,Bool.false_and]
    .rw [if_neg h4];simp only [h4,decide_false,Bool.and_false,Bool.false_and]
   .rw [if_neg h3];simp only [h3,decide_false,Bool.and_false,Bool.false_and]
theorem s_tree_eq (m:eo)(hm:m.small)(hn:1<=m.codes.length/\m.codes.length<=1500)(hmain:m.main=(m.codes.length:Int)-1)(hall:∀ i,i<m.codes.length->codeOKs false m i=true):qS m=some (onceOK m):=by
 unfold qS;rw [p0 (by omega),Int.toNat_natCast];unfold onceOK;rw [I3 (L:=qT m) m.codes.length (fun k t=>t.length=m.codes.length/\low (4000 * k) t) (fun k t=>some (((bumpCs (m.codes.drop k) t).take (m.codes.length-1)).all fun n=>decide (n=1))) (by omega) (fun go k t hk ht hgo=>?_) (fun go t ht=>?_) ⟨by simp,by simpa using low_zero _⟩]
 .rw [List.drop_zero]
 .show Z1 m go k t=_;unfold Z1;have hdrop:m.codes.drop k=m.codes.getD k default::m.codes.drop (k+1):=ae7 hk;have hlen:=ar7 (hall k hk);have hins:=at8 hk (fun i hi=>hall i (by omega));rw [if_pos (by omega),cM (d:=default) hk,g8,s_count_eq k go (m.codes.getD k default) m.codes.length (4000 * k) (by omega) (by omega) hlen.2 (insOK'_of hins) t ht.1 ht.2,hdrop];have hb:=xZ (m.codes.getD k default).instrs ht.2 (by omega);rw [hgo _ ⟨by rw [xY];exact ht.1,low_mono hb (by omega)⟩];rfl
 .show Z1 m go _ t=_;unfold Z1;rw [if_neg (by omega),List.drop_length];show itr (kJ m t) LF 0=some ((t.take (m.codes.length-1)).all fun n=>decide (n=1));rw [lA (L:=kJ m t) t.length (fun i=>some (((t.take (m.codes.length-1)).drop i).all fun n=>decide (n=1))) (by omega) (fun go i hi hgo=>?_) (fun go=>?_)]
  .rw [List.drop_zero]
  .show Z3 m t go i=_;unfold Z3 dJ;rw [if_pos (by omega),w6 hi,g8,p0 (by omega)];by_cases h1:t[i]=1
   .rw [if_pos h1,if_neg (by simp),hgo];by_cases h2:i<m.codes.length-1
    .have hi2:i<(t.take (m.codes.length-1)).length:=by rw [List.length_take];omega
     rw [List.drop_eq_getElem_cons hi2,List.all_cons];simp [h1]
    .rw [List.drop_eq_nil_of_le (by rw [List.length_take];omega),List.drop_eq_nil_of_le (by rw [List.length_take];omega)]
   .rw [if_neg h1];by_cases h2:(i:Int)=m.main
    .simp only [h2,decide_true,Bool.not_true,Bool.false_eq_true,if_false];rw [<- h2,hgo,List.drop_eq_nil_of_le (by rw [List.length_take];omega),List.drop_eq_nil_of_le (by rw [List.length_take];omega)]
    .simp only [h2,decide_false,Bool.not_false,if_true];have hi2:i<(t.take (m.codes.length-1)).length:=by rw [List.length_take];omega
     rw [List.drop_eq_getElem_cons hi2,List.all_cons];simp [h1]
  .show Z3 m t go _=_;unfold Z3;rw [if_neg (by omega),List.drop_eq_nil_of_le (by rw [List.length_take];omega)];rfl
def sRest (m:eo)(total:Int)(k:Nat):Bool:=okFrom m k&&(decide (addT total (m.codes.drop k)<=16000)&&onceOK m)
theorem s_loop_eq (m:eo)(hm:m.small)(hn:1<=m.codes.length/\m.codes.length<=1500)(hmain:m.main=(m.codes.length:Int)-1):itr (qP m) LF (0,0)=some (sRest m 0 0):=by
 refine wN (fun v:Int×Int=>some (sRest m v.1 v.2.toNat)) (fun v=>(0<=v.2/\v.2<=m.codes.length)/\(∀ i:Nat,(i:Int)<v.2->codeOKs false m i=true)/\(0<=v.1/\v.1<=4000 * v.2)) (fun v=>m.codes.length-v.2.toNat) (fun go v hv hgo=>?_) (0,0) ⟨⟨by simp,by simp⟩,fun i hi=>by dsimp only at hi;omega,by simp,by simp⟩ (by simp;omega);obtain ⟨total,k0⟩:=v;obtain ⟨⟨hk0,hk1⟩,hok,ht⟩:=hv;dsimp only at hk0 hk1 hok ht |-;obtain ⟨k,rfl⟩:=Int.eq_ofNat_of_zero_le hk0;rw [Int.toNat_natCast];show eB m go total k=_;unfold eB;by_cases hk:(k:Int)<m.codes.length
 .have hkn:k<m.codes.length:=by omega
  have hdrop:m.codes.drop k=m.codes.getD k default::m.codes.drop (k+1):=ae7 hkn;rw [if_pos hk,s_l10Code_eq m k hm hkn,g8,codeOK_same (fun i hi=>hok i (by omega)),cM (d:=default) hkn];unfold sRest;rw [ah8 hkn];unfold okOne;cases hc:codeOKs false m k
  .rw [if_neg (by simp)];simp
  .have hall:∀ i,i<=k->codeOKs false m i=true:=fun i hi=>by
    by_cases e:i=k
    .subst e;exact hc
    .exact hok i (by omega)
   have hlen:=ar7 hc;have hins:=at8 hkn hall;rw [if_pos rfl,am7 m k hkn hlen.1 hlen.2 hins,g8,dres_snd];cases hd:(depthsOf m k).isSome
   .rw [if_neg (by simp)];simp
   .rw [if_pos rfl,g8,p0 (by omega),p0 (by omega),hdrop];rw [hgo (total+((m.codes.getD k default).instrs.length:Int),(k:Int)+1) ⟨⟨by dsimp only;omega,by dsimp only;omega⟩,fun i hi=>hall i (by dsimp only at hi;omega),by dsimp only;omega,by dsimp only;omega⟩ (by dsimp only;omega)];dsimp only;rw [show ((k:Int)+1).toNat=k+1 by omega];unfold sRest;simp only [Bool.true_and];rfl
 .have hkn:k=m.codes.length:=by omega
  subst hkn;rw [if_neg hk];unfold sRest;rw [ap6,List.drop_length,Bool.true_and];show (if total<=16000 then _ else _)=some (decide (total<=16000)&&onceOK m);by_cases h1:total<=16000
  .rw [if_pos h1,s_tree_eq m hm hn hmain (fun i hi=>hok i (by omega)),g8];simp [h1]
  .rw [if_neg h1];simp [h1]
theorem s_IsImage_eq (m:eo)(hm:m.small)(captures:Int):qO m captures=some (isImg m captures):=by
 have hm1:=hm.1;unfold qO isImg;rw [aE,g8,p0 (by omega)];cases h1:inside m.codes.length 1 1500
 .rfl
 .have h1':1<=m.codes.length/\m.codes.length<=1500:=by
   unfold inside at h1;simp only [Bool.and_eq_true,decide_eq_true_eq]at h1;omega
  rw [if_pos rfl];by_cases h3:m.main=(m.codes.length:Int)-1
  .rw [if_pos h3,h3,gO (d:=default) (by omega) (by omega),g8,g8,show((m.codes.length:Int)-1).toNat=m.codes.length-1 by omega,s_loop_eq m hm h1' h3];by_cases h4:(m.codes.getD (m.codes.length-1) default).params=0
   .rw [if_pos h4];by_cases h5:(m.codes.getD (m.codes.length-1) default).captures=captures
    .rw [if_pos h5];unfold sRest;rw [okFrom_0,List.drop_zero];simp only [h4,h5,decide_true,Bool.true_and];rfl
    .rw [if_neg h5];simp only [h5,decide_false,Bool.and_false,Bool.false_and]
   .rw [if_neg h4];simp only [h4,decide_false,Bool.and_false,Bool.false_and]
  .rw [if_neg h3];simp only [h3,decide_false,Bool.and_false,Bool.false_and]
end Go.Abs

namespace Go.Abs
open PD
mutual
def wD:PD->Nat
 |.mk _ _ t is=>t.length+wDs is
def wDs:List PD->Nat
 | []=>0
 |d::r=>1+wD d+wDs r
end
theorem zB (d:PD):wD d=d.text.length+wDs d.items:=by cases d;rfl
theorem wDs_eq:∀ ds:List PD,wDs ds=wts wD ds
 | []=>rfl
 |d::r=>by have:=wDs_eq r;unfold wts at *;simp [wDs];omega
theorem wDs_mem:∀{ds:List PD} {x:PD},x∈ds->wD x<wDs ds
 |d::r,x,h=>by
  unfold wDs;rcases List.mem_cons.1 h with rfl|h
  .omega
  .have:=wDs_mem h;omega
theorem ae1:(∀ d:PD,d.cnt<=wD d)/\∀ ds:List PD,cnts ds<=wDs ds:=by
 refine ind (fun ds h=>?_) (fun d h=>?_)
 .induction ds with
  |nil=>simp [cnts]
  |cons x r ih=>have:=h x (by simp);have:=ih (fun y hy=>h y (by simp [hy]));unfold cnts wDs;omega
 .rw [cnt_eq,zB];omega
theorem short_wD:(∀ d:PD,wD d<=1048576->d.short)/\∀ ds:List PD,wDs ds<=1048576->shorts ds:=by
 refine ind (fun ds h=>?_) (fun d h=>?_)
 .induction ds with
  |nil=>intro _;trivial
  |cons x r ih=>intro hw;unfold wDs at hw;exact⟨h x (by simp) (by omega),ih (fun y hy=>h y (by simp [hy])) (by omega)⟩
 .intro hw;rw [zB]at hw;exact(ax7 d).2 ⟨by omega,h (by omega)⟩
theorem ax8 {d:PD}(h:wD d<=1048576):d.small:=⟨short_wD.1 d h,by have:=ae1.1 d;omega⟩
theorem wf_len {d:PD}(h:d.wf):d.text.length<=9223372036854775807/\d.items.length<=9223372036854775807/\∀ x∈d.items,x.wf:=by
 have:=(wf_eq d).1 h;exact ⟨this.2.2.1,this.2.2.2.1,fun x hx=>wfs_mem this.2.2.2.2 hx⟩
theorem w_sz_eq:∀ n:Nat,(∀ d:PD,d.wf->∀ left:Int,0<=left->left<=1048576->2 * left+2<=n->C9 n d left=some (szw (wD d) left))/\(∀ ds:List PD,ds.length<=9223372036854775807->(∀ x∈ds,x.wf)->∀ left:Int,0<=left->left<=1048576->2 * left+1<=n->G2 n ds left=some (szw (wDs ds) left))
 |0=>⟨fun d _ left h1 _ h2=>by omega,fun ds _ _ left h1 _ h2=>by omega⟩
 |n+1=>by
  have ih:=w_sz_eq n;refine ⟨fun d hw left h0 h1 h=>?_,fun ds hl hw left h0 h1 h=>?_⟩
  .show jV (C9 n) (G2 n) d left=_;unfold jV;have hw':=wf_len hw;rw [p0 (by omega),zB,<- uX];by_cases hx:left-(d.text.length:Int)<0
   .have e:szw d.text.length left= -1:=by unfold szw;rw [if_pos hx]
    rw [if_pos hx,e];unfold szw;rw [if_pos (by omega)]
   .have e:szw d.text.length left=left-d.text.length:=by unfold szw;rw [if_neg hx]
    rw [if_neg hx,e,ih.2 d.items hw'.2.1 hw'.2.2 _ (by omega) (by omega) (by omega),g8,szw_if]
  .show gD (C9 n) (G2 n) ds left=_;unfold gD;rw [wDs_eq];refine szS_eq (L:=pI (C9 n) ds) (E:=C9 n) wD ds left (fun x hx m hm hm2=>ih.1 x (hw x hx) m hm (by omega) ?_) (fun go left i=>rfl) ⟨h0,h1⟩ hl;have:0<ds.length:=List.length_pos_of_mem hx;omega
def rfOK (d:PD):Prop:=2 * d.cnt+1<RF
theorem ap9 {d:PD}(h:d.small):rfOK d:=by unfold rfOK;rw [RF_eq];have:=h.2;omega
theorem w_to_eq:∀ n:Nat,(∀ d:PD,2 * d.cnt+1<n->d.small->B5 n d=some d)/\(∀ ds:List PD,2 * cnts ds<n->cnts ds<=1048576->(∀ x∈ds,x.small)->G3 n ds=some ds)
 |0=>⟨fun d h=>by omega,fun ds h=>by omega⟩
 |n+1=>by
  have ih:=w_to_eq n;refine ⟨fun d h hs=>?_,fun ds h hl hw=>?_⟩
  .show jX (B5 n) (G3 n) d=_;unfold jX;have hc:=cnt_eq d;rw [ih.2 d.items (by omega) (by have:=hs.2;omega) (fun x hx=>small_item hs hx),g8];cases d;rfl
  .show gE (B5 n) (G3 n) ds=_;unfold gE;exact toS_eq (L:=pK (B5 n) ds) (T:=B5 n) _ ds 56 (by omega) (by have:=cnts_len ds;omega) (fun x hx=>ih.1 x (by have:=cnts_mem hx;omega) (hw x hx)) (fun go i out=>rfl)
theorem w_eq_eq:∀ n:Nat,(∀ d:PD,2 * d.cnt+1<n->d.small->B2 n d d=some true)/\(∀ ds:List PD,2 * cnts ds<n->cnts ds<=1048576->(∀ x∈ds,x.small)->G1 n ds ds=some true)
 |0=>⟨fun d h=>by omega,fun ds h=>by omega⟩
 |n+1=>by
  have ih:=w_eq_eq n;refine ⟨fun d h hs=>?_,fun ds h hl hw=>?_⟩
  .show jJ (B2 n) (G1 n) d d=_;unfold jJ;have hc:=cnt_eq d;rw [if_pos rfl,if_pos rfl,if_pos rfl,ih.2 d.items (by omega) (by have:=hs.2;omega) (fun x hx=>small_item hs hx),g8,if_pos rfl]
  .show fZ (B2 n) (G1 n) ds ds=_;unfold fZ;exact ac1 (L:=oW (B2 n) ds ds) (E:=B2 n) ds (by have:=cnts_len ds;omega) (fun x hx=>ih.1 x (by have:=cnts_mem hx;omega) (hw x hx)) (fun go i=>rfl)
theorem toDatum_eq {d:PD}(h:d.small):B5 RF d=some d:=(w_to_eq RF).1 d (ap9 h) h
theorem ap1 {d:PD}(h:d.small):B2 RF d d=some true:=(w_eq_eq RF).1 d (ap9 h) h
theorem PD.wf_of {x:Int×Int×LB×List PD}(h:(IntKind.i64.min<=x.1/\x.1<=IntKind.i64.max)/\(IntKind.i64.min<=x.2.1/\x.2.1<=IntKind.i64.max)/\x.2.2.1.length<=9223372036854775807/\x.2.2.2.length<=9223372036854775807/\∀ y∈x.2.2.2,y.wf):(PD.mk x.1 x.2.1 x.2.2.1 x.2.2.2).wf:=
 ⟨h.1,h.2.1,h.2.2.1,h.2.2.2.1,wfs_of h.2.2.2.2⟩
def wI (x:ej):Nat:=wD x.d
def wC (c:ek):Nat:=wts wI c.instrs
def wM (m:eo):Nat:=wts wC m.codes
theorem eqInstr_eq (x:ej)(h:x.d.small):nD x x=some true:=by unfold nD;rw [ap1 h];simp
theorem eqCode_eq (c:ek)(h:c.small):sS c c=some true:=by
 unfold sS sT;rw [ac1 (L:=oX c.instrs c.instrs) (E:=nD) c.instrs h.1 (fun x hx=>eqInstr_eq x (h.2 x hx)) (fun go i=>rfl)];simp
theorem eqImage_eq (m:eo)(h:m.small):rI m m=some true:=by
 unfold rI xQ;rw [ac1 (L:=rF m.codes m.codes) (E:=sS) m.codes h.1 (fun x hx=>eqCode_eq x (h.2 x hx)) (fun go i=>rfl)];simp
end Go.Abs

namespace Go.Abs
open PD
theorem itr_ex {σ R:Type}{L:(σ->Option R)->σ->Option R}(Q:R->Prop)(P:σ->Prop)(μ:σ->Nat)
 (step:∀ go v,P v->(∀ v',P v'->μ v'<μ v->∃ r,go v'=some r/\Q r)->∃ r,L go v=some r/\Q r):∀ n v,P v->μ v<n->∃ r,itr L n v=some r/\Q r
 |0,v,_,h=>by omega
 |n+1,v,hp,h=>step (itr L n) v hp fun v' hp' hm=>itr_ex Q P μ step n v' hp' (by omega)
theorem itr_exLF {σ R:Type}{L:(σ->Option R)->σ->Option R}(Q:R->Prop)(P:σ->Prop)(μ:σ->Nat)
 (step:∀ go v,P v->(∀ v',P v'->μ v'<μ v->∃ r,go v'=some r/\Q r)->∃ r,L go v=some r/\Q r) (v:σ) (hp:P v) (h:μ v<18446744073709551616):∃ r,itr L LF v=some r/\Q r:=by
 rw [LF_eq];exact itr_ex Q P μ step _ v hp h
theorem au3 (k:Int)(h:k<=4611686018427387904):∃ t,X6 k=some t:=by
 unfold X6;by_cases h0:k<=0
 .rw [if_pos h0];exact⟨_,rfl⟩
 .rw [if_neg h0];have:=itr_exLF (L:=pE) (fun _=>True) (fun v=>0<=v.1/\v.1+v.2.length<=4611686018427387904) (fun v=>v.1.toNat) (fun go v hv hgo=>?_) (k,[]) ⟨by omega,by simpa using h⟩ (by omega)
  .obtain ⟨t,h1,_⟩:=this;exact⟨t,h1⟩
  .obtain ⟨k,out⟩:=v;show ∃ r,cE go k out=some r/\True;unfold cE;have h1:0<=k:=hv.1;have h2:k+(out.length:Int)<=4611686018427387904:=hv.2;by_cases hk:k>0
   .rw [if_pos hk,p0 (by omega),p0 (by omega),p0 (by omega),p0 (by simp;omega),p0 (by omega)];exact hgo _ ⟨by show 0<=k / 10;omega,by simp;omega⟩ (by show(k / 10).toNat<k.toNat;omega)
   .rw [if_neg hk,p0 (by simp;omega)];exact ⟨_,rfl,trivial⟩
theorem aM {α:Type}{l:List α}{i:Nat}{v:α}(h:i<l.length):nth (l.set i v) (i:Int)=some v:=by
 rw [w6 (by simpa using h)];simp
theorem eM {α:Type}(wt:α->Nat)(x:α)(r:List α):wts wt (x::r)=1+wt x+wts wt r:=by
 unfold wts;simp only [List.length_cons,List.map_cons,List.sum_cons];omega
theorem wS (k n:Int)(t:LB)(is:List PD):(PD.mk k n t is).items=is:=rfl
theorem ah2 (k n:Int)(t:LB)(is:List PD):(PD.mk k n t is).kind=k:=rfl
theorem qG (k n:Int)(t:LB)(is:List PD):(PD.mk k n t is).number=n:=rfl
theorem ah3 (k n:Int)(t:LB)(is:List PD):(PD.mk k n t is).text=t:=rfl
end Go.Abs
