/-
  Conversions between numbers,lengths,function values.
-/
import Derived.Test.YtbdmleibanpfnaaGreatDoorLibB
import Derived.Calls
import Derived.MapKept
import Derived.ChangeKeysEq
set_option linter.all false
set_option maxRecDepth 100000
namespace Go.X1
variable [Nu]
section
variable {P:Program} {TT:List TI} {h:H} {lf:Nat×A×H} {W0:World} {ρ:Operand→A}
theorem rep_byt {α:Al}{v:Value}{n:Nat}(hv:Rep α v (.byt n)):∃ m:Int,v=.int .u8 m∧m=n∧n<256:=by
  cases hv with |byt h1 h2=>exact⟨_,rfl,h1,h2⟩
theorem conv_run {s d:Nat}{ks kd:IntKind}(hs:P.underlying s=some (.int ks))(hd:P.underlying d=some (.int kd))(k:IntKind)(m:Int)(w:World):
    (convert s d (.int k m)).run P w=.ok (.int kd (kd.wrap m)) w:=by
  simp [convert,run_underlying hs,run_underlying hd,Conv.intToInt]
theorem conv_ops {s d:Nat}{x:Operand}{r:A}{ks kd:IntKind}(hs:P.underlying s=some (.int ks))(hd:P.underlying d=some (.int kd))
    (hx:∀(α:Al) (v:Value),Rep α v (ρ x)→∃ k m,v=.int k m∧Rep α (.int kd (kd.wrap m)) r):OpV P W0 (.convert s d x) ρ r:=fun D ty pos af gu α w a h hr hρ=>by
  obtain⟨k,m,e1,e2⟩:=hx α _ (hρ x (by simp [Op.operands]))
  refine⟨_,?_,e2⟩
  simp [execOp,e1,conv_run hs hd]
theorem i2i_sound (hT:TabOK P TT){s d:Nat}(hs:(tget? TT s).kind=.int .i64)(hd:(tget? TT d).kind=.int .i64){x:Operand}{c:A→R}(hl:(oI2I (ρ x) c).lf=some lf):∃ r,(c r).lf=some lf∧OpV P W0 (.convert s d x) ρ r:=by
  obtain⟨n,hx,hl⟩:=oInt_lf hl
  obtain⟨g,hl⟩:=oCk_lf hl
  have g:n≤18446744073709551615:=ble g
  refine⟨_,hl,conv_ops (und_int (hT.und hs (by simp))) (und_int (hT.und hd (by simp))) fun α v hv=>?_⟩
  rw [hx]at hv
  obtain⟨m,e1,e2⟩:=rep_int hv
  refine⟨_,m,e1,?_⟩
  rw [wrap_i64 m (by omega) (by omega)]
  exact .int e2
theorem b2i_sound (hT:TabOK P TT){s d:Nat}(hs:(tget? TT s).kind=.int .u8)(hd:(tget? TT d).kind=.int .i64){x:Operand}{c:A→R}(hl:(oB2I (ρ x) c).lf=some lf):∃ r,(c r).lf=some lf∧OpV P W0 (.convert s d x) ρ r:=by
  obtain⟨n,hx,hl⟩:=oByt_lf hl
  refine⟨_,hl,conv_ops (und_int (hT.und hs (by simp))) (und_int (hT.und hd (by simp))) fun α v hv=>?_⟩
  rw [hx]at hv
  obtain⟨m,e1,e2,e3⟩:=rep_byt hv
  refine⟨_,m,e1,?_⟩
  rw [wrap_i64 m (by omega) (by omega)]
  refine .int ?_
  show m+9223372036854775808=((9223372036854775808+n:Nat):Int)
  omega
theorem i2b_sound (hT:TabOK P TT){s d:Nat}(hs:(tget? TT s).kind=.int .i64)(hd:(tget? TT d).kind=.int .u8){x:Operand}{c:A→R}(hl:(oI2B (ρ x) c).lf=some lf):∃ r,(c r).lf=some lf∧OpV P W0 (.convert s d x) ρ r:=by
  obtain⟨n,hx,hl⟩:=oInt_lf hl
  obtain⟨g1,hl⟩:=oCk_lf hl
  obtain⟨g2,hl⟩:=oCk_lf hl
  have g1:9223372036854775808≤n:=ble g1
  have g2:n≤9223372036854776063:=ble g2
  refine⟨_,hl,conv_ops (und_int (hT.und hs (by simp))) (und_int (hT.und hd (by simp))) fun α v hv=>?_⟩
  rw [hx]at hv
  obtain⟨m,e1,e2⟩:=rep_int hv
  refine⟨_,m,e1,?_⟩
  rw [wrap_u8 m (by omega) (by omega)]
  have e:m=((n-9223372036854775808:Nat):Int):=by omega
  exact .byt e (show n-9223372036854775808<256 by omega)
theorem b2b_sound (hT:TabOK P TT){s d:Nat}(hs:(tget? TT s).kind=.int .u8)(hd:(tget? TT d).kind=.int .u8){x:Operand}{c:A→R}(hl:(oB2B (ρ x) c).lf=some lf):∃ r,(c r).lf=some lf∧OpV P W0 (.convert s d x) ρ r:=by
  obtain⟨n,hx,hl⟩:=oByt_lf hl
  refine⟨_,hl,conv_ops (und_int (hT.und hs (by simp))) (und_int (hT.und hd (by simp))) fun α v hv=>?_⟩
  rw [hx]at hv
  obtain⟨m,e1,e2,e3⟩:=rep_byt hv
  refine⟨_,m,e1,?_⟩
  rw [wrap_u8 m (by omega) (by omega)]
  exact .byt e2 e3
theorem s2s_sound (hT:TabOK P TT){s d:Nat}(hs:(tget? TT s).kind=.str)(hd:(tget? TT d).kind=.str){x:Operand}{c:A→R}(hl:(oStr (ρ x) fun _ _=>c (ρ x)).lf=some lf):∃ r,(c r).lf=some lf∧OpV P W0 (.convert s d x) ρ r:=by
  obtain⟨n,N,hx,hl⟩:=oStr_lf hl
  refine⟨_,hl,fun D ty pos af gu α w a h hr hρ=>?_⟩
  have hv:=hρ x (by simp [Op.operands])
  have hv2:=hv
  rw [hx]at hv
  obtain⟨u,e1,e2,e3⟩:=rep_str hv
  refine⟨_,?_,hv2⟩
  have hu:=und_str (hT.und hs (by simp))
  have hw:=und_str (hT.und hd (by simp))
  simp [execOp,e1,convert,run_underlying hu,run_underlying hw]
theorem fn_sound {f:Nat}{cs:List Operand}:OpV P W0 (.makeFunc (.func f) ⟨[]⟩ ⟨cs⟩) ρ (.nd (100+f) (vals ρ cs)):=fun D ty pos af gu α w a h hr hρ=>by
  refine⟨.func (.func f) #[] ⟨cs.map a.eval⟩,?_,.fn rfl ?_⟩
  · simp [execOp,Instr.makeFunc]
  · have:∀ l:List Operand,(∀ y∈l,Rep α (a.eval y) (ρ y))→RepL α (l.map a.eval) (vals ρ l):=by
      intro l
      induction l with
      |nil=>intro _;exact .nil
      |cons y l ih=>intro hl;exact .cons (hl y (by simp)) (ih fun z hz=>hl z (by simp [hz]))
    exact this cs fun y hy=>hρ y (by simp [Op.operands,hy])
end
end Go.X1

set_option maxRecDepth 100000
namespace Go.X1
variable [Nu]
section
variable {P:Program} {TT:List TI} {h:H} {lf:Nat×A×H} {W0:World} {ρ:Operand→A}
theorem elem_of {t e:Nat}(hu:P.underlying t=some (.slice e)):P.elem t=e:=by simp [Program.elem,hu]
theorem len_run {t n c:Nat}{e:Nat}{ad:Option Addr}(hu:P.underlying t=some (.slice e))(ty:TypeId)(w:World):(Builtin.len_ #[t] ty #[.slice ad n c]).run P w=.ok (goInt n) w:=run_len_slice w t ty ad n c (by rw [elem_of hu];exact hu)
theorem goInt_rep {α:Al}(n:Nat):Rep α (goInt n) (.int (9223372036854775808+n)):=by
  refine .int ?_
  omega
theorem slen_sound (hT:TabOK P TT){t:Nat}(hk:(tget? TT t).kind=.str){x:Operand}{c:A→R}(hl:(oSLen (ρ x) c).lf=some lf):∃ r,(c r).lf=some lf∧OpV P W0 (.call ⟨.builtin .len,⟨[x]⟩,⟨[t]⟩⟩) ρ r:=by
  obtain⟨n,N,hx,hl⟩:=oStr_lf hl
  refine⟨_,hl,fun d ty pos af gu α w a h hr hρ=>?_⟩
  have hv:=hρ x (by simp [Op.operands,Call.operands])
  rw [hx]at hv
  obtain⟨s,e1,e2,e3⟩:=rep_str hv
  have hu:=und_str (hT.und hk (by simp))
  refine⟨goInt s.size,?_,?_⟩
  · have:=run_len_string (P:=P) w t ty s hu
    simp [execOp,resolve,invoke,builtin,e1,this]
  · rw [bsize,e2];exact goInt_rep n
theorem rep_inp {α:Al}{v:Value}{u n:Nat}(h:Rep α v (.ref 8 7 u n)):∃(ad:Option Addr) (m c:Nat),v=.slice ad m c∧lenK u m:=by
  cases h with |ref h=>
  generalize hg:8=g at h
  generalize hb:7=b at h
  cases h with
  |inp h1 h2=>exact⟨_,_,_,rfl,h2⟩
  |sl _ hg'=>omega
  |_=>omega
theorem len_sound (hT:TabOK P TT){t e:Nat}(hk:(tget? TT t).kind=.slice e){x:Operand}{c:A→R}(hl:(oLen (ρ x) c).lf=some lf):∃ r,(c r).lf=some lf∧OpV P W0 (.call ⟨.builtin .len,⟨[x]⟩,⟨[t]⟩⟩) ρ r:=by
  have hu:=und_slice (hT.und hk (by simp))
  obtain⟨g,b,o,n,hx,hl⟩:=oRef_lf hl
  rcases rec_lf hl with ⟨g1,hl⟩|⟨_,hl⟩
  · have g1:g=3:=beq g1
    refine⟨_,hl,fun d ty pos af gu α w a h hr hρ=>?_⟩
    have hv:=hρ x (by simp [Op.operands,Call.operands])
    rw [hx,g1]at hv
    have e1:=rep_nsl hv
    refine⟨goInt 0,?_,goInt_rep 0⟩
    have:=len_run (n:=0) (c:=0) (ad:=none) hu ty w
    simp [execOp,resolve,invoke,builtin,e1,this]
  rcases rec_lf hl with ⟨g1,hl⟩|⟨_,hl⟩
  · have g1:g=8:=beq g1
    obtain⟨g2,hl⟩:=oCk_lf hl
    have g2:b=7:=beq g2
    refine⟨_,hl,fun d ty pos af gu α w a h hr hρ=>?_⟩
    have hv:=hρ x (by simp [Op.operands,Call.operands])
    rw [hx,g1,g2]at hv
    obtain⟨ad,m,cp,ev,hk⟩:=rep_inp hv
    refine⟨goInt m,?_,.ref (.ilen hk)⟩
    have:=len_run (n:=m) (c:=cp) (ad:=ad) hu ty w
    simp [execOp,resolve,invoke,builtin,ev,this]
  · obtain⟨g1,hl⟩:=oCk_lf hl
    have g1:10≤g:=ble g1
    refine⟨_,hl,fun d ty pos af gu α w a h hr hρ=>?_⟩
    have hv:=hρ x (by simp [Op.operands,Call.operands])
    rw [hx]at hv
    generalize ev:a.eval x=v at hv
    cases hv with
    |ref hr2=>
      cases hr2 with
      |@sl _ _ _ _ cp ad L hb hg hz ho hn hc had=>
        refine⟨goInt n,?_,goInt_rep n⟩
        have:=len_run (n:=n) (c:=cp) (ad:=some ad) hu ty w
        simp [execOp,resolve,invoke,builtin,ev,this]
      |_=>omega
end
end Go.X1

set_option maxRecDepth 100000
namespace Go.X1
variable [Nu]
section
variable {P:Program} {TT:List TI} {h:H} {lf:Nat×A×H} {W0:World} {ρ:Operand→A}
def BdL (lo:Option Value)(l:Nat):Prop:=match lo with |none=>l=0|some v=>v=.int .i64 (l:Int)
def BdH (n:Nat)(hi:Option Value)(u:Nat):Prop:=match hi with |none=>u=n|some v=>v=.int .i64 (u:Int)
theorem sstr_run {t:Nat}(hu:P.underlying t=some .string)(s:ByteArray){lo hi:Option Value}{l u:Nat}(h1:BdL lo l)(h2:BdH s.size hi u)(h3:l≤u)(h4:u≤s.size)(w:World):
    (Instr.sliceAt t (.string s) lo hi none).run P w=.ok (.string (s.extract l u)) w:=by
  rw [run_sliceAt_string w t _ _ _ _ hu]
  cases lo with
  |none=>
    have h1:l=0:=h1
    subst h1
    cases hi with
    |none=>
      have h2:u=s.size:=h2
      rw [run_slice_string_all w t s hu,h2]
    |some v=>
      have h2:v=.int .i64 (u:Int):=h2
      rw [h2,run_slice_string_h w t s hu .i64 u (by omega) (by omega)]
      rfl
  |some v=>
    have h1:v=.int .i64 (l:Int):=h1
    rw [h1]
    cases hi with
    |none=>
      have h2:u=s.size:=h2
      rw [run_slice_string_l w t s hu .i64 l (by omega) (by omega),h2]
      rfl
    |some v=>
      have h2:v=.int .i64 (u:Int):=h2
      rw [h2,run_slice_string (w:=w) t s .i64 .i64 l u hu (by omega) (by omega) (by omega)]
      rfl
theorem ssl_run {t e:Nat}(hu:P.underlying t=some (.slice e)){sz:Nat}(ad:Option Addr)(n c:Nat){lo hi:Option Value}{l u:Nat}(h1:BdL lo l)(h2:BdH n hi u)(h3:l≤u)(h4:u≤n)(hn:n≤c)(w:World)
    (hs:(sizeOf e).run P w=.ok sz w):
    (Instr.sliceAt t (.slice ad n c) lo hi none).run P w=.ok (sliced ad l u c sz) w:=by
  have he:=elem_of hu
  have hu':P.underlying t=some (.slice (P.elem t)):=by rw [he];exact hu
  rw [run_sliceAt_slice w t _ _ _ _ hu']
  cases lo with
  |none=>
    have h1:l=0:=h1
    subst h1
    cases hi with
    |none=>
      have h2:u=n:=h2
      rw [run_slice_all w t ad n c hu',he,hs,h2]
      rfl
    |some v=>
      have h2:v=.int .i64 (u:Int):=h2
      rw [h2,run_slice_h w t ad n c hu' .i64 u (by omega) (by omega),he,hs]
      rfl
  |some v=>
    have h1:v=.int .i64 (l:Int):=h1
    rw [h1]
    cases hi with
    |none=>
      have h2:u=n:=h2
      rw [run_slice_l w t ad n c hu' .i64 l (by omega) (by omega),he,hs,h2]
      rfl
    |some v=>
      have h2:v=.int .i64 (u:Int):=h2
      rw [h2,run_slice_lh w t ad n c hu' .i64 .i64 l u (by omega) (by omega) (by omega),he,hs]
      rfl
theorem int_nat {α:Al}{v:Value}{n:Nat}(hv:Rep α v (.int n))(hn:9223372036854775808≤n):v=.int .i64 ((n-9223372036854775808:Nat):Int):=by
  obtain⟨m,e1,e2⟩:=rep_int hv
  rw [e1]
  congr 1
  omega
theorem bdl {α:Al}{a:Act}{lo:Option Operand}{l:Nat}(hρ:∀ y,lo=some y→Rep α (a.eval y) (ρ y))(hx:opF.loV ρ lo=.int l)(hl:9223372036854775808≤l):BdL (lo.map a.eval) (l-9223372036854775808):=by
  cases lo with
  |none=>
    have:(9223372036854775808:Nat)=l:=by
      have:A.int 9223372036854775808=.int l:=hx
      injection this
    show l-9223372036854775808=0
    omega
  |some y=>
    have hv:=hρ y rfl
    have hx:ρ y=.int l:=hx
    rw [hx]at hv
    exact int_nat hv hl
theorem ext_list (s:ByteArray)(l u:Nat):(s.extract l u).data.toList=(s.data.toList.drop l).take (u-l):=by
  simp [ByteArray.data_extract,Array.toList_extract,List.extract]
theorem rep_ext {α:Al}{s:ByteArray}{n N l u:Nat}(e2:s.data.toList.length=n)(e3:encB s.data.toList=N)(h3:l≤u)(h4:u≤n):Rep α (.string (s.extract l u)) (.str (u-l) (sbt N l u)):=by
  refine .str ?_ ?_
  · rw [ext_list,List.length_take,List.length_drop];omega
  · rw [ext_list,← e3,encB_sbt]
theorem oSSl_lf {x lo hi:A}{c:A→R}(hl:(oSSl x lo hi c).lf=some lf):∃ n N l u,x=.str n N∧lo=.int l∧hi=.int u∧9223372036854775808≤l∧l≤u∧u≤9223372036854775808+n∧(c (.str (u-l) (sbt N (l-9223372036854775808) (u-9223372036854775808)))).lf=some lf:=by
  obtain⟨n,N,hx,hl⟩:=oStr_lf hl
  obtain⟨l,h1,hl⟩:=oInt_lf hl
  obtain⟨u,h2,hl⟩:=oInt_lf hl
  obtain⟨g1,hl⟩:=oCk_lf hl
  obtain⟨g2,hl⟩:=oCk_lf hl
  obtain⟨g3,hl⟩:=oCk_lf hl
  obtain⟨g4,hl⟩:=mkS_lf hl
  exact⟨n,N,l,u,hx,h1,h2,ble g1,ble g2,ble g3,hl⟩
theorem slS_sound (hT:TabOK P TT){t:Nat}(hk:(tget? TT t).kind=.str){x y:Operand}{lo:Option Operand}{c:A→R}(hl:(oSSl (ρ x) (opF.loV ρ lo) (ρ y) c).lf=some lf):∃ r,(c r).lf=some lf∧OpV P W0 (.slice t x lo (some y) none) ρ r:=by
  obtain⟨n,N,l,u,hx,h1,h2,g1,g2,g3,hl⟩:=oSSl_lf hl
  refine⟨_,hl,fun d ty pos af gu α w a h hr hρ=>?_⟩
  have hu:=und_str (hT.und hk (by simp))
  have hv:=hρ x (by simp [Op.operands])
  rw [hx]at hv
  obtain⟨s,e1,e2,e3⟩:=rep_str hv
  have b1:=bdl (a:=a) (fun z hz=>hρ z (by simp [Op.operands,hz])) h1 g1
  have hy:=hρ y (by simp [Op.operands])
  rw [h2]at hy
  have b2:=int_nat hy (by omega)
  have:=sstr_run hu s b1 (hi:=some (a.eval y)) b2 (by omega) (by rw [bsize];omega) w
  have q:u-l=(u-9223372036854775808)-(l-9223372036854775808):=by omega
  refine⟨.string (s.extract (l-9223372036854775808) (u-9223372036854775808)),?_,?_⟩
  rotate_left
  · show Rep α _ (.str (u-l) (sbt N (l-9223372036854775808) (u-9223372036854775808)))
    rw [q]
    exact rep_ext (α:=α) e2 e3 (by omega) (by omega)
  · simp [execOp,e1,this]
theorem slS0_sound (hT:TabOK P TT){t:Nat}(hk:(tget? TT t).kind=.str){x:Operand}{lo:Option Operand}{c:A→R}(hl:(oSLen (ρ x) fun n=>oSSl (ρ x) (opF.loV ρ lo) n c).lf=some lf):∃ r,(c r).lf=some lf∧OpV P W0 (.slice t x lo none none) ρ r:=by
  obtain⟨m,M,hx0,hl⟩:=oStr_lf hl
  obtain⟨n,N,l,u,hx,h1,h2,g1,g2,g3,hl⟩:=oSSl_lf hl
  rw [hx]at hx0
  injection hx0 with q1 q2
  have h2:9223372036854775808+m=u:=by
    have:A.int (9223372036854775808+m)=.int u:=h2
    injection this
  refine⟨_,hl,fun d ty pos af gu α w a h hr hρ=>?_⟩
  have hu:=und_str (hT.und hk (by simp))
  have hv:=hρ x (by simp [Op.operands])
  rw [hx]at hv
  obtain⟨s,e1,e2,e3⟩:=rep_str hv
  have b1:=bdl (a:=a) (fun z hz=>hρ z (by simp [Op.operands,hz])) h1 g1
  have b2:BdH s.size none (u-9223372036854775808):=by
    show u-9223372036854775808=s.size
    rw [bsize];omega
  have:=sstr_run hu s b1 b2 (by omega) (by rw [bsize];omega) w
  have q:u-l=(u-9223372036854775808)-(l-9223372036854775808):=by omega
  refine⟨.string (s.extract (l-9223372036854775808) (u-9223372036854775808)),?_,?_⟩
  rotate_left
  · show Rep α _ (.str (u-l) (sbt N (l-9223372036854775808) (u-9223372036854775808)))
    rw [q]
    exact rep_ext (α:=α) e2 e3 (by omega) (by omega)
  · simp [execOp,e1,this]
end
end Go.X1

set_option maxRecDepth 100000
namespace Go.X1
variable [Nu]
section
variable {P:Program} {TT:List TI} {h:H} {lf:Nat×A×H} {W0:World} {ρ:Operand→A}
theorem oSl_lf {sz:Nat}{x lo hi:A}{c:A→R}(hl:(oSl sz x lo hi c).lf=some lf):∃ g b o n l u,x=.ref g b o n∧lo=.int l∧hi=.int u∧9223372036854775808≤l∧l≤u∧
    ((g=3∧u≤9223372036854775808∧(c x).lf=some lf)∨(g=10+sz∧u≤9223372036854775808+n∧(c (.ref g b (o+(l-9223372036854775808) * sz) (u-l))).lf=some lf)):=by
  obtain⟨g,b,o,n,hx,hl⟩:=oRef_lf hl
  obtain⟨l,h1,hl⟩:=oInt_lf hl
  obtain⟨u,h2,hl⟩:=oInt_lf hl
  obtain⟨g1,hl⟩:=oCk_lf hl
  obtain⟨g2,hl⟩:=oCk_lf hl
  refine⟨g,b,o,n,l,u,hx,h1,h2,ble g1,ble g2,?_⟩
  rcases rec_lf hl with ⟨g3,hl⟩|⟨_,hl⟩
  · obtain⟨g4,hl⟩:=oCk_lf hl
    exact .inl ⟨beq g3,ble g4,hl⟩
  · obtain⟨g3,hl⟩:=oCk_lf hl
    obtain⟨g4,hl⟩:=oCk_lf hl
    exact .inr ⟨beq g3,ble g4,hl⟩
theorem rep_sliced {α:Al}{L:Loc}{ad:Addr}{b o n c l u:Nat}(hb:α b=some L)(hz:0<L.sz)(ho:L.lo≤o)(hn:n≤c)(hc:c * L.sz+(o-L.lo)=L.cap)(had:c=0∨ad=⟨L.blk,L.base+(o-L.lo),none⟩)(h1:l≤u)(h2:u≤n):
    Rep α (sliced (some ad) l u c L.sz) (.ref (10+L.sz) b (o+l * L.sz) (u-l)):=by
  obtain⟨k,rfl⟩:=Nat.exists_eq_add_of_le (show l≤c by omega)
  have e:(if l+k=l then some ad else(some ad).map (·.add (l * L.sz)))=some (if l+k=l then ad else ad.add (l * L.sz)):=by split<;>rfl
  unfold sliced
  rw [e]
  refine .ref (.sl hb rfl hz (by omega) (by omega) ?_ ?_)
  · rw [Nat.add_mul]at hc
    have:l+k-l=k:=by omega
    rw [this];omega
  · by_cases hk:k=0
    · left;omega
    · right
      rw [if_neg (by omega)]
      rcases had with had|had
      · omega
      · rw [had,addr_add]
        congr 1
        omega
theorem slice_core (hT:TabOK P TT){t e:Nat}(he:elemZ TT t=some e){x:Operand}{lo hi:Option Operand}{v:A}{c:A→R}(hl:(oSl (tget? TT e).size (ρ x) (opF.loV ρ lo) v c).lf=some lf)
    (hh:∀(α:Al) (a:Act) (ad:Option Addr) (n cp u:Nat),a.eval x=.slice ad n cp→(∀ y∈(Op.slice t x lo hi none).operands,Rep α (a.eval y) (ρ y))→v=.int u→9223372036854775808≤u→BdH n (hi.map a.eval) (u-9223372036854775808)):
    ∃ r,(c r).lf=some lf∧OpV P W0 (.slice t x lo hi none) ρ r:=by
  obtain⟨hu,hz⟩:=elemZ_spec hT he
  obtain⟨g,b,o,n,l,u,hx,h1,h2,g1,g2,h3⟩:=oSl_lf hl
  rcases h3 with ⟨rfl,g3,h3⟩|⟨rfl,g3,h3⟩
  · refine⟨_,h3,fun d ty pos af gu α w a h hr hρ=>?_⟩
    have hv:=hρ x (by simp [Op.operands])
    have hv2:=hv
    rw [hx]at hv
    have e1:=rep_nsl hv
    have b1:=bdl (a:=a) (fun z hz=>hρ z (by simp [Op.operands,hz])) h1 g1
    have b2:=hh α a none 0 0 u e1 hρ h2 (Nat.le_trans g1 g2)
    have el:l-9223372036854775808=0:=Nat.sub_eq_zero_of_le (Nat.le_trans g2 g3)
    have eu:u-9223372036854775808=0:=Nat.sub_eq_zero_of_le g3
    rw [el]at b1
    rw [eu]at b2
    have:=ssl_run hu none 0 0 b1 b2 (Nat.le_refl _) (Nat.le_refl _) (Nat.le_refl _) w (hT.size hz w)
    refine⟨_,?_,hv2⟩
    simp [execOp,e1,this,sliced]
  · refine⟨_,h3,fun d ty pos af gu α w a h hr hρ=>?_⟩
    have hv:=hρ x (by simp [Op.operands])
    rw [hx]at hv
    have hz0:0<(tget? TT e).size:=by
      unfold nz at hz
      cases hs:(tget? TT e).size with
      |zero=>rw [hs]at hz;cases hz
      |succ k=>omega
    obtain⟨L,ad,cp,hb,hsz,ho,hn,hc,had,e1⟩:=rep_sl hz0 hv
    have b1:=bdl (a:=a) (fun z hz=>hρ z (by simp [Op.operands,hz])) h1 g1
    have b2:=hh α a (some ad) n cp u e1 hρ h2 (Nat.le_trans g1 g2)
    have:=ssl_run hu (some ad) n cp b1 b2 (by omega) (by omega) hn w (hT.size hz w)
    have q:u-l=(u-9223372036854775808)-(l-9223372036854775808):=by omega
    refine⟨sliced (some ad) (l-9223372036854775808) (u-9223372036854775808) cp (tget? TT e).size,?_,?_⟩
    · simp [execOp,e1,this]
    · rw [q,← hsz]
      exact rep_sliced hb (by omega) ho hn hc had (by omega) (by omega)
theorem sl_sound (hT:TabOK P TT){t e:Nat}(he:elemZ TT t=some e){x y:Operand}{lo:Option Operand}{c:A→R}(hl:(oSl (tget? TT e).size (ρ x) (opF.loV ρ lo) (ρ y) c).lf=some lf):
    ∃ r,(c r).lf=some lf∧OpV P W0 (.slice t x lo (some y) none) ρ r:=
  slice_core hT he hl fun α a ad n cp u e1 hρ h2 h3=>by
    have hy:=hρ y (by simp [Op.operands])
    rw [h2]at hy
    exact int_nat hy h3
theorem oLen_lf {x:A}{c:A→R}(hl:(oLen x c).lf=some lf):∃ g b o n,x=.ref g b o n∧((g=3∧(c (.int 9223372036854775808)).lf=some lf)∨(10≤g∧(c (.int (9223372036854775808+n))).lf=some lf)∨(g=8∧(c (.ref 8 8 o 0)).lf=some lf)):=by
  obtain⟨g,b,o,n,hx,hl⟩:=oRef_lf hl
  refine⟨g,b,o,n,hx,?_⟩
  rcases rec_lf hl with ⟨g1,hl⟩|⟨_,hl⟩
  · exact .inl ⟨beq g1,hl⟩
  rcases rec_lf hl with ⟨g1,hl⟩|⟨_,hl⟩
  · obtain⟨_,hl⟩:=oCk_lf hl
    exact .inr (.inr ⟨beq g1,hl⟩)
  · obtain⟨g1,hl⟩:=oCk_lf hl
    exact .inr (.inl ⟨ble g1,hl⟩)
theorem sl0_sound (hT:TabOK P TT){t e:Nat}(he:elemZ TT t=some e){x:Operand}{lo:Option Operand}{c:A→R}(hl:(oLen (ρ x) fun n=>oSl (tget? TT e).size (ρ x) (opF.loV ρ lo) n c).lf=some lf):
    ∃ r,(c r).lf=some lf∧OpV P W0 (.slice t x lo none none) ρ r:=by
  obtain⟨g,b,o,n,hx,hl⟩:=oLen_lf hl
  rcases hl with ⟨g1,hl⟩|⟨g1,hl⟩|⟨_,hl⟩
  · refine slice_core hT he hl fun α a ad m cp u e1 hρ h2 h3=>?_
    have hv:=hρ x (by simp [Op.operands])
    rw [hx,g1]at hv
    rw [rep_nsl hv]at e1
    have q1:0=m:=(Value.slice.inj e1).2.1
    clear e1 h3
    have q2:=A.int.inj h2
    show u-9223372036854775808=m
    rw [← q2,← q1]
  · refine slice_core hT he hl fun α a ad m cp u e1 hρ h2 h3=>?_
    have hv:=hρ x (by simp [Op.operands])
    rw [hx,e1]at hv
    have q2:=A.int.inj h2
    have key:n=m:=by
      clear h2 q2 hl
      cases hv with
      |ref hr=>cases hr with
        |sl=>rfl
        |nsl=>omega
        |inp=>omega
    show u-9223372036854775808=m
    rw [← q2,← key]
    exact Nat.add_sub_cancel_left _ _
  · obtain⟨_,_,_,_,_,_,_,_,h2,_⟩:=oSl_lf hl
    cases h2
end
end Go.X1

set_option maxRecDepth 100000
namespace Go.X1
variable [Nu]
section
variable {P:Program} {TT:List TI} {h:H} {lf:Nat×A×H} {W0:World} {ρ:Operand→A}
structure CellsOf (P:Program) (W0:World) (α:Al) (w:World) (sz:Nat) (v:Value) (n:Nat) (l:A) (vs:List Value):Prop where
  run:(Builtin.firstCells sz n v).run P w=.ok ⟨vs⟩ w
  len:vs.length=n * sz
  rep:RepL α vs l
  one:∀ u∈vs,u.oneCell'=true
theorem oCells_sound {sz:Nat}(hz:0<sz){x:A}{c:Nat→A→R}(hl:(oCells sz x h c).lf=some lf):∃ n l,(c n l).lf=some lf∧llen l=n * sz∧
    ∀(h2:H),Mono h h2→∀(W0:World) (α:Al) (w:World) (v:Value),HR W0 α w h2→Rep α v x→
      (n=0∧v=.slice none 0 0∧l=.nl)∨∃ ad cp vs,v=.slice (some ad) n cp∧CellsOf P W0 α w sz v n l vs∧(∀ j u,vs[j]? =some u→w.cell? (ad.add j)=some u):=by
  obtain⟨g,b,o,n,hx,hl⟩:=oRef_lf hl
  rcases rec_lf hl with ⟨g1,hl⟩|⟨_,hl⟩
  · have g1:g=3:=beq g1
    refine⟨0,.nl,hl,(Nat.zero_mul sz).symm,fun h2 hm W0 α w v hr hv=>.inl ?_⟩
    rw [hx,g1]at hv
    exact⟨rfl,rep_nsl hv,rfl⟩
  · obtain⟨g1,hl⟩:=oCk_lf hl
    have g1:g=10+sz:=beq g1
    obtain⟨m,lo,t,hb,hl⟩:=oBlk_lf hl
    obtain⟨g2,hl⟩:=oCk_lf hl
    obtain⟨g3,hl⟩:=oCk_lf hl
    have g2:lo≤o:=ble g2
    have g3:o+n * sz≤m:=ble g3
    refine⟨n,_,hl,llen_tgets t _ _,fun h2 hm W0 α w v hr hv=>.inr ?_⟩
    replace hb:=(hm.tr b (by rw [hb];simp)).trans hb
    rw [hx,g1]at hv
    obtain⟨L,ad,cp,hL,hsz,ho,hn,hc,had,e1⟩:=rep_sl hz hv
    obtain⟨vs,q1,q2,q3,q4⟩:=hr.vals hL hb g2 g3
    have hcell:∀ j u,vs[j]? =some u→w.cell? (ad.add j)=some u:=by
      rcases had with had|had
      · have:n=0:=by omega
        subst this
        have:vs=[]:=List.eq_nil_of_length_eq_zero (by rw [q1,Nat.zero_mul])
        subst this
        intro j u hj
        simp at hj
      · intro j u hj
        rw [had,addr_add]
        exact q2 j u hj
    refine⟨ad,cp,vs,e1,⟨?_,q1,q4,q3⟩,hcell⟩
    rw [e1]
    exact run_firstCells_some w sz n ad n cp vs q1 hcell
theorem HR.drew {α:Al}{w:World}(hr:HR W0 α w h):HR W0 α w.drew h:=
  ⟨⟨hr.agr.size,hr.agr.heap,hr.agr.os,hr.agr.out⟩,hr.ro,hr.full,hr.dom,fun b L e=>(hr.blk b L e).world rfl,hr.dis⟩
theorem Step.drew {α α':Al}{w w':World}{h':H}(s:Step W0 α w.drew h α' w' h'):Step W0 α w h α' w' h':=
  ⟨s.hr,⟨s.ext.le,s.ext.new⟩,⟨s.fr.size,s.fr.keep,s.fr.os,s.fr.out⟩,s.ro,s.un⟩
theorem step_kill {α:Al}{w:World}(hr:HR W0 α w h){k:Nat}{L:Loc}(hk:α k=some L)(hro:h.ro≤k)(hal:tget .no h.tr k≠ .no):Step W0 α w h α w (h.put k .no):=
  step_put hr hk hro .no w rfl rfl rfl (fun _ _=>rfl) hal trivial
end
end Go.X1

set_option maxRecDepth 100000
namespace Go.X1
variable [Nu]
section
variable {P:Program} {TT:List TI} {h:H} {lf:Nat×A×H} {W0:World} {ρ:Operand→A}
theorem nth_tgets (t:T A):∀(m o j:Nat),j<m→nth (tgets t m o) j=tget junk t (o+j)
  |0,_,_,hj=>absurd hj (Nat.not_lt_zero _)
  |m+1,o,0,_=>by rw [tgets_S,nth_cn0];rfl
  |m+1,o,j+1,hj=>by
    rw [tgets_S,nth_cnS,nth_tgets t m (o+1) j (Nat.lt_of_succ_lt_succ hj)]
    congr 1;omega
theorem step_row {α:Al}{w:World}(hr:HR W0 α w h)(cs:Array Value)(el:TypeId)(sz n o m:Nat)(t:T A)(hf:Full t m)(hnm:n≤m)(ho:o≤n)(hn:n-o≤cs.size)
    (hc:∀ i,o≤i→i<n→∃ v,cs[i-o]? =some v∧v.oneCell'=true∧Rep α v (tget junk t i)):
    Step W0 α w h (α.set h.nx ⟨w.heap.size,0,o,sz,cs.size,(0,0)⟩) (w.alloc (.cells cs el (0,0))) (h.new (.cs n o t)):=by
  refine step_new hr _ _ _ ⟨rfl,rfl⟩ fun α' w' hle hw'=>⟨rfl,ho,by show n≤o+cs.size;omega,⟨m,hf,hnm⟩,cs,el,hw',by show 0+cs.size≤cs.size;omega,fun i h1 h2=>?_⟩
  obtain⟨v,q1,q2,q3⟩:=hc i h1 h2
  exact⟨v,by rw [Nat.zero_add];exact q1,q2,q3.mono hle⟩
def TabB (P:Program)(T:List TI):Prop:=∀ t i,T[t]? =some i→P.bytesOf t≤1000000∧(i.size≠0→i.zero.length=i.size)∧(i.agg=false→i.size=1)
structure ElemI (P:Program) (TT:List TI) (e:Nat) (i:TypeInfo) (z:Value):Prop where
  info:P.info? e=some i
  zero:i.zero=some z
  size:i.size=(tget? TT e).size
  pos:0<(tget? TT e).size
  bytes:i.bytes≤1000000
  zs:z.cells.size=(tget? TT e).size
theorem nz_pos {e:Nat}(hz:nz TT e=true):0<(tget? TT e).size:=by
  unfold nz at hz
  cases hs:(tget? TT e).size with
  |zero=>rw [hs]at hz;cases hz
  |succ k=>omega
theorem elemI (hT:TabOK P TT)(hB:TabB P TT){e:Nat}(hz:nz TT e=true):∃ i z,ElemI P TT e i z:=by
  have hp:=nz_pos hz
  obtain⟨i,h1,h2,h3,⟨j,hj⟩,_⟩:=hT.info hz
  obtain⟨b1,b2,_⟩:=hB e i h1
  rw [h2]at hp
  have b2:=b2 (by omega)
  have hs:j.size=(tget? TT e).size:=by rw [h2,h3];simp [tiOf,Program.cellsOf,hj]
  have hne:i.zero≠ []:=by intro q;rw [q]at b2;simp at b2;omega
  cases hjz:j.zero with
  |none=>
    exfalso;apply hne
    rw [h3];simp [tiOf,zeroOf,hj,hjz]
  |some z=>
    refine⟨j,z,hj,hjz,hs,by rw [h2];exact hp,?_,?_⟩
    · simpa [Program.bytesOf,hj]using b1
    · have:i.zero=z.cells.toList.map cvA:=by rw [h3];simp [tiOf,zeroOf,hj,hjz]
      rw [this]at b2
      rw [h2,← b2]
      simp
theorem zeroCells_size (zs:Array Value)(k:Nat):(Builtin.zeroCells zs k).size=k * zs.size:=by simp [Builtin.zeroCells]
end
end Go.X1

set_option maxRecDepth 100000
namespace Go.X1
variable [Nu]
section
variable {P:Program} {TT:List TI} {h:H} {lf:Nat×A×H} {W0:World} {ρ:Operand→A}
def ApT (P:Program)(u:Nat):Prop:=(∃ e',P.underlying u=some (.slice e'))∨P.underlying u=some .string
theorem app_grow {t u e:Nat}{i:TypeInfo}{z:Value}(hI:ElemI P TT e i z)(ht:P.underlying t=some (.slice e))(hu:ApT P u)(ty:TypeId){base:Option Addr}{sLen sCap n:Nat}{x:Value}{olds news:Array Value}{w:World}
    (hn:(Builtin.lenOf x).run P w=.ok n w) (hf2:(Builtin.firstCells i.size n x).run P w.drew=.ok news w.drew) (hf1:(Builtin.firstCells i.size sLen (.slice base sLen sCap)).run P w.drew=.ok olds w.drew) (hg:sCap<sLen+n) (hs:sLen+n≤1000000):
    (Builtin.append_ #[t,u] ty #[.slice base sLen sCap,x]).run P w=
      .ok (.slice (some ⟨w.heap.size,0,none⟩) (sLen+n) (grownCap w (sLen+n) sCap e)) (w.drew.alloc (.cells (olds++news++Builtin.zeroCells z.cells (grownCap w (sLen+n) sCap e-(sLen+n))) e (0,0))):=by
  have hb:=hI.bytes
  have hfit:Builtin.nextslicecap (sLen+n) sCap * i.bytes≤281474976710656:=growslice_fits hg (by
    have:(sLen+n) * i.bytes≤1000000 * 1000000:=Nat.mul_le_mul hs hb
    omega)
  have hn':¬ (sLen+n≤sCap):=by omega
  have h63':¬ (9223372036854775807<((sLen:Int)+(n:Int))):=by omega
  have h48':¬ (281474976710656<Builtin.nextslicecap (sLen+n) sCap * i.bytes):=by omega
  rcases hu with ⟨e',hu⟩|hu
  · simp [Builtin.append_,run_underlying ht,run_underlying hu,sizeOf,typeInfo,zeroValue,hI.info,hI.zero,hn,hn',h63',h48',Question.forced,hf2,hf1,newRow,grownCap]
  · simp [Builtin.append_,run_underlying ht,run_underlying hu,sizeOf,typeInfo,zeroValue,hI.info,hI.zero,hn,hn',h63',h48',Question.forced,hf2,hf1,newRow,grownCap]
theorem app_room {t u e:Nat}{i:TypeInfo}{z:Value}(hI:ElemI P TT e i z)(ht:P.underlying t=some (.slice e))(hu:ApT P u)(ty:TypeId){ad:Addr}{sLen sCap n:Nat}{x:Value}{news:Array Value}{w w':World}
    (hn:(Builtin.lenOf x).run P w=.ok n w) (hf:(Builtin.firstCells i.size n x).run P w=.ok news w) (hg:sLen+n≤sCap) (hs:(storeCells (ad.add (sLen * i.size)) news.toList).run P w=.ok () w'):
    (Builtin.append_ #[t,u] ty #[.slice (some ad) sLen sCap,x]).run P w=.ok (.slice (some ad) (sLen+n) sCap) w':=by
  rcases hu with ⟨e',hu⟩|hu
  · simp [Builtin.append_,run_underlying ht,run_underlying hu,sizeOf,typeInfo,hI.info,hn,hg,hf,hs]
  · simp [Builtin.append_,run_underlying ht,run_underlying hu,sizeOf,typeInfo,hI.info,hn,hg,hf,hs]
theorem app_nil0 {t u e:Nat}{i:TypeInfo}{z:Value}(hI:ElemI P TT e i z)(ht:P.underlying t=some (.slice e))(hu:ApT P u)(ty:TypeId){x:Value}{news:Array Value}{w:World}
    (hn:(Builtin.lenOf x).run P w=.ok 0 w) (hf:(Builtin.firstCells i.size 0 x).run P w=.ok news w):
    (Builtin.append_ #[t,u] ty #[.slice none 0 0,x]).run P w=.ok (.slice none 0 0) w:=by
  rcases hu with ⟨e',hu⟩|hu
  · simp [Builtin.append_,run_underlying ht,run_underlying hu,sizeOf,typeInfo,hI.info,hn,hf]
  · simp [Builtin.append_,run_underlying ht,run_underlying hu,sizeOf,typeInfo,hI.info,hn,hf]
end
end Go.X1

set_option maxRecDepth 100000
namespace Go.X1
variable [Nu]
section
variable {P:Program} {TT:List TI} {h:H} {lf:Nat×A×H} {W0:World} {ρ:Operand→A}
theorem step_alias {α:Al}{w:World}(hr:HR W0 α w h)(v:B)(L:Loc)(hL1:W0.heap.size≤L.blk∧L.fz=(0,0))(hL2:L.blk<w.heap.size)(hex:∃ b0 L0,α b0=some L0∧L0.blk=L.blk)
    (hdead:∀ b L',α b=some L'→L'.blk=L.blk→tget .no h.tr b=.no) (hb:∀ α',Le α α'→BR α' w L v):Step W0 α w h (α.set h.nx L) w (h.new v):=by
  have hle:=Al.le_set L hr.free
  have hro:=hr.ro
  have hnx:(h.new v).nx=h.nx+1:=by cases h;rfl
  refine⟨⟨hr.agr,by cases h;exact Nat.le_succ_of_le hro,?_,fun b L' e=>?_,fun b L' e=>?_,fun b b' L1 L2 e1 e2 g1 g2 eb=>?_⟩,⟨hle,fun b L' e=>?_⟩,.refl _ _,?_,fun b hb' _=>by rw [new_get hr,if_neg (by omega)]⟩
  · cases h with |mk t n r=>
    have:=(full_set v t n n hr.full (Nat.le_refl _)).1
    rwa [Nat.max_eq_right (by omega)]at this
  · rw [hnx]
    by_cases hb':b=h.nx
    · subst hb'
      rw [Al.set_same]at e
      cases e
      exact⟨by omega,.inl hL1,hL2⟩
    · rw [α.set_ne L hb']at e
      obtain⟨q1,q2,q3⟩:=hr.dom b L' e
      exact⟨by omega,q2.imp id fun e=>by cases h;exact e,q3⟩
  · rw [new_get hr]
    by_cases hb':b=h.nx
    · subst hb'
      rw [Al.set_same]at e
      cases e
      rw [if_pos rfl]
      exact hb _ hle
    · rw [α.set_ne L hb']at e
      rw [if_neg hb']
      exact(hr.blk b L' e).mono hle
  · rw [new_get hr]at g1 g2
    by_cases h1:b=h.nx<;>by_cases h2:b'=h.nx
    · rw [h1,h2]
    · subst h1
      rw [Al.set_same]at e1
      cases e1
      rw [α.set_ne L h2]at e2
      rw [if_neg h2]at g2
      exact absurd (hdead _ _ e2 eb.symm) g2
    · subst h2
      rw [Al.set_same]at e2
      cases e2
      rw [α.set_ne L h1]at e1
      rw [if_neg h1]at g1
      exact absurd (hdead _ _ e1 eb) g1
    · rw [α.set_ne L h1]at e1
      rw [α.set_ne L h2]at e2
      rw [if_neg h1]at g1
      rw [if_neg h2]at g2
      exact hr.dis b b' L1 L2 e1 e2 g1 g2 eb
  · by_cases hb':b=h.nx
    · subst hb'
      rw [Al.set_same]at e
      cases e
      exact .inr ⟨hr.free,Nat.le_refl _,.inr hex⟩
    · rw [α.set_ne L hb']at e
      exact .inl e
  · refine⟨by cases h;rfl,by omega,fun b hb'=>?_⟩
    rw [new_get hr,if_neg (by omega)]
theorem app_lf {sz n:Nat}{l x:A}{c:A→H→R}(hl:(app sz n l x h c).lf=some lf):∃ g b o m,x=.ref g b o m∧
    ((g=3∧n=0∧(c x h).lf=some lf)∨
     (g=3∧0<n∧n≤1000000∧(c (.ref (10+sz) h.nx 0 n) (h.new (.cs (n * sz) 0 (tsets l .lf 0)))).lf=some lf)∨
     (g=10+sz∧n=0∧(c x h).lf=some lf)∨
     (g=10+sz∧0<n∧m+n≤1000000∧∃ q lo t,tget .no h.tr b=.cs q lo t∧lo≤o∧o+m * sz≤q∧h.ro≤b∧(c (.ref g h.nx o (m+n)) ((h.put b .no).new (.cs (o+m * sz+n * sz) o (tsets l t (o+m * sz))))).lf=some lf)):=by
  obtain⟨g,b,o,m,hx,hl⟩:=oRef_lf hl
  refine⟨g,b,o,m,hx,?_⟩
  have zero:∀{n:Nat},Nat.beq n 0=false→0<n:=fun{n} e=>by
    cases n with
    |zero=>cases e
    |succ k=>omega
  rcases rec_lf hl with ⟨g1,hl⟩|⟨_,hl⟩
  · rcases rec_lf hl with ⟨g2,hl⟩|⟨g2,hl⟩
    · exact .inl ⟨beq g1,beq g2,hl⟩
    · obtain⟨g3,hl⟩:=oCk_lf hl
      refine .inr (.inl ⟨beq g1,zero g2,ble g3,?_⟩)
      have:=hnew_lf hl
      cases h;exact this
  · obtain⟨g1,hl⟩:=oCk_lf hl
    rcases rec_lf hl with ⟨g2,hl⟩|⟨g2,hl⟩
    · exact .inr (.inr (.inl ⟨beq g1,beq g2,hl⟩))
    · obtain⟨g3,hl⟩:=oCk_lf hl
      obtain⟨q,lo,t,hb,hl⟩:=oBlk_lf hl
      obtain⟨g4,hl⟩:=oCk_lf hl
      obtain⟨g5,hl⟩:=oCk_lf hl
      obtain⟨g6,hl⟩:=hput_lf hl
      refine .inr (.inr (.inr ⟨beq g1,zero g2,ble g3,q,lo,t,hb,ble g4,ble g5,g6,?_⟩))
      have:=hnew_lf hl
      cases h;exact this
end
end Go.X1

set_option maxRecDepth 100000
namespace Go.X1
variable [Nu]
section
variable {P:Program} {TT:List TI} {h:H} {lf:Nat×A×H} {W0:World} {ρ:Operand→A}
theorem row_size {olds news z:Array Value}{a b sz k need:Nat}(h1:olds.size=a * sz)(h2:news.size=b * sz)(h3:z.size=sz)(h4:a+b=need)(h5:need≤k):(olds++news++Builtin.zeroCells z (k-need)).size=k * sz:=by
  rw [Array.size_append,Array.size_append,zeroCells_size,h1,h2,h3,← Nat.add_mul,← Nat.add_mul]
  congr 1;omega
theorem app_sound {t u e:Nat}{i:TypeInfo}{z:Value}(hI:ElemI P TT e i z)(ht:P.underlying t=some (.slice e))(hu:ApT P u){n:Nat}{l a:A}{c:A→H→R}(hl:(app (tget? TT e).size n l a h c).lf=some lf):
    ∃ r h',(c r h').lf=some lf∧∀(α:Al) (w:World) (v x:Value) (news:List Value) (ty:TypeId),HR W0 α w h→Rep α v a→(Builtin.lenOf x).run P w=.ok n w→
      (∀ w',w'.heap=w.heap→(Builtin.firstCells i.size n x).run P w'=.ok ⟨news⟩ w')→RepL α news l→(∀ u∈news,u.oneCell'=true)→news.length=n * (tget? TT e).size→
      ∃ v' α' w',(Builtin.append_ #[t,u] ty #[v,x]).run P w=.ok v' w'∧Step W0 α w h α' w' h'∧Rep α' v' r:=by
  have hsz:=hI.size
  have hpos:=hI.pos
  have hzs:=hI.zs
  generalize hS:(tget? TT e).size=sz at *
  obtain⟨g,b,o,m,ha,hc⟩:=app_lf hl
  rcases hc with ⟨rfl,rfl,hc⟩|⟨rfl,hn0,hn1,hc⟩|⟨rfl,rfl,hc⟩|⟨rfl,hn0,hn1,q,lo,tr,hb,g1,g2,g3,hc⟩
  · refine⟨_,_,hc,fun α w v x news ty hr hv hn hf hrep hone hlen=>?_⟩
    have hv':=hv
    rw [ha]at hv'
    have e1:=rep_nsl hv'
    subst e1
    exact⟨_,α,w,app_nil0 hI ht hu ty hn (hf w rfl),.refl hr,hv⟩
  · refine⟨_,_,hc,fun α w v x news ty hr hv hn hf hrep hone hlen=>?_⟩
    have hv':=hv
    rw [ha]at hv'
    have e1:=rep_nsl hv'
    subst e1
    have hrun:=app_grow (w:=w) (sLen:=0) (sCap:=0) (base:=none) (olds:=#[]) hI ht hu ty hn (hf w.drew rfl) (run_firstCells_none (P:=P) w.drew i.size 0 0 0) (by omega) (by omega)
    have hsize:=row_size (olds:=#[]) (news:=⟨news⟩) (z:=z.cells) (a:=0) (b:=n) (sz:=sz) (k:=grownCap w (0+n) 0 e) (need:=0+n) (by simp) hlen hzs rfl (grownCap_ge w (0+n) 0 e)
    have hge:=grownCap_ge w (0+n) 0 e
    obtain⟨f1,f2⟩:=full_sets l .lf 0 0 hrep.isL rfl (Nat.le_refl _)
    have hll:=hrep.len
    have hst:=step_row hr.drew (#[]++⟨news⟩++Builtin.zeroCells z.cells (grownCap w (0+n) 0 e-(0+n))) e sz (n * sz) 0 _ (tsets l .lf 0) f1 (by omega) (Nat.zero_le _) (by
      rw [hsize];exact Nat.le_trans (Nat.sub_le _ _) (Nat.mul_le_mul_right _ (by omega))) (fun j _ hj=>by
        have hlt:j<news.length:=by omega
        refine⟨news[j],?_,hone _ (List.getElem_mem hlt),?_⟩
        · rw [Nat.sub_zero,Array.getElem?_append_left (by simp;exact hlt)]
          simp [hlt]
        · rw [f2 j,if_pos ⟨by omega,by omega⟩]
          exact hrep.get _ _ (by simpa using List.getElem?_eq_getElem hlt))
    refine⟨_,_,_,hrun,hst.drew,?_⟩
    rw [Nat.zero_add]at hge hsize ⊢
    refine .ref (.sl (Al.set_same _ _ _) rfl hpos (Nat.zero_le _) hge ?_ (.inr rfl))
    show _ * sz+(0-0)=(#[]++(⟨news⟩:Array Value)++Builtin.zeroCells z.cells (grownCap w n 0 e-n)).size
    rw [hsize,Nat.sub_self,Nat.add_zero]
  · refine⟨_,_,hc,fun α w v x news ty hr hv hn hf hrep hone hlen=>?_⟩
    have hv':=hv
    rw [ha]at hv'
    obtain⟨L,ad,cp,hL,hsz2,ho,hnc,hcap,had,e1⟩:=rep_sl hpos hv'
    have hnil:news=[]:=List.eq_nil_of_length_eq_zero (by rw [hlen,Nat.zero_mul])
    subst hnil
    have hrun:=app_room (w:=w) (w':=w) (ad:=ad) (sLen:=m) (sCap:=cp) hI ht hu ty hn (hf w rfl) (by omega) (by rfl)
    rw [Nat.add_zero,← e1]at hrun
    exact⟨_,α,w,hrun,.refl hr,hv⟩
  · refine⟨_,_,hc,fun α w v x news ty hr hv hn hf hrep hone hlen=>?_⟩
    rw [ha]at hv
    obtain⟨L,ad,cp,hL,hsz2,ho,hnc,hcap,had,e1⟩:=rep_sl hpos hv
    subst e1
    obtain⟨d1,d2,d3⟩:=hr.dom b L hL
    obtain⟨k1,k2,k3,⟨fm,hfull,hfm⟩,cs,el,k4,k5,k6⟩:=hr.cells hL hb
    have hll:=hrep.len
    have hmul:(m+n) * sz=m * sz+n * sz:=Nat.add_mul _ _ _
    obtain⟨f1,f2⟩:=full_sets l tr fm (o+m * sz) hrep.isL hfull (by omega)
    have hal:tget .no h.tr b≠ .no:=by rw [hb];simp
    replace d2:=d2.resolve_right (Nat.not_lt.2 g3)
    have hnx:(h.put b .no).nx=h.nx:=by cases h;rfl
    by_cases hroom:m+n≤cp
    · have hcp:(m+n) * sz≤cp * sz:=Nat.mul_le_mul_right _ hroom
      rcases had with had|had
      · omega
      · subst had
        have hst:=run_storeCells_fz (P:=P) L.blk (L.base+(o-L.lo)+m * sz) el news 0 cs w (by rw [← d2.2];exact k4) (by rw [hsz2]at hcap;omega) hone
        simp only [Nat.add_zero]at hst
        have hrun:=app_room (w:=w) hI ht hu ty (ad:=⟨L.blk,L.base+(o-L.lo),none⟩) (sLen:=m) (sCap:=cp) (news:=⟨news⟩) hn (hf w rfl) hroom (by rw [hsz,addr_add];exact hst)
        have s1:=step_put hr hL g3 .no (w.setRow L.blk (cs.toList.take (L.base+(o-L.lo)+m * sz)++news++cs.toList.drop (L.base+(o-L.lo)+m * sz+news.length)).toArray) (setRow_size _ _ _) rfl rfl (fun c hc=>setRow_other w _ c _ hc) hal trivial
        have s2:=step_alias s1.hr (.cs (o+m * sz+n * sz) o (tsets l tr (o+m * sz))) ⟨L.blk,L.base+(o-L.lo),o,sz,cp * sz,L.fz⟩ d2 (by rw [setRow_size];exact d3) ⟨b,L,hL,rfl⟩
          (fun b' L' e' eb=>by
            rw [put_get hr _ d1]
            by_cases hb':b'=b
            · rw [if_pos hb']
            · rw [if_neg hb']
              cases hq:tget B.no h.tr b' with
              |no=>rfl
              |_=>exact absurd (hr.dis b' b L' L e' hL (by rw [hq];simp) hal eb) hb')
          (fun α' hle=>by
            refine⟨rfl,by omega,by show o+m * sz+n * sz≤o+cp * sz;omega,⟨_,f1,by omega⟩,_,el,setRow_heap w _ cs _ el _ k4,?_,fun j h1 h2=>?_⟩
            · have:(cs.toList.take (L.base+(o-L.lo)+m * sz)++news++cs.toList.drop (L.base+(o-L.lo)+m * sz+news.length)).toArray.size=cs.size:=by
                simp;rw [hsz2]at hcap;omega
              rw [this]
              show L.base+(o-L.lo)+cp * sz≤cs.size
              rw [hsz2]at hcap;omega
            · have hsp:=splice_get cs.toList news (L.base+(o-L.lo)+m * sz) (by simp;rw [hsz2]at hcap;omega) (L.base+(o-L.lo)+(j-o))
              have hsp':(cs.toList.take (L.base+(o-L.lo)+m * sz)++news++cs.toList.drop (L.base+(o-L.lo)+m * sz+news.length)).toArray[L.base+(o-L.lo)+(j-o)]? =(cs.toList.take (L.base+(o-L.lo)+m * sz)++news++cs.toList.drop (L.base+(o-L.lo)+m * sz+news.length))[L.base+(o-L.lo)+(j-o)]? :=by simp
              rw [hsp',hsp,f2 j]
              by_cases hi:o+m * sz≤j
              · rw [if_pos (by omega),if_pos (by omega)]
                have hlt:j-(o+m * sz)<news.length:=by omega
                refine⟨news[j-(o+m * sz)],?_,hone _ (List.getElem_mem hlt),(hrep.get _ _ (List.getElem?_eq_getElem hlt)).mono hle⟩
                rw [show L.base+(o-L.lo)+(j-o)-(L.base+(o-L.lo)+m * sz)=j-(o+m * sz)by omega,List.getElem?_eq_getElem hlt]
              · rw [if_neg (by omega),if_neg (by omega)]
                obtain⟨uu,q1,q2,q3⟩:=k6 j (by omega) (by omega)
                refine⟨uu,?_,q2,q3.mono hle⟩
                rw [show L.base+(o-L.lo)+(j-o)=L.base+(j-lo)by omega]
                simpa using q1)
        refine⟨_,_,_,hrun,s1.trans s2,?_⟩
        rw [hnx]
        refine .ref (.sl (Al.set_same _ _ _) rfl hpos (Nat.le_refl _) hroom ?_ (.inr ?_))
        · show cp * sz+(o-o)=cp * sz
          rw [Nat.sub_self,Nat.add_zero]
        · show _=(⟨L.blk,L.base+(o-L.lo)+(o-o),none⟩:Addr)
          rw [Nat.sub_self,Nat.add_zero]
    · obtain⟨olds,o1,o2,o3,o4⟩:=hr.vals hL hb g1 g2
      have hcell:∀ j y,olds[j]? =some y→w.drew.cell? (ad.add j)=some y:=by
        rcases had with had|had
        · have hm:m=0:=by omega
          subst hm
          have:olds=[]:=List.eq_nil_of_length_eq_zero (by rw [o1,Nat.zero_mul])
          subst this
          intro j y hj
          simp at hj
        · intro j y hj
          rw [had,addr_add]
          exact o2 j y hj
      have hf1:=run_firstCells_some (P:=P) w.drew i.size m ad m cp olds (by rw [o1,hsz]) hcell
      have hrun:=app_grow (w:=w) (sLen:=m) (sCap:=cp) (base:=some ad) (olds:=olds.toArray) (news:=⟨news⟩) hI ht hu ty hn (hf w.drew rfl) hf1 (by omega) hn1
      have hge:=grownCap_ge w (m+n) cp e
      have hsize:=row_size (olds:=olds.toArray) (news:=⟨news⟩) (z:=z.cells) (a:=m) (b:=n) (sz:=sz) (k:=grownCap w (m+n) cp e) (need:=m+n) (by simpa using o1) hlen hzs rfl hge
      have hmg:(m+n) * sz≤grownCap w (m+n) cp e * sz:=Nat.mul_le_mul_right _ hge
      generalize grownCap w (m+n) cp e=K at *
      have s1:=step_kill hr.drew hL g3 hal
      have s2:=step_row s1.hr (olds.toArray++⟨news⟩++Builtin.zeroCells z.cells (K-(m+n))) e sz (o+m * sz+n * sz) o _ (tsets l tr (o+m * sz)) f1 (by omega) (by omega) (by rw [hsize];omega) (fun j h1 h2=>by
        rw [f2 j]
        by_cases hi:o+m * sz≤j
        · rw [if_pos (by omega)]
          have hlt:j-(o+m * sz)<news.length:=by omega
          refine⟨news[j-(o+m * sz)],?_,hone _ (List.getElem_mem hlt),hrep.get _ _ (List.getElem?_eq_getElem hlt)⟩
          rw [Array.getElem?_append_left (by simp;omega),Array.getElem?_append_right (by simp;omega)]
          have:j-o-olds.toArray.size=j-(o+m * sz):=by simp;omega
          rw [this]
          simp [hlt]
        · rw [if_neg (by omega)]
          have hlt:j-o<olds.length:=by omega
          refine⟨olds[j-o],?_,o3 _ (List.getElem_mem hlt),?_⟩
          · rw [Array.getElem?_append_left (by simp;omega),Array.getElem?_append_left (by simpa using hlt)]
            simp [hlt]
          · have:=o4.get _ _ (List.getElem?_eq_getElem hlt)
            rw [nth_tgets _ _ _ _ (by omega)]at this
            rwa [show o+(j-o)=j by omega]at this)
      refine⟨_,_,_,hrun,(s1.trans s2).drew,?_⟩
      rw [hnx]
      refine .ref (.sl (Al.set_same _ _ _) rfl hpos (Nat.le_refl _) hge ?_ (.inr ?_))
      · show K * sz+(o-o)=(olds.toArray++⟨news⟩++Builtin.zeroCells z.cells (K-(m+n))).size
        rw [hsize,Nat.sub_self,Nat.add_zero]
      · show _=(⟨w.drew.heap.size,0+(o-o),none⟩:Addr)
        rw [Nat.sub_self];rfl
end
end Go.X1

set_option maxRecDepth 100000
namespace Go.X1
variable [Nu]
section
variable {P:Program} {TT:List TI} {h:H} {lf:Nat×A×H} {W0:World} {ρ:Operand→A}
theorem cell_heap {w w':World}(hh:w'.heap=w.heap)(a:Addr):w'.cell? a=w.cell? a:=by simp [World.cell?,hh]
theorem news_of {i:TypeInfo}{z:Value}{e n:Nat}{l:A}{α:Al}{w:World}{v:Value}(hI:ElemI P TT e i z)
    (hv:(n=0∧v=.slice none 0 0∧l=.nl)∨∃ ad cp vs,v=.slice (some ad) n cp∧CellsOf P W0 α w (tget? TT e).size v n l vs∧(∀ j u,vs[j]? =some u→w.cell? (ad.add j)=some u)):
    ∃ news:List Value,(Builtin.lenOf v).run P w=.ok n w∧(∀ w',w'.heap=w.heap→(Builtin.firstCells i.size n v).run P w'=.ok ⟨news⟩ w')∧RepL α news l∧(∀ u∈news,u.oneCell'=true)∧news.length=n * (tget? TT e).size:=by
  rcases hv with ⟨rfl,rfl,rfl⟩|⟨ad,cp,vs,rfl,hc,hcell⟩
  · exact⟨[],rfl,fun w' _=>run_firstCells_none w' i.size 0 0 0,.nil,fun u hu=>by simp at hu,by rw [Nat.zero_mul];rfl⟩
  · refine⟨vs,rfl,fun w' hh=>?_,hc.rep,hc.one,hc.len⟩
    exact run_firstCells_some w' i.size n ad n cp vs (by rw [hc.len,hI.size]) fun j u hu=>by rw [cell_heap hh];exact hcell j u hu
theorem bcall_app {x y:Operand}{t t':Nat}{d:Option Tmp}{ty:TypeId}{pos:String}{af:Array Edge}{gu:Option (Nat×Bool)}{a:Act}{w w':World}{v:Value}
    (hr:(Builtin.append_ #[t,t'] ty #[a.eval x,a.eval y]).run P w=.ok v w'):(execOp a.eval ⟨d,.call ⟨.builtin .append,⟨[x,y]⟩,⟨[t,t']⟩⟩,ty,pos,af,gu⟩).run P w=.ok (.value v) w':=by
  simp [execOp,resolve,invoke,builtin,hr]
theorem opApp_sound (hT:TabOK P TT)(hB:TabB P TT){t t' e e':Nat}(he:elemZ TT t=some e)(hk:(tget? TT t').kind=.slice e'){x y:Operand}{c:A→H→R}(hl:(oApp (tget? TT e).size (ρ x) (ρ y) h c).lf=some lf):
    ∃ r h',(c r h').lf=some lf∧OpS P W0 (.call ⟨.builtin .append,⟨[x,y]⟩,⟨[t,t']⟩⟩) ρ h r h':=by
  obtain⟨hu,hz⟩:=elemZ_spec hT he
  obtain⟨i,z,hI⟩:=elemI hT hB hz
  obtain⟨n,l,hl,hll,hc⟩:=oCells_sound hI.pos hl
  obtain⟨r,h',hl,hs⟩:=app_sound hI hu (.inl ⟨e',und_slice (hT.und hk (by simp))⟩) hl
  refine⟨r,h',hl,ops_step fun d ty pos af gu α w a hr hρ=>?_⟩
  obtain⟨news,q1,q2,q3,q4,q5⟩:=news_of (W0:=W0) hI (hc h (Mono.refl h) W0 α w _ hr (hρ y (by simp [Op.operands,Call.operands])))
  obtain⟨v',α',w',g1,g2,g3⟩:=hs α w _ _ news ty hr (hρ x (by simp [Op.operands,Call.operands])) q1 q2 q3 q4 q5
  exact⟨v',α',w',bcall_app g1,g2,g3⟩
end
end Go.X1

set_option maxRecDepth 100000
namespace Go.X1
variable [Nu]
section
variable {P:Program} {TT:List TI} {h:H} {lf:Nat×A×H} {W0:World} {ρ:Operand→A}
def byV (b:UInt8):Value:=.int .u8 b.toNat
theorem bytesL_S (n N:Nat):bytesL (n+1) N=.cn (.byt (N % 256)) (bytesL n (N / 256)):=rfl
theorem repL_bytes {α:Al}:∀ bs:List UInt8,RepL α (bs.map byV) (bytesL bs.length (encB bs))
  | []=>.nil
  |b::r=>by
    have hb:b.toNat<256:=b.toNat_lt
    have e1:encB (b::r) % 256=b.toNat:=by show(b.toNat+encB r * 256) % 256=_;omega
    have e2:encB (b::r) / 256=encB r:=by show(b.toNat+encB r * 256) / 256=_;omega
    rw [List.length_cons,bytesL_S,e1,e2,List.map_cons]
    exact .cons (.byt rfl hb) (repL_bytes r)
theorem allC_cn (x r:A):allC (.cn x r)=@Bool.rec (fun _=>Bool) false (allC r) (isC x):=rfl
theorem pcs_cells {α:Al}{bs:List UInt8}{cs:A}(h1:allC cs=true)(h:Pcs bs cs):bs.length=llen cs∧RepL α (bs.map byV) cs:=by
  induction h with
  |nil=>exact⟨rfl,.nil⟩
  |@byt b r cs h ih=>
    rw [allC_cn]at h1
    obtain⟨q1,q2⟩:=ih h1
    exact⟨by rw [List.length_cons,q1,llen_cn],.cons (.byt rfl b.toNat_lt) q2⟩
  |dg hv h0 h ih=>
    rw [allC_cn]at h1
    obtain⟨q1,q2⟩:=ih h1
    exact⟨by rw [List.length_cons,q1,llen_cn],.cons (.ref (.dg hv h0)) q2⟩
  |it hv h ih=>cases h1
  |tx a b h ih=>cases h1
theorem firstCells_str (sz:Nat)(s:ByteArray)(w:World):(Builtin.firstCells sz s.size (.string s)).run P w=.ok ⟨s.data.toList.map byV⟩ w:=by
  have e1:s.extract 0 s.size=s:=by
    apply ByteArray.ext
    rw [ByteArray.data_extract]
    exact Array.extract_size
  simp only [Builtin.firstCells,e1]
  have:s.data.map (fun b=>Value.int IntKind.u8 b.toNat)=⟨s.data.toList.map byV⟩:=by
    apply Array.ext'
    rw [Array.toList_map];rfl
  rw [this];rfl
theorem opAppS_sound (hT:TabOK P TT)(hB:TabB P TT){t t' e:Nat}(he:elemZ TT t=some e)(h1:(tget? TT e).size=1)(hk:(tget? TT t').kind=.str){x y:Operand}{c:A→H→R}(hl:(oAppS (ρ x) (ρ y) h c).lf=some lf):
    ∃ r h',(c r h').lf=some lf∧OpS P W0 (.call ⟨.builtin .append,⟨[x,y]⟩,⟨[t,t']⟩⟩) ρ h r h':=by
  obtain⟨hu,hz⟩:=elemZ_spec hT he
  obtain⟨i,z,hI⟩:=elemI hT hB hz
  rcases oStrE_lf hl with ⟨n,N,hy,hl⟩|⟨cs,hy,hl⟩
  case inr=>
    obtain⟨g1,hl⟩:=oCk_lf hl
    have hl':(app (tget? TT e).size (llen cs) cs (ρ x) h c).lf=some lf:=by rw [h1];exact hl
    obtain⟨r,h',hl2,hs⟩:=app_sound hI hu (.inr (und_str (hT.und hk (by simp)))) hl'
    refine⟨r,h',hl2,ops_step fun d ty pos af gu α w a hr hρ=>?_⟩
    have hv:=hρ y (by simp [Op.operands,Call.operands])
    rw [hy]at hv
    obtain⟨s,e1,e2⟩:=rep_pst hv
    obtain⟨e3,hrep⟩:=pcs_cells (α:=α) g1 e2
    have e4:s.size=llen cs:=by rw [bsize,e3]
    obtain⟨v',α',w',g1,g2,g3⟩:=hs α w _ (.string s) (s.data.toList.map byV) ty hr (hρ x (by simp [Op.operands,Call.operands])) (by rw [← e4];rfl) (fun w' _=>by rw [← e4];exact firstCells_str _ s w')
      hrep (fun u hu=>by obtain⟨b,_,rfl⟩:=List.mem_map.1 hu;rfl) (by rw [List.length_map,e3,h1,Nat.mul_one])
    rw [← e1]at g1
    exact⟨v',α',w',bcall_app g1,g2,g3⟩
  have hl':(app (tget? TT e).size n (bytesL n N) (ρ x) h c).lf=some lf:=by rw [h1];exact hl
  obtain⟨r,h',hl2,hs⟩:=app_sound hI hu (.inr (und_str (hT.und hk (by simp)))) hl'
  refine⟨r,h',hl2,ops_step fun d ty pos af gu α w a hr hρ=>?_⟩
  have hv:=hρ y (by simp [Op.operands,Call.operands])
  rw [hy]at hv
  obtain⟨s,e1,e2,e3⟩:=rep_str hv
  have e4:s.size=n:=by rw [bsize,e2]
  have hrep:=repL_bytes (α:=α) s.data.toList
  rw [e2,e3]at hrep
  obtain⟨v',α',w',g1,g2,g3⟩:=hs α w _ (.string s) (s.data.toList.map byV) ty hr (hρ x (by simp [Op.operands,Call.operands])) (by rw [← e4];rfl) (fun w' _=>by rw [← e4];exact firstCells_str _ s w')
    hrep (fun u hu=>by obtain⟨b,_,rfl⟩:=List.mem_map.1 hu;rfl) (by rw [List.length_map,e2,h1,Nat.mul_one])
  rw [← e1]at g1
  exact⟨v',α',w',bcall_app g1,g2,g3⟩
end
end Go.X1

set_option maxRecDepth 100000
namespace Go.X1
variable [Nu]
section
variable {P:Program} {TT:List TI} {h:H} {lf:Nat×A×H} {W0:World} {ρ:Operand→A}
theorem rep_dg {α:Al}{v:Value}{j i:Nat}(h:Rep α v (.ref 8 3 j i)):∃ b:UInt8,v=.int .u8 b.toNat∧Nu.val i≤999∧(itB (Nu.val i))[j]? =some b:=by
  cases h with |ref h=>
  generalize hg:8=g at h
  generalize hb:3=b at h
  cases h with
  |dg h1 h2=>exact⟨_,rfl,h1,h2⟩
  |sl _ hg'=>omega
  |_=>omega
theorem allB_cn (x r:A):allB (.cn x r)=@Bool.rec (fun _=>Bool) false (allB r) (isB x):=rfl
theorem unB_cn (x r:A):unB (.cn x r)=unB x+unB r * 256:=rfl
theorem rep_allB {α:Al}:∀{vs:List Value} {l:A},RepL α vs l→allB l=true→∃ bs:List UInt8,vs=bs.map byV∧encB bs=unB l
  | [],_,.nil,_=>⟨[],rfl,rfl⟩
  |_::_,_,@RepL.cons _ _ v x vs xs hv t,h1=>by
    rw [allB_cn]at h1
    cases hx:isB x with
    |false=>rw [hx]at h1;cases h1
    |true=>
      rw [hx]at h1
      obtain⟨bs,e1,e2⟩:=rep_allB t h1
      cases x with
      |byt n=>
        obtain⟨m,q1,q2,q3⟩:=rep_byt hv
        refine⟨UInt8.ofNat n::bs,?_,?_⟩
        · rw [List.map_cons,e1,q1,q2]
          congr 1
          show Value.int .u8 (n:Int)=.int .u8 (((UInt8.ofNat n).toNat:Nat):Int)
          rw [UInt8.toNat_ofNat_of_lt' (by simpa using q3)]
        · rw [unB_cn,← e2]
          show(UInt8.ofNat n).toNat+encB bs * 256=n+encB bs * 256
          rw [UInt8.toNat_ofNat_of_lt' (by simpa using q3)]
      |_=>cases hx
theorem rep_allC {α:Al}:∀{vs:List Value} {l:A},RepL α vs l→allC l=true→∃ bs:List UInt8,vs=bs.map byV∧Pcs bs l
  | [],_,.nil,_=>⟨[],rfl,.nil⟩
  |_::_,_,@RepL.cons _ _ v x vs xs hv t,h1=>by
    rw [allC_cn]at h1
    cases hx:isC x with
    |false=>rw [hx]at h1;cases h1
    |true=>
      rw [hx]at h1
      obtain⟨bs,e1,e2⟩:=rep_allC t h1
      cases x with
      |byt n=>
        obtain⟨m,q1,q2,q3⟩:=rep_byt hv
        have e3:(UInt8.ofNat n).toNat=n:=UInt8.toNat_ofNat_of_lt' (by simpa using q3)
        refine⟨UInt8.ofNat n::bs,?_,?_⟩
        · rw [List.map_cons,e1,q1,q2]
          congr 1
          show Value.int .u8 (n:Int)=.int .u8 (((UInt8.ofNat n).toNat:Nat):Int)
          rw [e3]
        · have:=Pcs.byt (b:=UInt8.ofNat n) e2
          rw [e3]at this
          exact this
      |ref g b o n=>
        have hx:(@Bool.rec (fun _=>Bool) false (Nat.beq b 3) (Nat.beq g 8))=true:=hx
        cases hg:Nat.beq g 8<;>rw [hg]at hx
        · cases hx
        · have hb:b=3:=beq hx
          have hg:g=8:=beq hg
          subst hb;subst hg
          obtain⟨B,q1,q2,q3⟩:=rep_dg hv
          exact⟨B::bs,by rw [List.map_cons,e1,q1];rfl,.dg q2 q3 e2⟩
      |_=>cases hx
theorem b2s_sound (hT:TabOK P TT){s d e:Nat}(hs:(tget? TT s).kind=.slice e)(he:(tget? TT e).kind=.int .u8)(hd:(tget? TT d).kind=.str){x:Operand}{c:A→R}(hl:(oB2S (ρ x) h c).lf=some lf):∃ r,(c r).lf=some lf∧OpL P W0 (.convert s d x) ρ h r:=by
  obtain⟨n,l,hl,hll,hc⟩:=oCells_sound (P:=P) (Nat.lt_succ_self 0) hl
  have us:=und_slice (hT.und hs (by simp))
  have ue:=und_int (hT.und he (by simp))
  have ud:=und_str (hT.und hd (by simp))
  rcases rec_lf hl with ⟨g1,hl⟩|⟨_,hl⟩
  case inr=>
    obtain⟨g1,hl⟩:=oCk_lf hl
    refine⟨_,hl,fun D ty pos af gu α w a h2 hm hr hρ=>?_⟩
    rcases hc h2 hm W0 α w _ hr (hρ x (by simp [Op.operands]))with ⟨rfl,e1,rfl⟩|⟨ad,cp,vs,e1,hcs,hcell⟩
    · refine⟨.string .empty,?_,.pst .nil⟩
      simp [execOp,e1,convert,run_underlying us,run_underlying ue,run_underlying ud,Conv.bytesToString]
    · obtain⟨bs,q1,q2⟩:=rep_allC hcs.rep g1
      have hlen:bs.length=n:=by
        have:=hcs.len
        rw [q1,List.length_map]at this
        omega
      have hrun:=run_convert_bytes_back (P:=P) w s d e ad cp bs us ue ud (fun j hj=>hcell j _ (by rw [q1];simp [hj,byV]))
      refine⟨.string ⟨bs.toArray⟩,?_,.pst (by simpa using q2)⟩
      simp only [execOp,e1,← hlen,Sem.run_bind,hrun,Result.andThen_ok]
      rfl
  obtain⟨g2,hl⟩:=mkS_lf hl
  refine⟨_,hl,fun D ty pos af gu α w a h2 hm hr hρ=>?_⟩
  rcases hc h2 hm W0 α w _ hr (hρ x (by simp [Op.operands]))with ⟨rfl,e1,rfl⟩|⟨ad,cp,vs,e1,hcs,hcell⟩
  · refine⟨.string .empty,?_,.str rfl rfl⟩
    simp [execOp,e1,convert,run_underlying us,run_underlying ue,run_underlying ud,Conv.bytesToString]
  · obtain⟨bs,q1,q2⟩:=rep_allB hcs.rep g1
    have hlen:bs.length=n:=by
      have:=hcs.len
      rw [q1,List.length_map]at this
      omega
    have hrun:=run_convert_bytes_back (P:=P) w s d e ad cp bs us ue ud (fun j hj=>hcell j _ (by rw [q1];simp [hj,byV]))
    refine⟨.string ⟨bs.toArray⟩,?_,.str (by simpa using hlen) (by simpa using q2)⟩
    simp only [execOp,e1,← hlen,Sem.run_bind,hrun,Result.andThen_ok]
    rfl
end
end Go.X1

set_option maxRecDepth 100000
namespace Go.X1
variable [Nu]
section
variable {P:Program} {TT:List TI} {h:H} {lf:Nat×A×H} {W0:World} {ρ:Operand→A}
theorem max_sound {x y:Operand}{ts:List Nat}{c:A→R}(hl:(oMax (ρ x) (ρ y) c).lf=some lf):∃ r,(c r).lf=some lf∧OpV P W0 (.call ⟨.builtin .max,⟨[x,y]⟩,⟨ts⟩⟩) ρ r:=by
  obtain⟨m,hx,hl⟩:=oInt_lf hl
  obtain⟨n,hy,hl⟩:=oInt_lf hl
  refine⟨_,hl,fun d ty pos af gu α w a h hr hρ=>?_⟩
  have h1:=hρ x (by simp [Op.operands,Call.operands])
  have h2:=hρ y (by simp [Op.operands,Call.operands])
  rw [hx]at h1
  rw [hy]at h2
  obtain⟨p,e1,e2⟩:=rep_int h1
  obtain⟨q,f1,f2⟩:=rep_int h2
  refine⟨.int .i64 (if q>p then q else p),?_,.int ?_⟩
  · simp [execOp,resolve,invoke,builtin,e1,f1,Builtin.max_,Builtin.max2]
  · have hb:=nat_ble m n
    show(if q>p then q else p)+9223372036854775808=((@Bool.rec (fun _=>Nat) m n (Nat.ble m n):Nat):Int)
    rw [hb]
    by_cases hmn:m≤n
    · rw [decide_eq_true hmn]
      show _=(n:Int)
      split<;>omega
    · rw [decide_eq_false hmn]
      show _=(m:Int)
      split<;>omega
theorem min_sound {x y:Operand}{ts:List Nat}{c:A→R}(hl:(oMin (ρ x) (ρ y) c).lf=some lf):∃ r,(c r).lf=some lf∧OpV P W0 (.call ⟨.builtin .min,⟨[x,y]⟩,⟨ts⟩⟩) ρ r:=by
  obtain⟨m,hx,hl⟩:=oInt_lf hl
  obtain⟨n,hy,hl⟩:=oInt_lf hl
  refine⟨_,hl,fun d ty pos af gu α w a h hr hρ=>?_⟩
  have h1:=hρ x (by simp [Op.operands,Call.operands])
  have h2:=hρ y (by simp [Op.operands,Call.operands])
  rw [hx]at h1
  rw [hy]at h2
  obtain⟨p,e1,e2⟩:=rep_int h1
  obtain⟨q,f1,f2⟩:=rep_int h2
  refine⟨.int .i64 (if q<p then q else p),?_,.int ?_⟩
  · simp [execOp,resolve,invoke,builtin,e1,f1,Builtin.min_,Builtin.min2]
  · have hb:=nat_ble m n
    show(if q<p then q else p)+9223372036854775808=((@Bool.rec (fun _=>Nat) n m (Nat.ble m n):Nat):Int)
    rw [hb]
    by_cases hmn:m≤n
    · rw [decide_eq_true hmn]
      show _=(m:Int)
      split<;>omega
    · rw [decide_eq_false hmn]
      show _=(n:Int)
      split<;>omega
end
end Go.X1

set_option maxRecDepth 100000
namespace Go.X1
variable [Nu]
section
theorem foldl_set:∀(cs:List Value) (k:Nat) (off:Nat) (arr:Array Value),off+k+cs.length≤arr.size→
    ((cs.zipIdx k).foldl (fun a (p:Value×Nat)=>a.setIfInBounds (off+p.2) p.1) arr).toList=arr.toList.take (off+k)++cs++arr.toList.drop (off+k+cs.length)
  | [],k,off,arr,_=>by simp
  |c::cs,k,off,arr,h=>by
    have h':off+k+(cs.length+1)≤arr.size:=by simpa using h
    simp only [List.zipIdx_cons,List.foldl_cons]
    rw [foldl_set cs (k+1) off _ (by simp;omega)]
    have e:=list_seg_step arr.toList (off+k) c cs (by simp;omega)
    simpa [Array.toList_setIfInBounds,Nat.add_assoc]using e
theorem fill_cons {place:Nat→Option (Nat×Nat)}{i off:Nat}{v:Value}{vs:List Value}(hp:place i=some (off,vs.length))(hv:v.cells=⟨vs⟩){cells:List Value}(hl:off+vs.length≤cells.length)(rest:List (Nat×Value)):
    Instr.fill place ⟨cells⟩ ((i,v)::rest)=Instr.fill place ⟨cells.take off++vs++cells.drop (off+vs.length)⟩ rest:=by
  have e:((⟨vs⟩:Array Value).zipIdx.foldl (fun cs (p:Value×Nat)=>cs.setIfInBounds (off+p.2) p.1) (⟨cells⟩:Array Value))=⟨cells.take off++vs++cells.drop (off+vs.length)⟩:=by
    apply Array.ext'
    rw [← Array.foldl_toList,Array.toList_zipIdx]
    exact foldl_set vs 0 off ⟨cells⟩ (by simpa using hl)
  have e2:(Array.foldl (fun cs x=>match x with |(c,j)=>cs.setIfInBounds (off+j) c) (⟨cells⟩:Array Value) (⟨vs⟩:Array Value).zipIdx)=⟨cells.take off++vs++cells.drop (off+vs.length)⟩:=e
  rw [Instr.fill,hp]
  simp only [hv]
  rw [if_neg (by simp;omega)]
  rw [e2]
end
end Go.X1

set_option maxRecDepth 100000
namespace Go.X1
variable [Nu]
section
variable {P:Program} {TT:List TI} {h:H} {lf:Nat×A×H} {W0:World} {ρ:Operand→A}
def PR (place:Nat→Option (Nat×Nat))(ρ:Operand→A):List (Nat×Nat×Bool×A)→List (Nat×Operand)→Prop
  | [],[]=>True
  |(o,n,_,v)::ps,(k,x)::qs=>place k=some (o,n)∧v=ρ x∧PR place ρ ps qs
  |_,_=>False
theorem oSpl_lf {n:Nat}{v:A}{c:A→R}(hl:(oSpl n v c).lf=some lf):∃ l,v=.nd 0 l∧llen l=n∧(c l).lf=some lf:=by
  obtain⟨g,l,h1,hl⟩:=oNd_lf (tid_lf hl)
  obtain⟨g1,hl1⟩:=oCk_lf hl
  obtain⟨g2,hl2⟩:=oCk_lf hl1
  have g3:g=0:=beq g1
  exact⟨l,by rw [h1,g3],beq g2,hl2⟩
theorem fill_step {α:Al}{place:Nat→Option (Nat×Nat)}{zs cells vs:List Value}{i o k:Nat}{v:Value}{l r:A}{rest:List (Nat×Value)}
    (hio:i≤o) (hoz:o+vs.length≤zs.length) (hlen:cells.length=zs.length) (hd:cells.drop i=zs.drop i) (hone:∀ u∈zs,u.oneCell'=true)
    (hp:place k=some (o,vs.length)) (hv:v.cells=⟨vs⟩) (hrep:RepL α vs l) (hv1:∀ u∈vs,u.oneCell'=true)
    (ih:∀ cells1:List Value,cells1.length=zs.length→cells1.drop (o+vs.length)=zs.drop (o+vs.length)→
      ∃ cells',Instr.fill place ⟨cells1⟩ rest=some ⟨cells'⟩∧cells'.length=zs.length∧cells'.take (o+vs.length)=cells1.take (o+vs.length)∧RepL α (cells'.drop (o+vs.length)) r∧∀ u∈cells'.drop (o+vs.length),u.oneCell'=true):
    ∃ cells',Instr.fill place ⟨cells⟩ ((k,v)::rest)=some ⟨cells'⟩∧cells'.length=zs.length∧cells'.take i=cells.take i∧RepL α (cells'.drop i) (lapp (lA (((zs.map cvA).drop i).take (o-i))) (lapp l r))∧∀ u∈cells'.drop i,u.oneCell'=true:=by
  have hto:(cells.take o).length=o:=by simp;omega
  have htv:(cells.take o++vs).length=o+vs.length:=by simp;omega
  have e1:(cells.take o++vs++cells.drop (o+vs.length)).take (o+vs.length)=cells.take o++vs:=by
    rw [List.take_append_of_le_length (by omega)];rw [← htv];exact List.take_length
  have e2:(cells.take o++vs++cells.drop (o+vs.length)).drop (o+vs.length)=cells.drop (o+vs.length):=by
    rw [← htv,List.drop_left]
  have e3:cells.drop (o+vs.length)=zs.drop (o+vs.length):=by
    have:=congrArg (List.drop (o+vs.length-i)) hd
    rw [List.drop_drop,List.drop_drop]at this
    rwa [show i+(o+vs.length-i)=o+vs.length by omega]at this
  obtain⟨cells',f1,f2,f3,f4,f5⟩:=ih (cells.take o++vs++cells.drop (o+vs.length)) (by simp;omega) (by rw [e2,e3])
  rw [e1]at f3
  have e4:cells'=cells.take o++vs++cells'.drop (o+vs.length):=by rw [← f3,List.take_append_drop]
  have e5:(cells.take o).drop i=(zs.drop i).take (o-i):=by rw [List.drop_take,hd]
  have e6:cells'.drop i=(zs.drop i).take (o-i)++(vs++cells'.drop (o+vs.length)):=by
    conv=>lhs;rw [e4]
    rw [List.append_assoc,List.drop_append_of_le_length (by omega),e5]
  refine⟨cells',(fill_cons hp hv (by omega) rest).trans f1,f2,?_,?_,?_⟩
  · have:=congrArg (List.take i) f3
    rw [List.take_take,Nat.min_eq_left (by omega),List.take_append_of_le_length (by omega),List.take_take,Nat.min_eq_left hio]at this
    exact this
  · rw [e6,← List.map_drop,← List.map_take]
    exact(repL_lA _).app (hrep.app f4)
  · rw [e6]
    intro u hu
    rcases List.mem_append.1 hu with hu|hu
    · exact hone u (List.mem_of_mem_drop (List.mem_of_mem_take hu))
    · rcases List.mem_append.1 hu with hu|hu
      · exact hv1 u hu
      · exact f5 u hu
theorem fill_sound {place:Nat→Option (Nat×Nat)}{zs:List Value}(hone:∀ u∈zs,u.oneCell'=true):∀(ps:List (Nat×Nat×Bool×A)) (qs:List (Nat×Operand)) (i:Nat) (c:A→R),PR place ρ ps qs→(fill (zs.map cvA) ps i c).lf=some lf→
    ∃ l,(c l).lf=some lf∧∀(α:Al) (ev:Operand→Value),(∀ p∈qs,Rep α (ev p.2) (ρ p.2))→∀ cells:List Value,cells.length=zs.length→cells.drop i=zs.drop i→
      ∃ cells',Instr.fill place ⟨cells⟩ (qs.map fun p=>(p.1,ev p.2))=some ⟨cells'⟩∧cells'.length=zs.length∧cells'.take i=cells.take i∧RepL α (cells'.drop i) l∧∀ u∈cells'.drop i,u.oneCell'=true
  | [],[],i,c,_,hl=>⟨_,tid_lf hl,fun α ev _ cells h1 h2=>⟨cells,rfl,h1,rfl,by rw [h2,← List.map_drop];exact repL_lA _,by rw [h2];exact fun u hu=>hone u (List.mem_of_mem_drop hu)⟩⟩
  |(o,n,g,v)::ps,(k,x)::qs,i,c,hp,hl=>by
    obtain⟨p1,p2,p3⟩:=hp
    rcases bb_lf hl with ⟨hb,hl⟩|⟨_,hl⟩
    · rw [Bool.and_eq_true]at hb
      obtain⟨hb1,hb2⟩:=hb
      have hb1:=ble hb1
      have hb2:=ble hb2
      rw [List.length_map]at hb2
      rcases bb_lf hl with ⟨_,hl⟩|⟨_,hl⟩
      · obtain⟨l,hx,hn,hl⟩:=oSpl_lf hl
        obtain⟨r,hl,ih⟩:=fill_sound hone ps qs (o+n) _ p3 hl
        refine⟨_,hl,fun α ev hev cells h1 h2=>?_⟩
        have hv:=hev (k,x) (by simp)
        rw [← p2,hx]at hv
        obtain⟨vs,q0,q1,q2⟩:=rep_agg hv
        have hvn:vs.length=n:=by rw [q1.len];exact hn
        subst hvn
        rw [List.map_cons]
        exact fill_step hb1 hb2 h1 h2 hone p1 (by show(ev x).cells=_;rw [show ev x=_ from q0];rfl) q1 q2 (ih α ev fun p hp=>hev p (by simp [hp]))
      · rcases bb_lf hl with ⟨hn,hl⟩|⟨_,hl⟩
        · have hn:n=1:=beq hn
          subst hn
          obtain⟨hl,hv1⟩:=oOne_lf hl
          obtain⟨r,hl,ih⟩:=fill_sound hone ps qs (o+1) _ p3 hl
          refine⟨_,hl,fun α ev hev cells h1 h2=>?_⟩
          have hv:=hev (k,x) (by simp)
          rw [← p2]at hv
          obtain⟨q1,q2⟩:=hv1 α _ hv
          rw [List.map_cons]
          exact fill_step (vs:=[ev x]) (l:=.cn v .nl) hb1 hb2 h1 h2 hone p1 q2 (.cons hv .nil) (by simpa using q1) (ih α ev fun p hp=>hev p (by simp [hp]))
        · exact bad_lf hl
    · exact bad_lf hl
  | [],_::_,_,_,hp,_=>hp.elim
  |_::_,[],_,_,hp,_=>hp.elim
def TabZ (P:Program)(T:List TI):Prop:=∀(t:Nat) (i:TI),T[t]? =some i→i.agg=false→∀ z,(P.info? t).bind (·.zero)=some z→z.cells=#[z]
def TabF (P:Program)(T:List TI):Prop:=(∀ (t:Nat) (i:TI) (fs:List (Nat×Nat)),T[t]? =some i→i.kind=.struct fs→∀ f∈fs,(T[f.2]?).isSome=true)∧TabZ P T
theorem TabOK.size' (hT:TabOK P TT){t:Nat}(h:(TT[t]?).isSome=true)(w:World):(sizeOf t).run P w=.ok (tget? TT t).size w:=by
  obtain⟨i,hi⟩:=Option.isSome_iff_exists.1 h
  obtain⟨h1,h2,_⟩:=hT t i hi
  obtain⟨j,hj⟩:=Option.isSome_iff_exists.1 h2
  have:tget? TT t=i:=by simp [tget?,hi]
  rw [this,h1]
  simp [sizeOf,typeInfo,hj,tiOf,Program.cellsOf]
theorem mapM_places (hT:TabOK P TT)(w:World):∀(l:List Field),(∀ f∈l,(TT[f.type]?).isSome=true)→(l.mapM (fun f=>do pure (f.offset,← sizeOf f.type):Field→Sem (Nat×Nat))).run P w=.ok (l.map fun f=>(f.offset,(tget? TT f.type).size)) w
  | [],_=>by simp
  |f::l,h=>by
    simp only [List.mapM_cons,Sem.run_bind,hT.size' (h f (by simp)),Result.andThen_ok,Sem.run_pure,mapM_places hT w l fun f hf=>h f (by simp [hf]),List.map_cons]
theorem partsS_PR {t:Nat}{fields:Array Field}(hk:(tget? TT t).kind=.struct (fields.toList.map fun f=>(f.offset,f.type))):∀(qs:List (Nat×Operand)) (ps:List (Nat×Nat×Bool×A)),partsS TT t ρ qs=some ps→
    PR (((fields.toList.map fun f=>(f.offset,(tget? TT f.type).size)).toArray)[·]?) ρ ps qs
  | [],ps,h=>by cases h;trivial
  |(k,x)::qs,ps,h=>by
    unfold partsS at h
    split at h
    · rename_i o ft l h1 h2
      cases h
      refine⟨?_,rfl,partsS_PR hk qs _ h2⟩
      unfold fieldOf at h1
      rw [hk]at h1
      simp only [List.getElem?_map]at h1
      simp only [List.getElem?_toArray,List.getElem?_map]
      cases hf:fields.toList[k]? with
      |none=>rw [hf]at h1;cases h1
      |some f=>rw [hf]at h1;simp at h1;simp [h1.1,h1.2]
    · cases h
theorem build_sound (hT:TabOK P TT)(hF:TabF P TT){t:Nat}{qs:List (Nat×Operand)}{ps:List (Nat×Nat×Bool×A)}{c:A→R}(hp:partsS TT t ρ qs=some ps)(hk:∃ fs,(tget? TT t).kind=.struct fs)(h1:(tget? TT t).zero.all oneA=true)(h2:(tget? TT t).zero≠ [])
    (hl:(fill (tget? TT t).zero ps 0 fun r=>c (.nd 0 r)).lf=some lf):∃ r,(c r).lf=some lf∧OpV P W0 (.build t ⟨qs⟩) ρ r:=by
  obtain⟨fs,hk⟩:=hk
  obtain⟨z,q1,q2⟩:=hT.zero h2
  obtain⟨fields,u1,u2⟩:=und_struct (hT.und hk (by simp))
  subst u2
  have hone:∀ u∈z.cells.toList,u.oneCell'=true:=fun u hu=>by
    rw [← q2]at h1
    exact oneA_one (rep_cv (fun _=>none) u) (List.all_eq_true.1 h1 _ (List.mem_map_of_mem hu))
  rw [← q2]at hl
  obtain⟨l,hl,hs⟩:=fill_sound hone ps qs 0 _ (partsS_PR hk qs ps hp) hl
  refine⟨_,hl,fun d ty pos af gu α w a h hr hρ=>?_⟩
  obtain⟨cells',f1,f2,f3,f4,f5⟩:=hs α a.eval (fun p hp=>hρ _ (by
    simp only [Op.operands]
    simpa using ⟨p.1,hp⟩)) z.cells.toList rfl rfl
  have hin:∀ f∈fields.toList,(TT[f.type]?).isSome=true:=fun f hf=>by
    obtain⟨i,hi,e1,e2,_,_⟩:=hT.kind (t:=t) (by rw [hk];simp)
    refine hF.1 t i _ hi (by rw [← e1];exact hk) (f.offset,f.type) (List.mem_map.2 ⟨f,hf,rfl⟩)
  refine⟨.agg ⟨cells'⟩,?_,.agg (by simpa using f4) (by simpa using f5)⟩
  have hm:=mapM_places hT w fields.toList hin
  have hparts:(⟨qs⟩:Array (Nat×Operand)).map (fun (i,x)=>(i,a.eval x))=⟨qs.map fun p=>(p.1,a.eval p.2)⟩:=by simp
  have hz:(⟨z.cells.toList⟩:Array Value)=z.cells:=rfl
  rw [hz]at f1
  have hm2:(fields.mapM (fun f=>do pure (f.offset,← sizeOf f.type):Field→Sem (Nat×Nat))).run P w=.ok (fields.toList.map fun f=>(f.offset,(tget? TT f.type).size)).toArray w:=by
    rw [Array.mapM_eq_mapM_toList]
    simp only [Sem.run_map,hm,Result.andThen_ok]
  simp only [execOp,Instr.build,Sem.run_bind,q1,Result.andThen_ok,run_underlying u1,hm2,hparts]
  simp only [f1]
  rfl
end
end Go.X1

set_option maxRecDepth 100000
namespace Go.X1
variable [Nu]
section
variable {P:Program} {TT:List TI} {h:H} {lf:Nat×A×H} {W0:World} {ρ:Operand→A}
def repV (z:List Value):Nat→List Value
  |0=>[]
  |n+1=>z++repV z n
theorem repV_map (z:List Value):∀ n,(repV z n).map cvA=repZ (z.map cvA) n
  |0=>rfl
  |n+1=>by rw [repV,List.map_append,repV_map z n];rfl
theorem repV_len (z:List Value):∀ n,(repV z n).length=n * z.length
  |0=>by simp [repV]
  |n+1=>by rw [repV,List.length_append,repV_len z n,Nat.succ_mul];omega
theorem repV_mem {z:List Value}{u:Value}:∀ n,u∈repV z n→u∈z
  |0,h=>by simp [repV]at h
  |n+1,h=>by
    rcases List.mem_append.1 h with h|h
    · exact h
    · exact repV_mem n h
theorem repV_range (z:Array Value)(hz:0<z.size):∀ n,(List.range (n * z.size)).map (fun i=>z[i % z.size]!)=repV z.toList n
  |0=>by simp [repV]
  |n+1=>by
    rw [Nat.succ_mul,Nat.add_comm,List.range_add,List.map_append,List.map_map,repV]
    congr 1
    · apply List.ext_getElem (by simp)
      intro i h1 h2
      have hi:i<z.size:=by simpa using h1
      simp [Nat.mod_eq_of_lt hi,hi]
    · rw [← repV_range z hz n]
      apply List.map_congr_left
      intro i _
      simp
theorem partsE_PR {sz:Nat}{ag:Bool}:∀(qs:List (Nat×Operand)),PR (fun i=>some (i * sz,sz)) ρ (partsE sz ag ρ qs) qs
  | []=>trivial
  |(k,x)::qs=>⟨rfl,rfl,partsE_PR qs⟩
theorem buildA_sound (hT:TabOK P TT){t n e:Nat}{qs:List (Nat×Operand)}{c:A→R}(hk:(tget? TT t).kind=.arr n e)(hz:nz TT e=true)(h1:(tget? TT t).zero.all oneA=true)(h2:(tget? TT t).zero≠ [])
    (hl:(fill (tget? TT t).zero (partsE (tget? TT e).size (tget? TT e).agg ρ qs) 0 fun r=>c (.nd 0 r)).lf=some lf):∃ r,(c r).lf=some lf∧OpV P W0 (.build t ⟨qs⟩) ρ r:=by
  obtain⟨z,q1,q2⟩:=hT.zero h2
  have u1:=und_arr (hT.und hk (by simp))
  have hone:∀ u∈z.cells.toList,u.oneCell'=true:=fun u hu=>by
    rw [← q2]at h1
    exact oneA_one (rep_cv (fun _=>none) u) (List.all_eq_true.1 h1 _ (List.mem_map_of_mem hu))
  rw [← q2]at hl
  obtain⟨l,hl,hs⟩:=fill_sound hone _ qs 0 _ (partsE_PR qs) hl
  refine⟨_,hl,fun d ty pos af gu α w a h hr hρ=>?_⟩
  obtain⟨cells',f1,f2,f3,f4,f5⟩:=hs α a.eval (fun p hp=>hρ _ (by
    simp only [Op.operands]
    simpa using ⟨p.1,hp⟩)) z.cells.toList rfl rfl
  refine⟨.agg ⟨cells'⟩,?_,.agg (by simpa using f4) (by simpa using f5)⟩
  have hparts:(⟨qs⟩:Array (Nat×Operand)).map (fun (i,x)=>(i,a.eval x))=⟨qs.map fun p=>(p.1,a.eval p.2)⟩:=by simp
  have hzz:(⟨z.cells.toList⟩:Array Value)=z.cells:=rfl
  rw [hzz]at f1
  simp only [execOp,Instr.build,Sem.run_bind,q1,Result.andThen_ok,run_underlying u1,hT.size hz,hparts]
  simp only [f1]
  rfl
theorem oBSl_lf {sz n:Nat}{l:A}{c:A→H→R}(hl:(oBSl sz n l h c).lf=some lf):llen l=n * sz∧(c (.ref (10+sz) h.nx 0 n) (h.new (.cs (n * sz) 0 (tsets l .lf 0)))).lf=some lf:=by
  obtain⟨g1,hl⟩:=oCk_lf hl
  refine⟨beq g1,?_⟩
  have:=hnew_lf hl
  cases h;exact this
theorem rep_slnew {α:Al}{k sz n id:Nat}(hz:0<sz)(e:α id=some ⟨k,0,0,sz,n * sz,(0,0)⟩):Rep α (.slice (some ⟨k,0,none⟩) n n) (.ref (10+sz) id 0 n):=
  .ref (.sl (L:=⟨k,0,0,sz,n * sz,(0,0)⟩) e rfl hz (Nat.zero_le _) (Nat.le_refl _) (by simp) (.inr rfl))
theorem bslice_sound (hT:TabOK P TT)(hB:TabB P TT){t e n:Nat}(he:elemZ TT t=some e){qs:List (Nat×Operand)}{c:A→H→R}(h1:(tget? TT e).zero.all oneA=true)(hn:n * (tget? TT e).size≤16777216)
    (hl:(fill (repZ (tget? TT e).zero n) (partsE (tget? TT e).size (tget? TT e).agg ρ qs) 0 fun r=>oBSl (tget? TT e).size n r h c).lf=some lf):
    ∃ r B0,(c (r h.nx) (h.new B0)).lf=some lf∧OpN P W0 (.buildSlice t n ⟨qs⟩) ρ r B0:=by
  obtain⟨hu,hz⟩:=elemZ_spec hT he
  have hpos:=nz_pos hz
  obtain⟨i,_,hI⟩:=elemI hT hB hz
  have h2:(tget? TT e).zero≠ []:=by
    intro q
    obtain⟨i,h1,h2,_⟩:=hT.info hz
    have:=(hB e i h1).2.1 (by rw [← h2];omega)
    rw [← h2,q]at this
    simp at this;omega
  obtain⟨z,q1,q2⟩:=hT.zero h2
  have hzs:z.cells.size=(tget? TT e).size:=by
    obtain⟨i,h1,h2',_⟩:=hT.info hz
    have:=(hB e i h1).2.1 (by rw [← h2'];omega)
    rw [← h2',← q2]at this
    simpa using this
  have hone0:∀ u∈z.cells.toList,u.oneCell'=true:=fun u hu=>by
    rw [← q2]at h1
    exact oneA_one (rep_cv (fun _=>none) u) (List.all_eq_true.1 h1 _ (List.mem_map_of_mem hu))
  have hone:∀ u∈repV z.cells.toList n,u.oneCell'=true:=fun u hu=>hone0 u (repV_mem n hu)
  rw [← q2,← repV_map]at hl
  obtain⟨l,hl,hs⟩:=fill_sound hone _ qs 0 _ (partsE_PR qs) hl
  obtain⟨g1,hl⟩:=oBSl_lf hl
  refine⟨fun id=>.ref (10+(tget? TT e).size) id 0 n,_,hl,fun d ty pos af gu α w a h hr hρ=>?_⟩
  obtain⟨cells',f1,f2,f3,f4,f5⟩:=hs α a.eval (fun p hp=>hρ _ (by
    simp only [Op.operands]
    simpa using ⟨p.1,hp⟩)) _ rfl rfl
  have hlen:cells'.length=n * (tget? TT e).size:=by rw [f2,repV_len];simp [hzs]
  refine⟨_,.cells ⟨cells'⟩ e (0,0),⟨w.heap.size,0,0,(tget? TT e).size,n * (tget? TT e).size,(0,0)⟩,?_,⟨rfl,rfl⟩,fun α' w' hle hw'=>?_,fun α' id e=>rep_slnew hpos e⟩
  · have hparts:(⟨qs⟩:Array (Nat×Operand)).map (fun (i,x)=>(i,a.eval x))=⟨qs.map fun p=>(p.1,a.eval p.2)⟩:=by simp
    have hle:¬ n * (tget? TT e).size>2 ^ 24:=by omega
    simp only [execOp,Instr.buildSlice,Sem.run_bind,run_underlying hu,Result.andThen_ok,hT.size hz,hle,if_false,Sem.run_pure,hparts]
    by_cases h0:n * (tget? TT e).size=0
    · have hn0:n=0:=by
        rcases Nat.mul_eq_zero.1 h0 with h|h
        · exact h
        · omega
      subst hn0
      have e0:(Array.range (0 * (tget? TT e).size)).map (fun i=>(#[]:Array Value)[i % (#[]:Array Value).size]!)=⟨repV z.cells.toList 0⟩:=by simp [repV]
      simp only [h0,if_true,Sem.run_bind,Sem.run_pure,Result.andThen_ok]
      rw [Nat.zero_mul]at e0
      rw [e0]
      simp only [f1]
      rfl
    · have e0:(Array.range (n * (tget? TT e).size)).map (fun i=>z.cells[i % z.cells.size]!)=⟨repV z.cells.toList n⟩:=by
        rw [← repV_range z.cells (by omega) n,hzs]
        apply Array.ext'
        simp
      simp only [h0,if_false,Sem.run_bind,q1,Sem.run_pure,Result.andThen_ok]
      rw [e0]
      simp only [f1]
      rfl
  · have f4:RepL α cells' l:=by simpa using f4
    have f5:∀ u∈cells',u.oneCell'=true:=by simpa using f5
    have:=br_cells (w:=w) cells' e (tget? TT e).size _ f4 f5 hlen α' w' hle hw'
    rwa [g1]at this
end
end Go.X1

set_option maxRecDepth 100000
namespace Go.X1
variable [Nu]
def FnOK (P : Program) (f : FuncId) : Prop := ∃ fn, P.funcs[f]? = some fn ∧ (fn.name == "runtime.NumGoroutine") = false ∧ fn.body.isNone = false
def CallOK (P:Program)(W0:World)(k:K):Prop:=∀(f:Nat) (a:A) (h:H) (v r:A) (h':H),(k f a h).lf=some (1,.cn v r,h')→
  FnOK P f∧∀(α:Al) (w:World) (args:List Value),HR W0 α w h→RepL α args a→Calls P f ⟨args⟩ w (fun e w'=>∃ u α',e=.returned u∧Step W0 α w h α' w' h'∧Rep α' u v)
section
variable {P:Program} {TT:List TI} {h:H} {lf:Nat×A×H} {W0:World} {ρ:Operand→A} {k:K}
theorem rCall_lf {f:A→H→R}{r:R}(hl:(rCall f r).lf=some lf):∃ v t h',r.lf=some (1,.cn v t,h')∧(f v h').lf=some lf:=by
  cases r with
  |bad=>cases hl
  |go e vs h'=>
    obtain⟨g1,hl⟩:=oCk_lf hl
    obtain⟨v,t,g2,hl⟩:=oCn_lf hl
    have g1:e=1:=beq g1
    exact⟨v,t,h',by rw [g1,g2];rfl,hl⟩
theorem repL_vals {α:Al}{ev:Operand→Value}:∀ l:List Operand,(∀ y∈l,Rep α (ev y) (ρ y))→RepL α (l.map ev) (vals ρ l)
  | [],_=>.nil
  |x::r,h=>.cons (h x (by simp)) (repL_vals r fun y hy=>h y (by simp [hy]))
theorem run_enter {f:FuncId}(hf:FnOK P f){x:Operand}{as:List Operand}{ts:Array TypeId}{d:Option Tmp}{ty:TypeId}{pos:String}{af:Array Edge}{gu:Option (Nat×Bool)}{a:Act}{w:World}{cs:List Value}(hx:a.eval x=.func (.func f) #[] ⟨cs⟩):
    (execOp a.eval ⟨d,.call ⟨.value x,⟨as⟩,ts⟩,ty,pos,af,gu⟩).run P w=.ok (.enter f ⟨as.map a.eval++cs⟩) w:=by
  obtain⟨fn,h1,h2,h3⟩:=hf
  simp only [execOp,resolve,hx,Deferred.ofValue,Sem.run_bind,Sem.run_pure,Result.andThen_ok,invoke,callFunc,run_program]
  simp [h1,h2,h3]
theorem upon_call {f:FuncId}{args:Array Value}{o:Oper}{a:Act}{w:World}{next:Act→World→Prop}{Q:Exit→Act→World→Prop}{R:Value→World→Prop}
    (hr:(execOp a.eval o).run P w=.ok (.enter f args) w) (hc:Calls P f args w (fun e w'=>∃ u,e=.returned u∧R u w')) (hn:∀ u w',R u w'→next (a.put o.dst u) w'):Oper.wp P o a w next Q:=by
  unfold Oper.wp
  rw [hr,Oper.upon_enter]
  refine hc.mono ?_
  rintro e w' ⟨u,rfl,hR⟩
  exact hn u w' hR
theorem call_sound (hk:CallOK P W0 k){f:Nat}{as:List Operand}{ts:Array TypeId}{c:A→H→R}(hl:(oCall k f (vals ρ as) h c).lf=some lf):
    ∃ x h',(c x h').lf=some lf∧OpS P W0 (.call ⟨.value (.func f),⟨as⟩,ts⟩) ρ h x h':=by
  obtain⟨v,t,h',h1,hl⟩:=rCall_lf hl
  obtain⟨hf,hc⟩:=hk f _ h v t h' h1
  refine⟨v,h',hl,fun d ty pos af gu α w a hr hρ next Q hn=>?_⟩
  have hargs:=repL_vals (ρ:=ρ) as (fun y hy=>hρ y (by simp [Op.operands,Call.operands,hy]))
  refine upon_call (R:=fun u w'=>∃ α',Step W0 α w h α' w' h'∧Rep α' u v) (run_enter (cs:=[]) hf rfl) ?_ fun u w' ⟨α',s1,s2⟩=>hn α' w' u s1 s2
  rw [List.append_nil]
  refine(hc α w _ hr hargs).mono ?_
  rintro e w' ⟨u,α',rfl,s1,s2⟩
  exact⟨u,rfl,α',s1,s2⟩
theorem callV_sound (hk:CallOK P W0 k){y:Operand}{as:List Operand}{ts:Array TypeId}{c:A→H→R}(hl:(oCallV k (ρ y) (vals ρ as) h c).lf=some lf):
    ∃ x h',(c x h').lf=some lf∧OpS P W0 (.call ⟨.value y,⟨as⟩,ts⟩) ρ h x h':=by
  obtain⟨g,cs,hy,hl⟩:=oNd_lf hl
  obtain⟨g1,hl⟩:=oCk_lf hl
  have g1:100≤g:=ble g1
  obtain⟨v,t,h',h1,hl⟩:=rCall_lf hl
  obtain⟨hf,hc⟩:=hk _ _ h v t h' h1
  refine⟨v,h',hl,fun d ty pos af gu α w a hr hρ next Q hn=>?_⟩
  have hv:=hρ y (by simp [Op.operands,Call.operands])
  rw [hy]at hv
  generalize he:a.eval y=z at hv
  cases hv with
  |agg _ _=>omega
  |tup _=>omega
  |pst _=>omega
  |@fn f _ vs _ hg hvs=>
    have e1:Nat.sub g 100=f:=by show g-100=f;omega
    rw [e1]at hf hc
    have hargs:=repL_vals (ρ:=ρ) as (fun y hy=>hρ y (by simp [Op.operands,Call.operands,hy]))
    refine upon_call (R:=fun u w'=>∃ α',Step W0 α w h α' w' h'∧Rep α' u v) (run_enter (cs:=vs) hf he) ?_ fun u w' ⟨α',s1,s2⟩=>hn α' w' u s1 s2
    refine(hc α w _ hr (hargs.app hvs)).mono ?_
    rintro e w' ⟨u,α',rfl,s1,s2⟩
    exact⟨u,rfl,α',s1,s2⟩
theorem flat_ref {g b o n:Nat}(hf:flat (.ref g b o n)=true):3≤g∧g≤9:=by
  have hf:(@Bool.rec (fun _=>Bool) false (Nat.ble g 9) (Nat.ble 3 g))=true:=hf
  cases h3:Nat.ble 3 g
  · rw [h3]at hf;cases hf
  · rw [h3]at hf
    exact⟨ble h3,ble hf⟩
mutual
theorem flat_rep {α α':Al}:∀{u:Value} {x:A},flat x=true→Rep α u x→Rep α' u x
  |_,_,_,.int h=>.int h
  |_,_,_,.byt h hn=>.byt h hn
  |_,_,_,.bool b=>.bool b
  |_,_,_,.str h1 h2=>.str h1 h2
  |_,_,hf,.ref h=>by
    cases h with
    |nsl=>exact .ref .nsl
    |nptr=>exact .ref .nptr
    |nmap=>exact .ref .nmap
    |nif=>exact .ref .nif
    |nfn=>exact .ref .nfn
    |err=>exact .ref .err
    |sm h hu=>exact .ref (.sm h hu)
    |raw h=>exact .ref (.raw h)
    |rst h=>exact .ref (.rst h)
    |dg h1 h2=>exact .ref (.dg h1 h2)
    |inp h hu=>exact .ref (.inp h hu)
    |ilen hu=>exact .ref (.ilen hu)
    |prd a b=>exact .ref (.prd a b)
    |hf a b=>exact .ref (.hf a b)
    |ptr _ _=>cases hf
    |map _=>cases hf
    |sl _ hg _ _ _ _ _=>
      have:=flat_ref hf
      omega
  |_,_,hf,.agg h h1=>.agg (flat_repL hf h) h1
  |_,_,hf,.tup h=>.tup (flat_repL hf h)
  |_,_,hf,.fn hg h=>.fn hg (flat_repL hf h)
  |_,_,_,.pst h=>.pst h
  |_,_,_,.unk v=>.unk v
theorem flat_repL {α α':Al}:∀{us:List Value} {xs:A},flat xs=true→RepL α us xs→RepL α' us xs
  |_,_,_,.nil=>.nil
  |_,.cn x xs,hf,.cons h t=>by
    have hf:(@Bool.rec (fun _=>Bool) false (flat xs) (flat x))=true:=hf
    cases hx:flat x
    · rw [hx]at hf;cases hf
    · rw [hx]at hf
      exact .cons (flat_rep hx h) (flat_repL hf t)
end
theorem MR.down {α α':Al}(hl:Le α α'){kt:Nat}:∀{es es':List MapEntry} {l:A},MR α kt es l→MR α' kt es' l→MR α kt es' l
  |_,_,_,.nil,.nil=>.nil
  |_,_,_,.cons hk _ hv t,.cons hk' hc' hv' t'=>.cons (hk.down hl hk') hc' (hv.down hl hv') (t.down hl t')
theorem BR.down {α α':Al}(hl:Le α α'){w w':World}{L:Loc}{B0:B}(h:BR α w L B0)(h':BR α' w' L B0):BR α w' L B0:=by
  cases B0 with
  |no=>trivial
  |cs n lo t=>
    obtain⟨_,_,_,_,_,_,_,_,g⟩:=h
    obtain⟨a,b,c,d,cs,el,e,f,g'⟩:=h'
    refine⟨a,b,c,d,cs,el,e,f,fun i h1 h2=>?_⟩
    obtain⟨u,_,_,q⟩:=g i h1 h2
    obtain⟨v,r1,r2,r3⟩:=g' i h1 h2
    exact⟨v,r1,r2,q.down hl r3⟩
  |mp kt es=>
    obtain⟨_,_,_,m⟩:=h
    obtain⟨en,ck,e,m'⟩:=h'
    exact⟨en,ck,e,m.down hl m'⟩
theorem step_back {α α':Al}{w w':World}{h h':H}(hr:HR W0 α w h)(s:Step W0 α w (.mk h.tr h.nx h.nx) α' w' h'):Step W0 α w h α w' h:=by
  refine⟨⟨s.hr.agr,hr.ro,hr.full,fun b L e=>?_,fun b L e=>?_,hr.dis⟩,.refl _ _ _,s.fr,.refl _,fun _ _ _=>rfl⟩
  · obtain⟨q1,q2,q3⟩:=hr.dom b L e
    exact⟨q1,q2,Nat.lt_of_lt_of_le q3 s.fr.size⟩
  · have h1:=hr.blk b L e
    have h2:=s.hr.blk b L (s.ext.le b L e)
    rw [s.ro.keep b (hr.dom b L e).1]at h2
    exact h1.down s.ext.le h2
theorem HR.lock {α:Al}{w:World}(hr:HR W0 α w h):HR W0 α w (.mk h.tr h.nx h.nx):=⟨hr.agr,Nat.le_refl _,hr.full,fun b L e=>let ⟨q1,q2,q3⟩:=hr.dom b L e;⟨q1,q2.imp id fun q=>Nat.lt_of_lt_of_le q hr.ro,q3⟩,hr.blk,hr.dis⟩
theorem callP_sound (hk:CallOK P W0 k){f:Nat}{as:List Operand}{ts:Array TypeId}{c:A→H→R}(hl:(oCallP k f (vals ρ as) h c).lf=some lf):
    ∃ x,(c x h).lf=some lf∧OpP P W0 (.call ⟨.value (.func f),⟨as⟩,ts⟩) ρ h x:=by
  have hl:=oH_lf hl
  obtain⟨v,t,h',h1,hl⟩:=rCall_lf hl
  obtain⟨g1,hl⟩:=oCk_lf hl
  obtain⟨hf,hc⟩:=hk f _ _ v t h' h1
  refine⟨v,hl,fun d ty pos af gu α w a hr hρ next Q hn=>?_⟩
  have hargs:=repL_vals (ρ:=ρ) as (fun y hy=>hρ y (by simp [Op.operands,Call.operands,hy]))
  refine upon_call (R:=fun u w'=>Step W0 α w h α w' h∧Rep α u v) (run_enter (cs:=[]) hf rfl) ?_ fun u w' ⟨s1,s2⟩=>hn w' u s1 s2
  rw [List.append_nil]
  refine(hc α w _ hr.lock hargs).mono ?_
  rintro e w' ⟨u,α',rfl,s1,s2⟩
  exact⟨u,rfl,step_back hr s1,flat_rep g1 s2⟩
end
end Go.X1

set_option maxRecDepth 100000
namespace Go.X1
variable [Nu]
section
variable {P:Program} {TT:List TI} {h:H} {lf:Nat×A×H} {W0:World} {ρ:Operand→A}
theorem reps_S (z:A)(n:Nat):reps z (n+1)=lapp z (reps z n):=rfl
theorem repL_reps {α:Al}(z:List Value):∀ n,RepL α (repV z n) (reps (lA (z.map cvA)) n)
  |0=>.nil
  |n+1=>by rw [reps_S,repV];exact(repL_lA z).app (repL_reps z n)
theorem mk_sound (hT:TabOK P TT)(hB:TabB P TT){t e:Nat}(he:elemZ TT t=some e){x y:Operand}{c:A→H→R}(h1:(tget? TT e).zero.all oneA=true)
    (hl:(opF.oMk2 (tget? TT e) (ρ x) (ρ y) h c).lf=some lf):
    ∃ r B0,(c (r h.nx) (h.new B0)).lf=some lf∧OpN P W0 (.makeSlice t x y) ρ r B0:=by
  obtain⟨hu,hz⟩:=elemZ_spec hT he
  have hpos:=nz_pos hz
  obtain⟨i,_,hI⟩:=elemI hT hB hz
  have h2:(tget? TT e).zero≠ []:=by
    intro q
    obtain⟨i,h1,h2,_⟩:=hT.info hz
    have:=(hB e i h1).2.1 (by rw [← h2];omega)
    rw [← h2,q]at this
    simp at this;omega
  obtain⟨z,q1,q2⟩:=hT.zero h2
  have hzs:z.cells.size=(tget? TT e).size:=by
    obtain⟨i,h1,h2',_⟩:=hT.info hz
    have:=(hB e i h1).2.1 (by rw [← h2'];omega)
    rw [← h2',← q2]at this
    simpa using this
  have hone0:∀ u∈z.cells.toList,u.oneCell'=true:=fun u hu=>by
    rw [← q2]at h1
    exact oneA_one (rep_cv (fun _=>none) u) (List.all_eq_true.1 h1 _ (List.mem_map_of_mem hu))
  obtain⟨m,hx,hl1⟩:=oInt_lf (tid_lf hl)
  obtain⟨m',hy,hl2⟩:=oInt_lf hl1
  obtain⟨g0,hl3⟩:=oCk_lf hl2
  have g0:m'=m:=(beq g0).symm
  rw [g0]at hy
  rw [hx]at hl3
  obtain⟨m2,e2,hl4⟩:=oInt_lf hl3
  have e2:m2=m:=by cases e2;rfl
  rw [e2]at hl4
  obtain⟨g1,hl5⟩:=oCk_lf hl4
  obtain⟨g2,hl⟩:=oCk_lf hl5
  have g1:9223372036854775808≤m:=ble g1
  have g2:m-9223372036854775808≤1000000:=ble g2
  obtain⟨g3,hl⟩:=oBSl_lf hl
  clear hl1 hl2 hl3 hl4 hl5
  refine⟨fun id=>.ref (10+(tget? TT e).size) id 0 (m-9223372036854775808),_,hl,fun d ty pos af gu α w a h hr hρ=>?_⟩
  have hvx:=hρ x (by simp [Op.operands])
  have hvy:=hρ y (by simp [Op.operands])
  rw [hx]at hvx
  rw [hy]at hvy
  have e1:=int_nat hvx g1
  have e2:=int_nat hvy g1
  obtain⟨n,hn⟩:∃ n,m-9223372036854775808=n:=⟨_,rfl⟩
  have g3:llen (reps (lA (tget? TT e).zero) n)=n * (tget? TT e).size:=by rw [← hn];exact g3
  rw [hn]at e1 e2 g2
  have ex:∀ id,A.ref (10+(tget? TT e).size) id 0 (m-9223372036854775808)=.ref (10+(tget? TT e).size) id 0 n:=fun id=>by rw [hn]
  have eb:B.cs (Nat.sub m 9223372036854775808 * (tget? TT e).size) 0 (tsets (reps (lA (tget? TT e).zero) (Nat.sub m 9223372036854775808)) .lf 0)=.cs (n * (tget? TT e).size) 0 (tsets (reps (lA (tget? TT e).zero) n) .lf 0):=by
    show B.cs ((m-9223372036854775808) * (tget? TT e).size) 0 (tsets (reps (lA (tget? TT e).zero) (m-9223372036854775808)) .lf 0)=_
    rw [hn]
  rw [eb]
  clear hl eb hvx hvy hx hy g0 g1 hρ
  have hrep:=repL_reps (α:=α) z.cells.toList n
  rw [q2]at hrep
  have hlen:(repV z.cells.toList n).length=n * (tget? TT e).size:=by rw [repV_len];simp [hzs]
  refine⟨.slice (some ⟨w.heap.size,0,none⟩) n n,.cells ⟨repV z.cells.toList n⟩ e (0,0),⟨w.heap.size,0,0,(tget? TT e).size,n * (tget? TT e).size,(0,0)⟩,?_,⟨rfl,rfl⟩,fun α' w' hle hw'=>?_,fun α' id e'=>by show Rep α' _ (A.ref (10+(tget? TT e).size) id 0 (m-9223372036854775808));rw [ex];exact rep_slnew hpos e'⟩
  · have hw:IntKind.i64.wrap (n:Int)=n:=wrap_i64 _ (by omega) (by omega)
    have hbn:(i.bytes:Int) * (n:Int)≤1000000 * 1000000:=by
      have:=hI.bytes
      exact Int.mul_le_mul (by omega) (by omega) (by omega) (by omega)
    have hno:(decide ((n:Int)<0)||decide ((i.bytes:Int) * (n:Int)>2 ^ 48)||decide ((n:Int)<0)||decide ((n:Int)>(n:Int)))=false:=by
      have a1:decide ((n:Int)<0)=false:=decide_eq_false (by omega)
      have a2:decide ((i.bytes:Int) * (n:Int)>2 ^ 48)=false:=decide_eq_false (by omega)
      have a3:decide ((n:Int)>(n:Int))=false:=decide_eq_false (by omega)
      rw [a1,a2,a3];rfl
    have hti:(typeInfo e).run P w=.ok i w:=by simp [typeInfo,hI.info]
    have e0:(if n * (tget? TT e).size=0 then True else True):=by split<;>trivial
    simp only [execOp,e1,e2,Instr.makeSlice,run_underlying hu,asInt,asIntOf,Sem.run_bind,Sem.run_pure,Result.andThen_ok,hti,hw,hno,Bool.false_eq_true,if_false,run_askRoom,hT.size hz,Int.toNat_natCast]
    by_cases h0:n * (tget? TT e).size=0
    · have hn0:n=0:=by
        rcases Nat.mul_eq_zero.1 h0 with h|h
        · exact h
        · omega
      simp only [h0,if_true,Sem.run_pure,Result.andThen_ok]
      simp only [newRow,hn0,repV]
      have e9:(Array.range 0).map (fun i=>(#[]:Array Value)[i % (#[]:Array Value).size]!)=#[]:=Array.eq_empty_of_size_eq_zero (by simp)
      have e8:(0 * (tget? TT e).size)=0:=Nat.zero_mul _
      simp only [Sem.run_bind,Sem.run_pure,Result.andThen_ok,e9]
      simp
    · have e0:(Array.range (n * (tget? TT e).size)).map (fun i=>z.cells[i % z.cells.size]!)=⟨repV z.cells.toList n⟩:=by
        rw [← repV_range z.cells (by omega) n,hzs]
        apply Array.ext'
        simp
      simp only [h0,if_false,Sem.run_bind,q1,Sem.run_pure,Result.andThen_ok]
      rw [e0]
      simp [newRow]
  · have:=br_cells (w:=w) (repV z.cells.toList n) e (tget? TT e).size _ hrep (fun v hv=>hone0 v (repV_mem n hv)) hlen α' w' hle hw'
    rw [g3]at this
    exact this
end
end Go.X1

set_option maxRecDepth 100000
namespace Go.X1
variable [Nu]
def kdT:Nat→TypeDesc→Prop
  |0,d=>d=.int .i64
  |1,d=>d=.int .u8
  |99,d=>d=.string
  |_,_=>False
section
variable {P:Program} {TT:List TI} {h:H} {lf:Nat×A×H} {W0:World} {ρ:Operand→A} {α:Al} {w:World}
theorem kcl_nd (g:Nat)(l:A):kcl (.nd g l)=97∨kcl (.nd g l)=98:=by
  show(@Bool.rec (fun _=>Nat) 98 (@Bool.rec (fun _=>Nat) 98 (@Bool.rec (fun _=>Nat) 98 97 (Nat.beq (llen l) 2)) (isSs l)) (Nat.beq g 0))=97∨(@Bool.rec (fun _=>Nat) 98 (@Bool.rec (fun _=>Nat) 98 (@Bool.rec (fun _=>Nat) 98 97 (Nat.beq (llen l) 2)) (isSs l)) (Nat.beq g 0))=98
  cases Nat.beq g 0
  · exact .inr rfl
  cases isSs l
  · exact .inr rfl
  cases Nat.beq (llen l) 2
  · exact .inr rfl
  · exact .inl rfl
theorem key_ok {kd:Nat}{d:TypeDesc}(hd:kdT kd d){k:A}(hk:kcl k=kd){v:Value}(hv:Rep α v k):MapKept.IsKey d v∧Instr.sameBits 10000 v v=true:=by
  unfold kdT at hd
  split at hd
  · subst hd
    cases k with
    |int n=>
      obtain⟨m,rfl,_⟩:=rep_int hv
      exact⟨by simp [MapKept.IsKey],by simp [Instr.sameBits]⟩
    |nd g l=>rcases kcl_nd g l with e|e<;>rw [e]at hk<;>cases hk
    |_=>cases hk
  · subst hd
    cases k with
    |byt n=>
      obtain⟨m,rfl,_,_⟩:=rep_byt hv
      exact⟨by simp [MapKept.IsKey],by simp [Instr.sameBits]⟩
    |nd g l=>rcases kcl_nd g l with e|e<;>rw [e]at hk<;>cases hk
    |_=>cases hk
  · subst hd
    cases k with
    |str n N=>
      obtain⟨s,rfl,_,_⟩:=rep_str hv
      exact⟨by simp [MapKept.IsKey],by unfold Instr.sameBits;exact(MapKept.bytes_beq _ _).2 rfl⟩
    |nd g l=>rcases kcl_nd g l with e|e<;>rw [e]at hk<;>cases hk
    |_=>cases hk
  · exact hd.elim
theorem bytes_eq {s t:ByteArray}(h1:s.data.toList.length=t.data.toList.length)(h2:encB s.data.toList=encB t.data.toList):s=t:=by
  have:=encB_inj _ _ h1 h2
  obtain⟨⟨a⟩⟩:=s
  obtain⟨⟨b⟩⟩:=t
  have:a=b:=this
  subst this;rfl
theorem key_same {kd:Nat}{d:TypeDesc}(hd:kdT kd d){k k':A}(hk:kcl k=kd)(hk':kcl k'=kd){v v':Value}(hv:Rep α v k)(hv':Rep α v' k'):Instr.sameNow d v v'=some (keq k k')∧(keq k k'=true→v=v'):=by
  unfold kdT at hd
  split at hd
  · subst hd
    cases k with
    |int n=>
      cases k' with
      |int n'=>
        obtain⟨m,rfl,e1⟩:=rep_int hv
        obtain⟨m',rfl,e2⟩:=rep_int hv'
        have hq:keq (.int n) (.int n')=Nat.beq n n':=rfl
        rw [hq,nat_beq]
        refine⟨?_,fun e=>?_⟩
        · simp only [Instr.sameNow,if_pos,Option.some.injEq]
          rw [int_beq]
          exact decide_eq_decide.2 (by omega)
        · have:=of_decide_eq_true e
          have:m=m':=by omega
          rw [this]
      |nd g l=>rcases kcl_nd g l with e|e<;>rw [e]at hk'<;>cases hk'
      |_=>cases hk'
    |nd g l=>rcases kcl_nd g l with e|e<;>rw [e]at hk<;>cases hk
    |_=>cases hk
  · subst hd
    cases k with
    |byt n=>
      cases k' with
      |byt n'=>
        obtain⟨m,rfl,e1,_⟩:=rep_byt hv
        obtain⟨m',rfl,e2,_⟩:=rep_byt hv'
        have hq:keq (.byt n) (.byt n')=Nat.beq n n':=rfl
        rw [hq,nat_beq]
        refine⟨?_,fun e=>?_⟩
        · simp only [Instr.sameNow,if_pos,Option.some.injEq]
          rw [int_beq]
          exact decide_eq_decide.2 (by omega)
        · have:=of_decide_eq_true e
          have:m=m':=by omega
          rw [this]
      |nd g l=>rcases kcl_nd g l with e|e<;>rw [e]at hk'<;>cases hk'
      |_=>cases hk'
    |nd g l=>rcases kcl_nd g l with e|e<;>rw [e]at hk<;>cases hk
    |_=>cases hk
  · subst hd
    cases k with
    |str n N=>
      cases k' with
      |str n' N'=>
        obtain⟨s,rfl,e1,e2⟩:=rep_str hv
        obtain⟨s',rfl,f1,f2⟩:=rep_str hv'
        have hq:keq (.str n N) (.str n' N')=seqb n N n' N':=rfl
        rw [hq]
        have hs:seqb n N n' N'=true↔s=s':=by
          unfold seqb
          constructor
          · intro e
            cases h1:Nat.beq n n'
            · rw [h1]at e;cases e
            · rw [h1]at e
              have h1:=beq h1
              have h2:N=N':=beq e
              exact bytes_eq (by omega) (by rw [e2,f2,h2])
          · intro e
            subst e
            have h1:n=n':=by omega
            have h2:N=N':=by rw [← e2,← f2]
            subst h1;subst h2
            have:Nat.beq n n=true:=by rw [nat_beq];simp
            rw [this]
            show Nat.beq N N=true
            rw [nat_beq];simp
        refine⟨?_,fun e=>by rw [hs.1 e]⟩
        simp only [Instr.sameNow,Option.some.injEq]
        cases hb:seqb n N n' N'
        · cases hh:(s == s')with
          |false=>rfl
          |true=>rw [hs.2 ((MapKept.bytes_beq _ _).1 hh)]at hb;cases hb
        · rw [hs.1 hb];exact(MapKept.bytes_beq _ _).2 rfl
      |nd g l=>rcases kcl_nd g l with e|e<;>rw [e]at hk'<;>cases hk'
      |_=>cases hk'
    |nd g l=>rcases kcl_nd g l with e|e<;>rw [e]at hk<;>cases hk
    |_=>cases hk
  · exact hd.elim
theorem find_spec {kd:Nat}{k:A}(hk:kcl k=kd){v:Value}(hv:Rep α v k){F:List MapEntry→Nat→Option (Nat×Value)→Prop}(h0:∀ i,F [] i none)
    (hS:∀(e:MapEntry) (k':A),kcl k'=kd→Rep α e.key k'→(keq k k'=true→e.key=v∧∀ es i,F (e::es) i (some (i,e.val)))∧(keq k k'=false→∀ es i r,F es (i+1) r→F (e::es) i r)):∀{es:List MapEntry} {l:A},MR α kd es l→∀ i,
    ((∀ (no:R) (c:A→R),mget k l no c=no)∧F es i none∧∀ born nv x,Rep α nv x→MR α kd (es++[({ key:=v,val:=nv,born:=born }:MapEntry)]) (mput k x l))∨
    (∃ y j e,(∀ (no:R) (c:A→R),mget k l no c=c y)∧es[j]? =some e∧F es i (some (i+j,e.val))∧Rep α e.val y∧e.key=v∧∀ nv x,Rep α nv x→MR α kd (es.modify j fun e=>{ e with key:=v,val:=nv }) (mput k x l))
  | [],_,.nil,i=>.inl ⟨fun _ _=>rfl,h0 i,fun born nv x hn=>.cons hv hk hn .nil⟩
  |e::es,_,.cons (k:=k') (v:=x') (l:=l) hk' hc' hv' t,i=>by
    obtain⟨s1,s2⟩:=hS e k' hc' hk'
    have hg:∀(no:R) (c:A→R),mget k (.cn (.cn k' x') l) no c=@Bool.rec (fun _=>R) (mget k l no c) (c x') (keq k k'):=fun _ _=>rfl
    have hp:∀ x,mput k x (.cn (.cn k' x') l)=@Bool.rec (fun _=>A) (.cn (.cn k' x') (mput k x l)) (.cn (.cn k x) l) (keq k k'):=fun _=>rfl
    cases hq:keq k k'
    · rcases find_spec hk hv h0 hS t (i+1)with ⟨a1,a2,a3⟩|⟨y,j,e',a1,a2,a3,a4,a5,a6⟩
      · refine .inl ⟨fun no c=>by rw [hg,hq];exact a1 no c,s2 hq _ _ _ a2,fun born nv x hn=>?_⟩
        rw [hp,hq]
        exact .cons hk' hc' hv' (a3 born nv x hn)
      · refine .inr ⟨y,j+1,e',fun no c=>by rw [hg,hq];exact a1 no c,by simpa using a2,?_,a4,a5,fun nv x hn=>?_⟩
        · rw [show i+(j+1)=i+1+j by omega];exact s2 hq _ _ _ a3
        · rw [hp,hq,List.modify_succ_cons]
          exact .cons hk' hc' hv' (a6 nv x hn)
    · refine .inr ⟨x',0,e,fun no c=>by rw [hg,hq],rfl,(s1 hq).2 es i,hv',(s1 hq).1,fun nv x hn=>?_⟩
      rw [hp,hq]
      exact .cons hv hk hn t
theorem findKey_run {d:TypeDesc}{kt:Nat}(hk:P.underlying kt=some d){v:Value}{l:List MapEntry}{r:Option (Nat×Value)}(h:Instr.findNow d v l 0=some r)(w:World):(Instr.findKey kt v l).run P w=.ok r w:=by
  simp [Instr.findKey,run_underlying hk,h]
theorem ss_of {k:A}(hk:kcl k=97):∃ n N m M,k=.nd 0 (.cn (.str n N) (.cn (.str m M) .nl)):=by
  have hS:∀ x,isS x=true→∃ n N,x=.str n N:=fun x h=>by
    cases x with
    |str n N=>exact⟨n,N,rfl⟩
    |_=>cases h
  cases k with
  |nd g l=>
    have h:(@Bool.rec (fun _=>Nat) 98 (@Bool.rec (fun _=>Nat) 98 (@Bool.rec (fun _=>Nat) 98 97 (Nat.beq (llen l) 2)) (isSs l)) (Nat.beq g 0))=97:=hk
    cases h1:Nat.beq g 0<;>rw [h1]at h
    · cases h
    cases h2:isSs l<;>rw [h2]at h
    · cases h
    cases h3:Nat.beq (llen l) 2<;>rw [h3]at h
    · cases h
    rw [show g=0 from beq h1]
    have h3:=beq h3
    cases l with
    |cn x r=>
      have h2:(@Bool.rec (fun _=>Bool) false (isSs r) (isS x))=true:=h2
      cases h4:isS x<;>rw [h4]at h2
      · cases h2
      obtain⟨n,N,rfl⟩:=hS x h4
      cases r with
      |cn y s=>
        have h2:(@Bool.rec (fun _=>Bool) false (isSs s) (isS y))=true:=h2
        cases h5:isS y<;>rw [h5]at h2
        · cases h2
        obtain⟨m,M,rfl⟩:=hS y h5
        cases s with
        |nl=>exact⟨n,N,m,M,rfl⟩
        |cn z u=>rw [llen_cn,llen_cn,llen_cn]at h3;omega
        |_=>cases h2
      |nl=>cases h3
      |_=>cases h2
    |nl=>cases h3
    |_=>cases h2
  |_=>cases hk
theorem rep_ss {n N m M:Nat}{v:Value}(hv:Rep α v (.nd 0 (.cn (.str n N) (.cn (.str m M) .nl)))):∃ s t,v=.agg #[.string s,.string t]∧s.data.toList.length=n∧encB s.data.toList=N∧t.data.toList.length=m∧encB t.data.toList=M:=by
  cases hv with
  |agg h _=>
    cases h with
    |cons h1 h=>
      cases h with
      |cons h2 h=>
        cases h
        obtain⟨s,rfl,e1,e2⟩:=rep_str h1
        obtain⟨t,rfl,e3,e4⟩:=rep_str h2
        exact⟨s,t,rfl,e1,e2,e3,e4⟩
  |fn hg _=>omega
theorem seqb_iff {s t:ByteArray}:seqb s.data.toList.length (encB s.data.toList) t.data.toList.length (encB t.data.toList)=true↔s=t:=by
  unfold seqb
  constructor
  · intro e
    cases h1:Nat.beq s.data.toList.length t.data.toList.length
    · rw [h1]at e;cases e
    · rw [h1]at e
      exact bytes_eq (beq h1) (beq e)
  · intro e
    subst e
    have:Nat.beq s.data.toList.length s.data.toList.length=true:=by rw [nat_beq];simp
    rw [this]
    show Nat.beq _ _=true
    rw [nat_beq];simp
def KeyD (P:Program)(kk kd:Nat):Prop:=(∃ d,P.underlying kk=some d∧kdT kd d)∨(kd=97∧∃ e i,P.underlying kk=some (.array 2 e)∧P.underlying e=some .string∧P.info? e=some i∧P.cellsOf e=1)
theorem part_ss {e:Nat}(he:P.underlying e=some .string)(s t:ByteArray)(w:World):(part e #[.string s,.string t] 0).run P w=.ok (.string s) w∧(part e #[.string s,.string t] 1).run P w=.ok (.string t) w:=by
  constructor<;>simp [part,isAgg,run_underlying he]
theorem bl_inj {s t:ByteArray}(h:s.toList=t.toList):s=t:=by
  have e:(s.toList == t.toList)=(s == t):=(beq_toListBytes s t).symm
  rw [h]at e
  exact(MapKept.bytes_beq _ _).1 (by rw [← e];simp)
theorem equal_ss {kk e:Nat}{i:TypeInfo}(hu:P.underlying kk=some (.array 2 e))(he:P.underlying e=some .string)(hi:P.info? e=some i)(hc:P.cellsOf e=1)(s t s' t':ByteArray)(w:World):
    (Op.equal kk (.agg #[.string s,.string t]) (.agg #[.string s',.string t'])).run P w=.ok (s.toList == s'.toList&&t.toList == t'.toList) w:=by
  obtain⟨p1,p2⟩:=part_ss he s t w
  obtain⟨q1,q2⟩:=part_ss he s' t' w
  have r1:=run_equalIn_string w 9998 e s s' he
  have r2:=run_equalIn_string w 9998 e t t' he
  rw [Op.equal,show Op.maxDepth=9999+1 from rfl,Op.equalIn]
  simp only [Sem.run_bind,run_underlying hu,Result.andThen_ok,run_sizeOf w hi,hc,Std.Legacy.Range.forIn_eq_forIn_range',Std.Legacy.Range.size,Nat.sub_zero,Nat.add_one_sub_one,Nat.div_one]
  rw [show List.range' 0 2=[0,1]from rfl]
  simp only [List.forIn_cons,List.forIn_nil,Sem.run_bind,Nat.zero_mul,Nat.one_mul,p1,q1,Result.andThen_ok,r1]
  cases h1:(s.toList == s'.toList)
  · simp
  · simp only [Bool.not_true,Bool.false_eq_true,if_false,Sem.run_pure,Result.andThen_ok,Sem.run_bind,p2,q2,r2]
    cases h2:(t.toList == t'.toList)<;>simp
theorem check_ss {kk e:Nat}{i:TypeInfo}(hu:P.underlying kk=some (.array 2 e))(he:P.underlying e=some .string)(hi:P.info? e=some i)(hc:P.cellsOf e=1)(s t:ByteArray)(em:Bool)(w:World):
    (Instr.checkKey em 10000 kk (.agg #[.string s,.string t])).run P w=.ok () w:=by
  obtain⟨p1,p2⟩:=part_ss he s t w
  have r:∀ s:ByteArray,(Instr.checkKey em 9999 e (.string s)).run P w=.ok () w:=fun s=>MapKept.run_checkKey (d:=.string) he (by simp [MapKept.IsKey]) em _
  rw [Instr.checkKey]
  simp only [Sem.run_bind,run_underlying hu,Result.andThen_ok,Std.Legacy.Range.forIn_eq_forIn_range',Std.Legacy.Range.size,Nat.sub_zero,Nat.add_one_sub_one,Nat.div_one]
  rw [show List.range' 0 2=[0,1]from rfl]
  simp [List.forIn_cons,List.forIn_nil,Sem.run_bind,run_sizeOf w hi,hc,p1,p2,r]
theorem keyD_ok {kk kd:Nat}(hD:KeyD P kk kd){k:A}(hk:kcl k=kd){v:Value}(hv:Rep α v k):(∀ em w,(Instr.checkKey em 10000 kk v).run P w=.ok () w)∧Instr.sameBits 10000 v v=true:=by
  rcases hD with ⟨d,h1,h2⟩|⟨rfl,e,i,h1,h2,h3,h4⟩
  · exact⟨fun em w=>MapKept.run_checkKey h1 (key_ok h2 hk hv).1 em _,(key_ok h2 hk hv).2⟩
  · obtain⟨n,N,m,M,rfl⟩:=ss_of hk
    obtain⟨s,t,rfl,_⟩:=rep_ss hv
    refine⟨fun em w=>check_ss h1 h2 h3 h4 s t em w,?_⟩
    simp [Instr.sameBits,MapKept.bytes_beq]
theorem find_key {kk kd:Nat}(hD:KeyD P kk kd){k:A}(hk:kcl k=kd){v:Value}(hv:Rep α v k){es:List MapEntry}{l:A}(hm:MR α kd es l):
    ((∀ (no:R) (c:A→R),mget k l no c=no)∧(∀ w,(Instr.findKey kk v es).run P w=.ok none w)∧∀ born nv x,Rep α nv x→MR α kd (es++[({ key:=v,val:=nv,born:=born }:MapEntry)]) (mput k x l))∨
    (∃ y j e,(∀ (no:R) (c:A→R),mget k l no c=c y)∧es[j]? =some e∧(∀ w,(Instr.findKey kk v es).run P w=.ok (some (0+j,e.val)) w)∧Rep α e.val y∧e.key=v∧∀ nv x,Rep α nv x→MR α kd (es.modify j fun e=>{ e with key:=v,val:=nv }) (mput k x l)):=by
  rcases hD with ⟨d,h1,h2⟩|⟨rfl,e,i,h1,h2,h3,h4⟩
  · have:=find_spec hk hv (F:=fun es i r=>Instr.findNow d v es i=some r) (fun i=>rfl) (fun e k' hc' hk'=>by
      obtain⟨s1,s2⟩:=key_same h2 hk hc' hv hk'
      refine⟨fun hq=>⟨(s2 hq).symm,fun es i=>?_⟩,fun hq es i r hr=>?_⟩
      · rw [hq]at s1
        show Instr.findNow d v (e::es) i=_
        unfold Instr.findNow;rw [s1]
      · rw [hq]at s1
        show Instr.findNow d v (e::es) i=_
        unfold Instr.findNow;rw [s1];exact hr) hm 0
    rcases this with ⟨a1,a2,a3⟩|⟨y,j,e',a1,a2,a3,a4,a5,a6⟩
    · exact .inl ⟨a1,fun w=>findKey_run h1 a2 w,a3⟩
    · exact .inr ⟨y,j,e',a1,a2,fun w=>findKey_run h1 a3 w,a4,a5,a6⟩
  · have fk:∀(r:Option (Nat×Value)),(∀ w,(Instr.findAsking kk v es 0).run P w=.ok r w)→∀ w,(Instr.findKey kk v es).run P w=.ok r w:=fun r h w=>by
      obtain⟨n,N,m,M,rfl⟩:=ss_of hk
      obtain⟨s,t,rfl,_⟩:=rep_ss hv
      cases es with
      |nil=>
        have:=h w
        simp only [Instr.findAsking,Sem.run_pure,Result.ok.injEq,and_true]at this
        subst this
        exact findKey_run h1 rfl w
      |cons E es=>
        have hn:Instr.findNow (.array 2 e) (.agg #[.string s,.string t]) (E::es) 0=none:=by
          unfold Instr.findNow
          simp [Instr.sameNow]
        simp [Instr.findKey,run_underlying h1,hn,h w]
    have:=find_spec hk hv (F:=fun es i r=>∀ w,(Instr.findAsking kk v es i).run P w=.ok r w) (fun i w=>by simp [Instr.findAsking]) (fun E k' hc' hk'=>by
      obtain⟨n,N,m,M,rfl⟩:=ss_of hk
      obtain⟨s,t,rfl,e1,e2,e3,e4⟩:=rep_ss hv
      obtain⟨n',N',m',M',rfl⟩:=ss_of hc'
      obtain⟨s',t',hkey,f1,f2,f3,f4⟩:=rep_ss hk'
      subst e1;subst e2;subst e3;subst e4;subst f1;subst f2;subst f3;subst f4
      have hq:∀ a A b B c C d D,keq (.nd 0 (.cn (.str a A) (.cn (.str b B) .nl))) (.nd 0 (.cn (.str c C) (.cn (.str d D) .nl)))=@Bool.rec (fun _=>Bool) false (@Bool.rec (fun _=>Bool) false true (seqb b B d D)) (seqb a A c C):=fun _ _ _ _ _ _ _ _=>rfl
      rw [hq]
      have eq:=fun w=>equal_ss (P:=P) h1 h2 h3 h4 s t s' t' w
      refine⟨fun hh=>?_,fun hh es i r hr w=>?_⟩
      · cases g1:seqb s.data.toList.length (encB s.data.toList) s'.data.toList.length (encB s'.data.toList)<;>rw [g1]at hh
        · cases hh
        cases g2:seqb t.data.toList.length (encB t.data.toList) t'.data.toList.length (encB t'.data.toList)<;>rw [g2]at hh
        · cases hh
        have g1:=seqb_iff.1 g1
        have g2:=seqb_iff.1 g2
        subst g1;subst g2
        refine⟨hkey,fun es i w=>?_⟩
        simp [Instr.findAsking,hkey,eq]
      · have:(s.toList == s'.toList&&t.toList == t'.toList)=false:=by
          cases hb:(s.toList == s'.toList&&t.toList == t'.toList)
          · rfl
          · exfalso
            rw [Bool.and_eq_true,beq_iff_eq,beq_iff_eq]at hb
            have b1:s=s':=bl_inj hb.1
            have b2:t=t':=bl_inj hb.2
            rw [seqb_iff.2 b1,seqb_iff.2 b2]at hh
            cases hh
        simp [Instr.findAsking,hkey,eq,this,hr w]) hm 0
    rcases this with ⟨a1,a2,a3⟩|⟨y,j,e',a1,a2,a3,a4,a5,a6⟩
    · exact .inl ⟨a1,fk _ a2,a3⟩
    · exact .inr ⟨y,j,e',a1,a2,fk _ a3,a4,a5,a6⟩
theorem oLook_lf {kd:Nat}{m k:A}{no:R}{c:A→R}(hl:(oLookM kd m k h no c).lf=some lf):kcl k=kd∧∃ g b o n,m=.ref g b o n∧((g=5∧no.lf=some lf)∨(g=2∧∃ es,tget .no h.tr b=.mp kd es∧(mget k es no c).lf=some lf)):=by
  obtain⟨g,b,o,n,rfl,hl⟩:=oRef_lf hl
  obtain⟨g1,hl⟩:=oCk_lf hl
  refine⟨beq g1,g,b,o,n,rfl,?_⟩
  rcases rec_lf hl with ⟨h1,hl⟩|⟨_,hl⟩
  · exact .inl ⟨beq h1,hl⟩
  · obtain⟨g2,hl⟩:=oCk_lf hl
    obtain⟨kt,es,he,hl⟩:=oMap_lf hl
    obtain⟨g3,hl⟩:=oCk_lf hl
    have g3:kt=kd:=beq g3
    exact .inr ⟨beq g2,es,by rw [← g3];exact he,hl⟩
end
end Go.X1

set_option maxRecDepth 100000
namespace Go.X1
variable [Nu]
section
variable {P:Program} {TT:List TI} {h:H} {lf:Nat×A×H} {W0:World} {ρ:Operand→A} {α:Al} {w:World}
theorem mget_cases {k:A}{no:R}{c:A→R}:∀{es:A},(mget k es no c).lf=some lf→(∃ y,(∀ (no':R) (c':A→R),mget k es no' c'=c' y)∧(c y).lf=some lf)∨((∀ (no':R) (c':A→R),mget k es no' c'=no')∧no.lf=some lf):=by
  intro es
  induction es with
  |nl=>intro hl;exact .inr ⟨fun _ _=>rfl,hl⟩
  |cn x r _ ih=>
    intro hl
    have e:∀(no':R) (c':A→R),mget k (.cn x r) no' c'=@Bool.rec (fun _=>R) (mget k r no' c') (c' (tl x)) (keq k (hd x)):=fun _ _=>rfl
    rw [e]at hl
    cases hq:keq k (hd x)
    · rw [hq]at hl
      rcases ih hl with ⟨y,h1,h2⟩|⟨h1,h2⟩
      · exact .inl ⟨y,fun no' c'=>by rw [e,hq];exact h1 no' c',h2⟩
      · exact .inr ⟨fun no' c'=>by rw [e,hq];exact h1 no' c',h2⟩
    · rw [hq]at hl
      exact .inl ⟨tl x,fun no' c'=>by rw [e,hq],hl⟩
  |_=>intro hl;cases hl
theorem rep_map {v:Value}{b o n:Nat}(hv:Rep α v (.ref 2 b o n)):∃ L,α b=some L∧v=.map (some L.blk):=by
  cases hv with |ref hv=>
  generalize hg:2=g at hv
  cases hv with
  |map h=>exact⟨_,h,rfl⟩
  |sl _ hg'=>omega
  |_=>omega
theorem rep_nmap {v:Value}{b o n:Nat}(hv:Rep α v (.ref 5 b o n)):v=.map none:=by
  cases hv with |ref hv=>
  generalize hg:5=g at hv
  cases hv with
  |nmap=>rfl
  |sl _ hg'=>omega
  |_=>omega
theorem kdOf_spec (hT:TabOK P TT){kk kd:Nat}(h:kdOf TT kk=some kd):KeyD P kk kd:=by
  unfold kdOf at h
  split at h
  · rename_i hk;cases h;exact .inl ⟨_,und_int (hT.und hk (by simp)),rfl⟩
  · rename_i hk;cases h;exact .inl ⟨_,und_int (hT.und hk (by simp)),rfl⟩
  · rename_i hk;cases h;exact .inl ⟨_,und_str (hT.und hk (by simp)),rfl⟩
  · rename_i e hk
    split at h
    · rename_i he
      cases h1:sz1 TT e<;>rw [h1]at h
      · cases h
      · cases h
        have h5:(tget? TT e).size=1:=by
          unfold sz1 at h1
          split at h1
          · assumption
          · cases h1
        have hz:nz TT e=true:=by
          unfold nz;rw [h5];rfl
        obtain⟨i,h2,h3,h4,⟨j,h6⟩,_⟩:=hT.info hz
        refine .inr ⟨rfl,e,j,und_arr (hT.und hk (by simp)),und_str (hT.und he (by simp)),h6,?_⟩
        rw [h3,h4]at h5
        exact h5
    · cases h
  · cases h
theorem HR.map (hr:HR W0 α w h){b:Nat}{L:Loc}(hb:α b=some L){kd:Nat}{es:A}(ht:tget .no h.tr b=.mp kd es):∃ ents ck,w.heap[L.blk]? =some (.map ents ck)∧MR α kd ents.toList es:=by
  have:=hr.blk b L hb
  rwa [ht]at this
theorem MR.len {kt:Nat}:∀{es:List MapEntry} {l:A},MR α kt es l→es.length=llen l
  |_,_,.nil=>rfl
  |_,_,.cons _ _ _ t=>by rw [llen_cn,List.length_cons,t.len]
theorem mlen_sound (hT:TabOK P TT){t kk e:Nat}(hk:(tget? TT t).kind=.map kk e){x:Operand}{c:A→R}(hl:(oMLen (ρ x) h c).lf=some lf):∃ r,(c r).lf=some lf∧OpL P W0 (.call ⟨.builtin .len,⟨[x]⟩,⟨[t]⟩⟩) ρ h r:=by
  have hu:=und_map (hT.und hk (by simp))
  obtain⟨g,b,o,n,hx,hl⟩:=oRef_lf hl
  rcases rec_lf hl with ⟨g1,hl⟩|⟨_,hl⟩
  · have g1:g=5:=beq g1
    refine⟨_,hl,fun d ty pos af gu α w a h' hm hr hρ=>?_⟩
    have hv:=hρ x (by simp [Op.operands,Call.operands])
    rw [hx,g1]at hv
    have e1:=rep_nmap hv
    refine⟨goInt 0,?_,goInt_rep 0⟩
    simp [execOp,resolve,invoke,builtin,e1,Builtin.len_,run_underlying hu]
  · obtain⟨g1,hl⟩:=oCk_lf hl
    have g1:g=2:=beq g1
    obtain⟨kt,es,he,hl⟩:=oMap_lf hl
    refine⟨_,hl,fun d ty pos af gu α w a h' hm hr hρ=>?_⟩
    have hv:=hρ x (by simp [Op.operands,Call.operands])
    rw [hx,g1]at hv
    obtain⟨L,L1,L2⟩:=rep_map hv
    obtain⟨ents,ck,e1,e2⟩:=hr.map L1 ((hm.tr b (by rw [he];simp)).trans he)
    refine⟨goInt ents.size,?_,by have:=e2.len;rw [← this];exact goInt_rep _⟩
    simp [execOp,resolve,invoke,builtin,L2,Builtin.len_,run_underlying hu,MapKept.run_getObj_map e1]
theorem look_core (hT:TabOK P TT)(hZ:TabZ P TT){t kk e kd:Nat}(hk:(tget? TT t).kind=.map kk e)(hkd:kdOf TT kk=some kd)(ha:(tget? TT e).agg=false){z:A}(hz:(tget? TT e).zero=[z]){x y:Operand}{no:R}{c:A→R}(hl:(oLookM kd (ρ x) (ρ y) h no c).lf=some lf):
    (no.lf=some lf∧∀ ok,OpL P W0 (.lookup t x y ok) ρ h (match ok with |true=>pr z false|false=>z))∨(∃ r,(c r).lf=some lf∧∀ ok,OpL P W0 (.lookup t x y ok) ρ h (match ok with |true=>pr r true|false=>r)):=by
  have hu:=und_map (hT.und hk (by simp))
  have hD:=kdOf_spec hT hkd
  obtain⟨hck,g,b,o,n,hx,hcase⟩:=oLook_lf hl
  obtain⟨zv,z1,z2⟩:=hT.zero (t:=e) (by rw [hz];simp)
  have zz:zv.cells=#[zv]:=by
    obtain⟨i,i1,i2⟩:∃ i,TT[e]? =some i∧tget? TT e=i:=by
      cases hi:TT[e]? with
      |none=>unfold tget? at hz;rw [hi]at hz;cases hz
      |some i=>exact⟨i,rfl,by unfold tget?;rw [hi];rfl⟩
    refine hZ e i i1 (by rw [← i2];exact ha) zv ?_
    have:=z1 W0
    unfold zeroValue at this
    simp only [typeInfo,Sem.run_bind]at this
    cases hp:P.info? e with
    |none=>simp [hp]at this
    |some j=>
      simp [hp]at this
      cases hj:j.zero with
      |none=>simp [hj]at this
      |some z'=>simp [hj]at this;simp [hj,this]
  have hzr:∀ α,Rep α zv z:=fun α=>by
    rw [hz,zz]at z2
    have:cvA zv=z:=by simpa using z2
    rw [← this];exact rep_cv α zv
  have chk:∀{α:Al} {v:Value} (em:Bool) (w:World),Rep α v (ρ y)→(Instr.checkKey em 10000 kk v).run P w=.ok () w:=fun em w hv=>(keyD_ok hD hck hv).1 em _
  have none_case:∀(hfind:∀(α:Al) (w:World) (a:Act) (h':H),Mono h h'→HR W0 α w h'→Rep α (a.eval x) (ρ x)→Rep α (a.eval y) (ρ y)→(a.eval x=.map none∨∃ bk ents ck,a.eval x=.map (some bk)∧w.heap[bk]? =some (.map ents ck)∧∀ w,(Instr.findKey kk (a.eval y) ents.toList).run P w=.ok none w)) (ok:Bool),OpL P W0 (.lookup t x y ok) ρ h (match ok with |true=>pr z false|false=>z):=fun hfind ok D ty pos af gu α w a h' hm hr hρ=>by
    have hvx:=hρ x (by simp [Op.operands])
    have hvy:=hρ y (by simp [Op.operands])
    refine⟨if ok then .tuple #[zv,.bool false]else zv,?_,?_⟩
    · rcases hfind α w a h' hm hr hvx hvy with e1|⟨bk,ents,ck,e1,e2,e3⟩
      · have hfn:∀ w,(Instr.findKey kk (a.eval y) []).run P w=.ok none w:=fun w=>by
          rcases find_key hD hck hvy (.nil:MR α kd [] .nl)with ⟨_,a2,_⟩|⟨_,_,_,a1,_⟩
          · exact a2 w
          · have:=a1 .bad (fun x=>.go 0 x (.mk .lf 0 0))
            cases this
        simp [execOp,e1,Instr.lookup,run_underlying hu,chk _ _ hvy,hfn,z1]
      · simp [execOp,e1,Instr.lookup,run_underlying hu,MapKept.run_getObj_map e2,chk _ _ hvy,e3,z1]
    · cases ok
      · exact hzr α
      · exact .tup (.cons (hzr α) (.cons (.bool _) .nil))
  rcases hcase with ⟨rfl,hl⟩|⟨rfl,es,he,hl⟩
  · refine .inl ⟨hl,none_case fun α w a h' hm hr hvx hvy=>.inl ?_⟩
    rw [hx]at hvx
    exact rep_nmap hvx
  · have fs:∀(α:Al) (w:World) (a:Act) (h':H),Mono h h'→HR W0 α w h'→Rep α (a.eval x) (ρ x)→∃ bk ents ck,a.eval x=.map (some bk)∧w.heap[bk]? =some (.map ents ck)∧MR α kd ents.toList es:=fun α w a h' hm hr hvx=>by
      rw [hx]at hvx
      obtain⟨L,L1,L2⟩:=rep_map hvx
      obtain⟨ents,ck,e1,e2⟩:=hr.map L1 ((hm.tr b (by rw [he];simp)).trans he)
      exact⟨L.blk,ents,ck,L2,e1,e2⟩
    rcases mget_cases hl with ⟨r,r1,r2⟩|⟨r1,r2⟩
    · refine .inr ⟨r,r2,fun ok D ty pos af gu α w a h' hm hr hρ=>?_⟩
      have hvx:=hρ x (by simp [Op.operands])
      have hvy:=hρ y (by simp [Op.operands])
      obtain⟨bk,ents,ck,e1,e2,e3⟩:=fs α w a h' hm hr hvx
      rcases find_key hD hck hvy e3 with ⟨a1,_,_⟩|⟨y',j,e',a1,a2,a3,a4,_,_⟩
      · have:=a1 .bad (fun x=>.go 0 x (.mk .lf 0 0))
        rw [r1]at this;cases this
      · have hy:r=y':=by
          have:=a1 .bad (fun x=>.go 0 x (.mk .lf 0 0))
          rw [r1]at this;cases this;rfl
        subst hy
        refine⟨if ok then .tuple #[e'.val,.bool true]else e'.val,?_,?_⟩
        · simp [execOp,e1,Instr.lookup,run_underlying hu,MapKept.run_getObj_map e2,chk _ _ hvy,a3]
        · cases ok
          · exact a4
          · exact .tup (.cons a4 (.cons (.bool _) .nil))
    · refine .inl ⟨r2,none_case fun α w a h' hm hr hvx hvy=>.inr ?_⟩
      obtain⟨bk,ents,ck,e1,e2,e3⟩:=fs α w a h' hm hr hvx
      refine⟨bk,ents,ck,e1,e2,?_⟩
      rcases find_key hD hck hvy e3 with ⟨_,a2,_⟩|⟨y',j,e',a1,_⟩
      · exact a2
      · have:=a1 .bad (fun x=>.go 0 x (.mk .lf 0 0))
        rw [r1]at this;cases this
theorem mkM_sound (hT:TabOK P TT){t kk e kd:Nat}(hk:(tget? TT t).kind=.map kk e){c:A→H→R}(hl:(oMkM kd h c).lf=some lf):∃ r B0,(c (r h.nx) (h.new B0)).lf=some lf∧OpN P W0 (.makeMap t none) ρ r B0:=by
  refine⟨fun id=>.ref 2 id 0 0,.mp kd .nl,by have:=hnew_lf hl;cases h;exact this,fun d ty pos af gu α w a h hr hρ=>?_⟩
  refine⟨.map (some w.heap.size),.map #[] 0,⟨w.heap.size,0,0,0,0,(0,0)⟩,?_,⟨rfl,rfl⟩,fun α' w' _ hw'=>⟨#[],0,hw',.nil⟩,fun α' id e=>.ref (.map (L:=⟨w.heap.size,0,0,0,0,(0,0)⟩) e)⟩
  simp [execOp,Instr.makeMap]
theorem mup_core (hT:TabOK P TT){t kk e kd:Nat}(hk:(tget? TT t).kind=.map kk e)(hkd:kdOf TT kk=some kd){x y z:Operand}{c:H→R}(hl:(oMUp kd (ρ x) (ρ y) (ρ z) h c).lf=some lf):
    ∃ h',(c h').lf=some lf∧∀(α:Al) (w:World) (a:Act),HR W0 α w h→Rep α (a.eval x) (ρ x)→Rep α (a.eval y) (ρ y)→Rep α (a.eval z) (ρ z)→∃ w',(Instr.mapUpdate t (a.eval x) (a.eval y) (a.eval z)).run P w=.ok () w'∧Step W0 α w h α w' h':=by
  have hu:=und_map (hT.und hk (by simp))
  have hD:=kdOf_spec hT hkd
  obtain⟨g,b,o,n,hx,hl⟩:=oRef_lf hl
  obtain⟨g1,hl⟩:=oCk_lf hl
  obtain⟨g2,hl⟩:=oCk_lf hl
  obtain⟨kt,es,he,hl⟩:=oMap_lf hl
  obtain⟨g3,hl⟩:=oCk_lf hl
  obtain⟨hro,hl⟩:=hput_lf hl
  have g1:g=2:=beq g1
  have hck:kcl (ρ y)=kd:=beq g2
  have g3:kt=kd:=beq g3
  rw [g3]at he hl
  rw [g1]at hx
  refine⟨h.put b (.mp kd (mput (ρ y) (ρ z) es)),by cases h;exact hl,fun α w a hr hvx hvy hvz=>?_⟩
  rw [hx]at hvx
  obtain⟨L,L1,L2⟩:=rep_map hvx
  obtain⟨ents,ck,e1,e2⟩:=hr.map L1 he
  have hlt:L.blk<w.heap.size:=(hr.dom b L L1).2.2
  have hchk:∀ em,(Instr.checkKey em 10000 kk (a.eval y)).run P w=.ok () w:=fun em=>(keyD_ok hD hck hvy).1 em _
  have key:∃ ents' ck',(Instr.mapUpdate t (a.eval x) (a.eval y) (a.eval z)).run P w=.ok () { w with heap:=w.heap.setIfInBounds L.blk (.map ents' ck') }∧MR α kd ents'.toList (mput (ρ y) (ρ z) es):=by
    rcases find_key hD hck hvy e2 with ⟨_,a2,a3⟩|⟨y',j,e',_,a2,a3,a4,a5,a6⟩
    · refine⟨ents.push { key:=a.eval y,val:=a.eval z,born:=ck },ck+1,?_,by simpa using a3 ck (a.eval z) (ρ z) hvz⟩
      simp [L2,Instr.mapUpdate,run_underlying hu,MapKept.run_getObj_map e1,hchk,a2,MapKept.run_setObj_map _ e1]
    · refine⟨ents.modify (0+j) fun e=>{ e with key:=a.eval y,val:=a.eval z },ck,?_,by simpa [Array.toList_modify]using a6 (a.eval z) (ρ z) hvz⟩
      have hj:ents[j]? =some e':=by simpa using a2
      have hkeep:(Instr.keyThatStays (a.eval y) (a.eval y)).run P w=.ok (a.eval y) w:=by
        simp [Instr.keyThatStays,(keyD_ok hD hck hvy).2]
      simp [L2,Instr.mapUpdate,run_underlying hu,MapKept.run_getObj_map e1,hchk,a3,MapKept.run_setObj_map _ e1]
      simp [hj,a5,hkeep,MapKept.run_setObj_map _ e1]
  obtain⟨ents',ck',k1,k2⟩:=key
  refine⟨_,k1,step_put hr L1 hro _ _ (by simp) rfl rfl (fun c hc=>by simp [Array.getElem?_setIfInBounds,Ne.symm hc]) (by rw [he];simp) ⟨ents',ck',by simp [hlt],k2⟩⟩
theorem mup_sound (hT:TabOK P TT){t kk e kd:Nat}(hk:(tget? TT t).kind=.map kk e)(hkd:kdOf TT kk=some kd){x y z:Operand}{c:A→H→R}(hl:(oMUp kd (ρ x) (ρ y) (ρ z) h fun h=>c und h).lf=some lf):
    (∃ r h',(c r h').lf=some lf∧OpS P W0 (.mapUpdate t x y z) ρ h r h')∧(∃ r h',(c r h').lf=some lf∧OpS P W0 (.insert t x y z) ρ h r h'):=by
  obtain⟨h',hl,hs⟩:=mup_core (P:=P) (W0:=W0) hT hk hkd hl
  constructor
  · refine⟨_,h',hl,ops_skip fun d ty pos af gu α w a hr hρ=>?_⟩
    obtain⟨w',q1,q2⟩:=hs α w a hr (hρ x (by simp [Op.operands])) (hρ y (by simp [Op.operands])) (hρ z (by simp [Op.operands]))
    exact⟨w',by simp [execOp,q1],q2⟩
  · refine⟨_,h',hl,ops_skip fun d ty pos af gu α w a hr hρ=>?_⟩
    obtain⟨w',q1,q2⟩:=hs α w a hr (hρ x (by simp [Op.operands])) (hρ y (by simp [Op.operands])) (hρ z (by simp [Op.operands]))
    exact⟨w',by simp [execOp,q1],q2⟩
end
end Go.X1

set_option maxRecDepth 100000
namespace Go.X1
variable [Nu]
section
variable {P:Program} {TT:List TI} {h:H} {lf:Nat×A×H} {W0:World} {ρ:Operand→A}
theorem put_mk (h:H)(b:Nat)(B0:B):h.put b B0=.mk (tset B0 h.tr b) h.nx h.ro:=by cases h;rfl
theorem bcall_copy {x y:Operand}{t t':Nat}{d:Option Tmp}{ty:TypeId}{pos:String}{af:Array Edge}{gu:Option (Nat×Bool)}{a:Act}{w w':World}{v:Value}
    (hr:(Builtin.copy_ #[t,t'] ty #[a.eval x,a.eval y]).run P w=.ok v w'):(execOp a.eval ⟨d,.call ⟨.builtin .copy,⟨[x,y]⟩,⟨[t,t']⟩⟩,ty,pos,af,gu⟩).run P w=.ok (.value v) w':=by
  simp [execOp,resolve,invoke,builtin,hr]
theorem copy_run {t u e n m c:Nat}{i:TypeInfo}{z:Value}(hI:ElemI P TT e i z)(ht:P.underlying t=some (.slice e))(ty:TypeId){ad:Option Addr}{v:Value}{news:List Value}{w w':World}
    (hn:(Builtin.lenOf v).run P w=.ok n w) (hf:(Builtin.firstCells i.size n v).run P w=.ok ⟨news⟩ w) (hm:n≤m) (hs:∀ a,ad=some a→(storeCells a news).run P w=.ok () w') (h0:ad=none→w'=w):
    (Builtin.copy_ #[t,u] ty #[.slice ad m c,v]).run P w=.ok (goInt n) w':=by
  have hmin:Nat.min n m=n:=Nat.min_eq_left hm
  cases ad with
  |none=>simp [Builtin.copy_,run_underlying ht,hn,hmin,sizeOf,typeInfo,hI.info,hf,h0 rfl]
  |some a=>simp [Builtin.copy_,run_underlying ht,hn,hmin,sizeOf,typeInfo,hI.info,hf,hs a rfl]
theorem copy_sound (hT:TabOK P TT)(hB:TabB P TT){t t' e:Nat}(he:elemZ TT t=some e){x y:Operand}{c:A→H→R}(hl:(oCopy (tget? TT e).size (ρ x) (ρ y) h c).lf=some lf):
    ∃ r h',(c r h').lf=some lf∧OpS P W0 (.call ⟨.builtin .copy,⟨[x,y]⟩,⟨[t,t']⟩⟩) ρ h r h':=by
  obtain⟨hu,hz⟩:=elemZ_spec hT he
  obtain⟨i,z,hI⟩:=elemI hT hB hz
  obtain⟨n,l,hl1,hll,hc⟩:=oCells_sound hI.pos hl
  obtain⟨g,b,o,m,hx,hl2⟩:=oRef_lf hl1
  rcases rec_lf hl2 with ⟨g0,hl3⟩|⟨g0,hl3⟩
  · obtain⟨g1,hl4⟩:=oCk_lf hl3
    have g0:n=0:=beq g0
    subst g0
    refine⟨_,h,hl4,ops_step fun d ty pos af gu α w a hr hρ=>?_⟩
    obtain⟨news,q1,q2,q3,q4,q5⟩:=news_of (W0:=W0) hI (hc h (Mono.refl h) W0 α w _ hr (hρ y (by simp [Op.operands,Call.operands])))
    have hnil:news=[]:=List.eq_nil_of_length_eq_zero (by rw [q5,Nat.zero_mul])
    subst hnil
    have hv:=hρ x (by simp [Op.operands,Call.operands])
    rw [hx]at hv
    have key:∃ ad m' c',a.eval x=.slice ad m' c':=by
      cases h3:Nat.beq g 3
      · rw [h3]at g1
        have g1:g=10+(tget? TT e).size:=beq g1
        rw [g1]at hv
        obtain⟨_,ad,c',_,_,_,_,_,_,e1⟩:=rep_sl hI.pos hv
        exact⟨_,_,_,e1⟩
      · rw [show g=3 from beq h3]at hv
        exact⟨_,_,_,rep_nsl hv⟩
    obtain⟨ad,m',c',e1⟩:=key
    refine⟨goInt 0,α,w,bcall_copy ?_,.refl hr,goInt_rep 0⟩
    rw [e1]
    exact copy_run hI hu ty q1 (q2 w rfl) (Nat.zero_le _) (fun a _=>rfl) fun _=>rfl
  · obtain⟨g1,hl4⟩:=oCk_lf hl3
    obtain⟨g2,hl5⟩:=oCk_lf hl4
    obtain⟨q,lo,tr,hb,hl6⟩:=oBlk_lf hl5
    obtain⟨g3,hl7⟩:=oCk_lf hl6
    obtain⟨g4,hl8⟩:=oCk_lf hl7
    obtain⟨hro,hl9⟩:=hput_lf hl8
    have g1:n≤m:=ble g1
    have g2:g=10+(tget? TT e).size:=beq g2
    have g3:lo≤o:=ble g3
    have g4:o+m * (tget? TT e).size≤q:=ble g4
    have hpos:0<n:=by
      rcases Nat.eq_zero_or_pos n with h0|h0
      · subst h0;cases g0
      · exact h0
    refine⟨_,h.put b (.cs q lo (tsets l tr o)),by rw [put_mk];exact hl9,ops_step fun d ty pos af gu α w a hr hρ=>?_⟩
    obtain⟨news,q1,q2,q3,q4,q5⟩:=news_of (W0:=W0) hI (hc h (Mono.refl h) W0 α w _ hr (hρ y (by simp [Op.operands,Call.operands])))
    have hv:=hρ x (by simp [Op.operands,Call.operands])
    rw [hx,g2]at hv
    obtain⟨L,ad,c',e1,e2,e3,e4,e5,e6,e7⟩:=rep_sl hI.pos hv
    have had:ad=⟨L.blk,L.base+(o-L.lo),none⟩:=e6.resolve_left (by omega)
    have hle:n * (tget? TT e).size≤m * (tget? TT e).size:=Nat.mul_le_mul_right _ g1
    obtain⟨cs,el,f1,f2,f3⟩:=step_write hr e1 hb hro q3 q4 g3 (by rw [q5];omega)
    have hrun:=run_storeCells_fz (P:=P) L.blk (L.base+(o-L.lo)) el news 0 cs w f1 (by simpa using f2) q4
    simp only [Nat.add_zero]at hrun
    refine⟨goInt n,α,_,bcall_copy ?_,f3,goInt_rep n⟩
    rw [e7]
    refine copy_run hI hu ty q1 (q2 w rfl) g1 (fun a ha=>?_) fun ha=>by cases ha
    cases ha
    rw [had];exact hrun
end
end Go.X1

set_option maxRecDepth 100000
namespace Go.X1
variable [Nu]
def OpK (P:Program)(W0:World)(kd:Kd)(o:Op)(ρ:Operand→A)(h:H)(x:A)(h':H):Prop:=match kd with
  |.v=>h'=h∧OpV P W0 o ρ x
  |.l=>h'=h∧OpL P W0 o ρ h x
  |.p=>h'=h∧OpP P W0 o ρ h x
  |.n=>∃ f B0,x=f h.nx∧h'=h.new B0∧OpN P W0 o ρ f B0
  |.m=>OpS P W0 o ρ h x h'
theorem OpK.ops {P:Program}{W0:World}{kd:Kd}{o:Op}{ρ:Operand→A}{h:H}{x:A}{h':H}(hk:OpK P W0 kd o ρ h x h'):OpS P W0 o ρ h x h':=by
  cases kd with
  |v=>obtain⟨rfl,hv⟩:=hk;exact hv.ops _
  |l=>obtain⟨rfl,hv⟩:=hk;exact hv.ops (Mono.refl _)
  |p=>obtain⟨rfl,hv⟩:=hk;exact hv.ops
  |n=>obtain⟨f,B0,rfl,rfl,hv⟩:=hk;exact hv.ops _
  |m=>exact hk
section
variable {P:Program} {TT:List TI} {h:H} {lf:Nat×A×H} {W0:World} {ρ:Operand→A} {k:K}
theorem knV {kd:Kd}(hkd:kd=.v){o:Op}{c:A→H→R}(hh:∃ r,(c r h).lf=some lf∧OpV P W0 o ρ r):∃ x h',(c x h').lf=some lf∧OpK P W0 kd o ρ h x h':=by
  subst hkd;obtain⟨r,h1,h2⟩:=hh;exact⟨r,h,h1,rfl,h2⟩
theorem knL {kd:Kd}(hkd:kd=.l){o:Op}{c:A→H→R}(hh:∃ r,(c r h).lf=some lf∧OpL P W0 o ρ h r):∃ x h',(c x h').lf=some lf∧OpK P W0 kd o ρ h x h':=by
  subst hkd;obtain⟨r,h1,h2⟩:=hh;exact⟨r,h,h1,rfl,h2⟩
theorem knP {kd:Kd}(hkd:kd=.p){o:Op}{c:A→H→R}(hh:∃ r,(c r h).lf=some lf∧OpP P W0 o ρ h r):∃ x h',(c x h').lf=some lf∧OpK P W0 kd o ρ h x h':=by
  subst hkd;obtain⟨r,h1,h2⟩:=hh;exact⟨r,h,h1,rfl,h2⟩
theorem knN {kd:Kd}(hkd:kd=.n){o:Op}{c:A→H→R}(hh:∃ r B0,(c (r h.nx) (h.new B0)).lf=some lf∧OpN P W0 o ρ r B0):∃ x h',(c x h').lf=some lf∧OpK P W0 kd o ρ h x h':=by
  subst hkd;obtain⟨r,B0,h1,h2⟩:=hh;exact⟨_,_,h1,r,B0,rfl,rfl,h2⟩
theorem knM {kd:Kd}(hkd:kd=.m){o:Op}{c:A→H→R}(hh:∃ x h',(c x h').lf=some lf∧OpS P W0 o ρ h x h'):∃ x h',(c x h').lf=some lf∧OpK P W0 kd o ρ h x h':=by
  subst hkd;exact hh
theorem load_sound (hT:TabOK P TT){t:Nat}{x:Operand}{c:A→R}(hl:(bb (nz TT t) (bb (tget? TT t).agg (oLdN (tget? TT t).size (ρ x) h c) (oLd (ρ x) h c)) .bad).lf=some lf):∃ r,(c r).lf=some lf∧OpL P W0 (.load t x) ρ h r:=by
  rcases bb_lf hl with ⟨hz,hl⟩|⟨_,hl⟩
  · rcases bb_lf hl with ⟨ha,hl⟩|⟨ha,hl⟩
    · obtain⟨r,hl,hs⟩:=ldN_sound (P:=P) hT hz ha hl
      refine⟨r,hl,fun d ty pos af gu α w a h' hm hr hρ=>?_⟩
      obtain⟨u,q1,q2⟩:=hs h' hm W0 α w _ hr (hρ x (by simp [Op.operands]))
      exact⟨u,by simp [execOp,q1],q2⟩
    · obtain⟨r,hl,hs⟩:=ld_sound (P:=P) hT hz ha hl
      refine⟨r,hl,fun d ty pos af gu α w a h' hm hr hρ=>?_⟩
      obtain⟨u,q1,_,q2⟩:=hs h' hm W0 α w _ hr (hρ x (by simp [Op.operands]))
      exact⟨u,by simp [execOp,q1],q2⟩
  · exact bad_lf hl
theorem store_sound (hT:TabOK P TT){t:Nat}{x y:Operand}{c:A→H→R}(hl:(bb (nz TT t) (bb (tget? TT t).agg (oStN (tget? TT t).size (ρ x) (ρ y) h fun h=>c und h) (bb (sz1 TT t) (oSt (ρ x) (ρ y) h fun h=>c und h) .bad)) .bad).lf=some lf):
    ∃ r h',(c r h').lf=some lf∧OpS P W0 (.store t x y) ρ h r h':=by
  rcases bb_lf hl with ⟨hz,hl⟩|⟨_,hl⟩
  · rcases bb_lf hl with ⟨ha,hl⟩|⟨ha,hl⟩
    · obtain⟨h',hl,hs⟩:=stN_sound (P:=P) (W0:=W0) hT hz hl
      exact⟨_,h',hl,hs⟩
    · rcases bb_lf hl with ⟨h1,hl⟩|⟨_,hl⟩
      · obtain⟨h',hl,hs⟩:=st_sound (P:=P) (W0:=W0) hT hz h1 hl
        exact⟨_,h',hl,hs⟩
      · exact bad_lf hl
  · exact bad_lf hl
theorem elemZ_of {t e:Nat}(hk:(tget? TT t).kind=.slice e)(hz:nz TT e=true):elemZ TT t=some e:=by
  unfold elemZ elemOf;rw [hk];simp [hz]
theorem builtin_sound (hT:TabOK P TT)(hB:TabB P TT){b:Builtin}{ts:List Nat}{as:List Operand}{pu:List Nat}{c:A→H→R}(hl:(builtinF TT b ts (lvals ρ as) h c).lf=some lf):
    ∃ x h',(c x h').lf=some lf∧OpK P W0 (kindOf TT pu (.call ⟨.builtin b,⟨as⟩,⟨ts⟩⟩)) (.call ⟨.builtin b,⟨as⟩,⟨ts⟩⟩) ρ h x h':=by
  replace hl:=tid_lf hl
  split at hl
  · rename_i t a ha
    match as,ha with
    | [x],ha=>
      cases ha
      split at hl
      · rename_i hk;exact knV (by simp only [kindOf,hk]) (slen_sound hT hk hl)
      · rename_i e hk;exact knV (by simp only [kindOf,hk]) (len_sound hT hk hl)
      · rename_i hk;exact knL (by simp only [kindOf,hk]) (mlen_sound hT hk hl)
      · exact bad_lf hl
  · rename_i t t' a x ha
    match as,ha with
    | [y,z],ha=>
      cases ha
      split at hl
      · rename_i e e' he hk;exact knM rfl (opApp_sound hT hB he hk hl)
      · rename_i e he hk
        rcases bb_lf hl with ⟨h1,hl⟩|⟨_,hl⟩
        · exact knM rfl (opAppS_sound hT hB he (beq h1) hk hl)
        · exact bad_lf hl
      · exact bad_lf hl
  · rename_i t t' a x ha
    match as,ha with
    | [y,z],ha=>
      cases ha
      split at hl
      · rename_i e e' he hk;exact knM rfl (copy_sound hT hB he hl)
      · exact bad_lf hl
  · rename_i a x ha
    match as,ha with
    | [y,z],ha=>cases ha;exact knV rfl (max_sound hl)
  · rename_i a x ha
    match as,ha with
    | [y,z],ha=>cases ha;exact knV rfl (min_sound hl)
  · exact bad_lf hl
theorem conv_sound (hT:TabOK P TT){s d:Nat}{x:Operand}{pu:List Nat}{c:A→H→R}
    (hl:R.lf (match (tget? TT s).kind,(tget? TT d).kind with
    |.int .i64,.int .i64=>oI2I (ρ x) fun v=>c v h
    |.int .u8,.int .i64=>oB2I (ρ x) fun v=>c v h
    |.int .i64,.int .u8=>oI2B (ρ x) fun v=>c v h
    |.int .u8,.int .u8=>oB2B (ρ x) fun v=>c v h
    |.str,.str=>oStr (ρ x) fun _ _=>c (ρ x) h
    |.slice e,.str=>(match (tget? TT e).kind with |.int .u8=>oB2S (ρ x) h fun v=>c v h|_=>.bad)
    |_,_=>.bad)=some lf):∃ y h',(c y h').lf=some lf∧OpK P W0 (kindOf TT pu (.convert s d x)) (.convert s d x) ρ h y h':=by
  split at hl
  · rename_i h1 h2;exact knV (by simp only [kindOf,h1,h2]) (i2i_sound hT h1 h2 hl)
  · rename_i h1 h2;exact knV (by simp only [kindOf,h1,h2]) (b2i_sound hT h1 h2 hl)
  · rename_i h1 h2;exact knV (by simp only [kindOf,h1,h2]) (i2b_sound hT h1 h2 hl)
  · rename_i h1 h2;exact knV (by simp only [kindOf,h1,h2]) (b2b_sound hT h1 h2 hl)
  · rename_i h1 h2;exact knV (by simp only [kindOf,h1,h2]) (s2s_sound (c:=fun v=>c v h) hT h1 h2 hl)
  · rename_i e h1 h2
    split at hl
    · rename_i he;exact knL (by simp only [kindOf,h1,h2]) (b2s_sound hT h1 he h2 hl)
    · exact bad_lf hl
  · exact bad_lf hl
theorem opF_sound {Γ:Cx}(hΓ:Γ.T=TT)(hT:TabOK P TT)(hB:TabB P TT)(hF:TabF P TT)(hk:CallOK P W0 k)(hc:∀ z,ρ (.const z)=cvA z){o:Op}{c:A→H→R}(hl:(opF Γ k ρ o h c).lf=some lf):
    ∃ x h',(c x h').lf=some lf∧OpK P W0 (kindOf TT Γ.pu o) o ρ h x h':=by
  unfold opF at hl
  rw [hΓ]at hl
  replace hl:=tid_lf hl
  split at hl
  · exact knV rfl (pick_sound hl)
  · rename_i e
    rcases bb_lf hl with ⟨hb,hl⟩|⟨_,hl⟩
    · rw [Bool.and_eq_true]at hb
      refine knN rfl (alloc_sound hT hb.1 hb.2 (fun q=>?_) hl)
      obtain⟨i,h1,h2,_⟩:=hT.info hb.1
      have:=(hB e i h1).2.1 (by have:=nz_pos hb.1;rw [← h2];omega)
      rw [← h2,q]at this
      have:=nz_pos hb.1
      simp at *;omega
    · exact bad_lf hl
  · rcases bb_lf hl with ⟨hb,hl⟩|⟨_,hl⟩
    · rcases bb_lf hl with ⟨hb,hl⟩|⟨_,hl⟩
      · exact knN rfl (box_sound hl)
      · exact knN rfl (box1_sound hl)
    · exact bad_lf hl
  · rename_i t qs
    split at hl
    · rename_i fs ps hks hp
      rcases bb_lf hl with ⟨hb,hl⟩|⟨_,hl⟩
      · rw [Bool.and_eq_true]at hb
        have h2:(tget? TT t).zero≠ []:=by
          intro q
          have h2:=hb.2
          rw [q]at h2;cases h2
        refine knV rfl ?_
        exact build_sound (c:=fun v=>c v h) hT hF hp ⟨_,hks⟩ hb.1 h2 hl
      · exact bad_lf hl
    · rename_i hks
      rcases bb_lf hl with ⟨hb,hl⟩|⟨_,hl⟩
      · rw [Bool.and_eq_true,Bool.and_eq_true]at hb
        have h2:(tget? TT t).zero≠ []:=by
          intro q
          have h2:=hb.2
          rw [q]at h2;cases h2
        exact knV rfl (buildA_sound (c:=fun v=>c v h) hT hks hb.1.1 hb.1.2 h2 hl)
      · exact bad_lf hl
    · exact bad_lf hl
  · rename_i t n qs
    split at hl
    · rename_i e he
      rcases bb_lf hl with ⟨hb,hl⟩|⟨_,hl⟩
      · rw [Bool.and_eq_true]at hb
        exact knN rfl (bslice_sound hT hB he hb.1 (ble hb.2) hl)
      · exact bad_lf hl
    · exact bad_lf hl
  · exact knL rfl (load_sound (c:=fun v=>c v h) hT hl)
  · exact knM rfl (store_sound hT hl)
  · exact knV rfl (deref_sound hl)
  · rename_i op t x y t'
    obtain⟨r,h1,h2⟩:=binF_sound hT (x:=x) (fun z hz=>by rw [hz];exact hc z) hl
    exact knV rfl ⟨r,h1,bin_sound h2⟩
  · exact knV rfl (not_sound hl)
  · split at hl
    · exact knV rfl (neg_sound (c:=fun v=>c v h) hl)
    · exact bad_lf hl
  · exact conv_sound hT hl
  · exact knV rfl ⟨_,hl,fn_sound⟩
  · split at hl
    · rename_i e he
      rcases bb_lf hl with ⟨hb,hl⟩|⟨_,hl⟩
      · exact knN rfl (mk_sound hT hB he hb hl)
      · exact bad_lf hl
    · exact bad_lf hl
  · split at hl
    · rename_i hk
      split at hl
      · exact knV rfl (slS_sound hT hk hl)
      · exact knV rfl (slS0_sound (c:=fun v=>c v h) hT hk hl)
    · rename_i e hk
      split at hl
      · rcases bb_lf hl with ⟨hz,hl⟩|⟨_,hl⟩
        · exact knV rfl (sl_sound hT (elemZ_of hk hz) hl)
        · exact bad_lf hl
      · rcases bb_lf hl with ⟨hz,hl⟩|⟨_,hl⟩
        · exact knV rfl (sl0_sound (c:=fun v=>c v h) hT (elemZ_of hk hz) hl)
        · exact bad_lf hl
    · exact bad_lf hl
  · split at hl
    · rename_i o ft hf
      rcases bb_lf hl with ⟨hz,hl⟩|⟨_,hl⟩
      · exact knV rfl (fld_sound hT hf hz hl)
      · exact bad_lf hl
    · exact bad_lf hl
  · split at hl
    · rename_i e he;exact knV rfl (idx_sound hT he hl)
    · exact bad_lf hl
  · split at hl
    · rename_i hk;exact knV rfl (sidx_sound hT hk hl)
    · exact bad_lf hl
  · split at hl
    · rename_i hk
      split at hl
      · exact knN rfl (mkM_sound hT hk hl)
      · exact bad_lf hl
    · exact bad_lf hl
  · rename_i t m i ok
    split at hl
    · rename_i hk
      split at hl
      · rename_i hkd hz
        rcases bb_lf hl with ⟨_,hl⟩|⟨ha,hl⟩
        · exact bad_lf hl
        · rcases bb_lf hl with ⟨ho,hl⟩|⟨ho,hl⟩
          · subst ho
            rcases look_core (P:=P) (W0:=W0) hT hF.2 hk hkd ha hz (x:=m) (y:=i) hl with ⟨h1,h2⟩|⟨r,h1,h2⟩
            · exact knL rfl ⟨_,h1,h2 true⟩
            · exact knL rfl ⟨_,h1,h2 true⟩
          · subst ho
            rcases look_core (P:=P) (W0:=W0) hT hF.2 hk hkd ha hz (x:=m) (y:=i) hl with ⟨h1,h2⟩|⟨r,h1,h2⟩
            · exact knL rfl ⟨_,h1,h2 false⟩
            · exact knL rfl ⟨_,h1,h2 false⟩
      · exact bad_lf hl
    · exact bad_lf hl
  · split at hl
    · rename_i hk
      split at hl
      · rename_i hkd
        exact knM rfl (mup_sound hT hk hkd hl).1
      · exact bad_lf hl
    · exact bad_lf hl
  · split at hl
    · rename_i hk
      split at hl
      · rename_i hkd
        exact knM rfl (mup_sound hT hk hkd hl).2
      · exact bad_lf hl
    · exact bad_lf hl
  · exact knV rfl (ext_sound hl)
  · exact builtin_sound hT hB hl
  · rename_i f as ts
    rcases bb_lf hl with ⟨hb,hl⟩|⟨hb,hl⟩
    · exact knP (by simp only [kindOf,hb]) (callP_sound hk hl)
    · exact knM (by simp only [kindOf,hb]) (call_sound hk hl)
  · rename_i x as ts hne
    refine knM ?_ (callV_sound hk hl)
    cases x with
    |func f=>exact absurd rfl (hne f)
    |_=>rfl
  · exact bad_lf hl
end
end Go.X1
