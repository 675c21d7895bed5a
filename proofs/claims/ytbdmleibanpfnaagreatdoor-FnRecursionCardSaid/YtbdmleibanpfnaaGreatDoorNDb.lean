/-
  The residual functions.
-/
import Derived.Test.YtbdmleibanpfnaaGreatDoorNDa
set_option linter.all false
set_option linter.all false
set_option maxRecDepth 100000
namespace Go.X1
noncomputable def f182 (k : K) (a : A) (h : H) : R :=
 u1 a fun v1 =>
 oNd v1 fun g3 l4 =>
 oCk (Nat.beq g3 d0) (u5 l4 fun v5 v7 v9 o ab =>
 oCallP k (nat_lit 262) (w1 v5) h fun bH ac =>
 oNot bH fun n =>
 oGrd n false ac (fun bI => oLen (gsel n false v7) fun bJ =>
 bI bJ ac) fun bK ad =>
 oGrd n false ad (fun bL => oLt (.int (nat_lit 9223372036854776008)) bK fun bM =>
 bL bM ad) fun bN ae =>
 oPick n (.bool true) bN fun p =>
 oGrd p false ae (fun bO => oLt (gsel p false v9) i0 fun bP =>
 bO bP ae) fun bQ af =>
 oPick p (.bool true) bQ fun q =>
 oGrd q false af (fun bR => oLt (.int (nat_lit 9223372036854875807)) (gsel q false v9) fun bS =>
 bR bS af) fun bT ag =>
 oPick q (.bool true) bT fun r =>
 oGrd r false ag (fun bU => oLt (gsel r false o) i0 fun bV =>
 bU bV ag) fun bW ah =>
 oPick r (.bool true) bW fun s =>
 oGrd s false ah (fun bX => oLt (.int (nat_lit 9223372036854875807)) (gsel s false o) fun bY =>
 bX bY ah) fun bZ ai =>
 oPick s (.bool true) bZ fun t =>
 oGrd t false ai (fun b0 => oLt (gsel t false ab) i0 fun b1 =>
 b0 b1 ai) fun b2 aj =>
 oPick t (.bool true) b2 fun u =>
 oGrd u false aj (fun b3 => oLt (.int (nat_lit 9223372036854776008)) (gsel u false ab) fun b4 =>
 b3 b4 aj) fun b5 b6 =>
 oPick u (.bool true) b5 fun b7 =>
 oIf b7 b6
 (fun b8 => .go d1 (w1 (.bool false)) b8)
 (fun b9 => oLen v7 fun ca =>
 rThen (fun cb cc => u4 cb fun ak cd ce cf =>
 oLen ak fun cg =>
 rThen (fun cw ch => .go d1 (w1 (.bool true)) ch)
 (rBlk d4 (cLoop (fun ci cj => u6 ci fun al am an ao ap v =>
 oLt v ap fun ck =>
 oIf ck cj
 (fun w => rThen (fun cl cm => u6 cl fun cn co cp cq ar au =>
 oAdd au i1 fun av =>
 .go d0 (w6 cn co cp cq ar av) cm)
 (rBlk d5 (oIdx d4 ao v fun aw =>
 oLdN d4 aw w fun ax =>
 oNd ax fun ay x =>
 oCk (Nat.beq ay d0) (oCk (Nat.beq (llen x) d4) (u4 x fun cv i y z =>
 oLen i fun az =>
 oLt i0 az fun b =>
 oGrd b true w (fun aA => oLen (gsel b true i) fun aB =>
 aA aB w) fun aC B =>
 oGrd b true B (fun aD => oSub aC i1 fun aE =>
 aD aE B) fun aF C =>
 oGrd b true C (fun aG => oIdx d1 (gsel b true i) aF fun aH =>
 aG aH C) fun aI j =>
 oGrd b true j (fun aJ => oLd aI j fun aK =>
 aJ aK j) fun aL D =>
 oGrd b true D (fun aM => oLt (gsel b true am) aL fun aN =>
 aM aN D) fun aO E =>
 oPick b aO (.bool false) fun d =>
 oGrd d false E (fun aP => oEqI (gsel d false y) i3 fun aQ =>
 aP aQ E) fun g F =>
 oGrd (gsel d false g) true F (fun aR => oLt (gsel (gsel d false g) true an) (gsel (gsel d false g) true z) fun aS =>
 aR aS F) fun aT G =>
 oGrd d false G (fun aU => oPick (gsel d false g) aT (.bool false) fun aV =>
 aU aV G) fun aW I =>
 oPick d (.bool true) aW fun c =>
 oGrd c false I (fun aX => oEqI (gsel c false y) i4 fun aY =>
 aX aY I) fun e J =>
 oGrd (gsel c false e) true J (fun aZ => oLen (gsel (gsel c false e) true al) fun a0 =>
 aZ a0 J) fun a1 L =>
 oGrd (gsel c false e) true L (fun a2 => oLe a1 (gsel (gsel c false e) true z) fun a3 =>
 a2 a3 L) fun a4 M =>
 oGrd c false M (fun a5 => oPick (gsel c false e) a4 (.bool false) fun a6 =>
 a5 a6 M) fun a7 a8 =>
 oPick c (.bool true) a7 fun a9 =>
 oIf a9 a8
 (fun ba => .go d1 (w1 (.bool false)) ba)
 (fun bb => .go d0 (w6 al am an ao ap v) bb))))))
 (fun cr => .go d4 .nl cr)) (nat_lit 100000) (w6 cd ce cf ak cg i0) cc)))
 (rBlk d2 (cLoop (fun bc bd => u7 bc fun N O l P Q S m =>
 oLt m S fun be =>
 oIf be bd
 (fun T => rThen (fun bf bg => u7 bf fun bh bi bj bk bl bm bn =>
 oAdd bn i1 fun bo =>
 .go d0 (w7 bh bi bj bk bl bm bo) bg)
 (rBlk d3 (oIdx d3 Q m fun bp =>
 oLdN d3 bp T fun bq =>
 oNd bq fun br U =>
 oCk (Nat.beq br d0) (oCk (Nat.beq (llen U) d3) (u3 U fun V W X =>
 oCallP k (nat_lit 255) (w1 (.nd d0 (w3 V W X))) T fun bs Y =>
 oNot bs fun f =>
 oGrd f false Y (fun bt => oCallP k (nat_lit 263) (w2 (gsel f false (.nd d0 (w3 V W X))) (gsel f false l)) Y fun bu bv =>
 bt bu bv) fun bw Z =>
 oGrd f false Z (fun bx => oNot bw fun bz =>
 bx bz Z) fun bA bB =>
 oPick f (.bool true) bA fun bC =>
 oIf bC bB
 (fun bD => .go d1 (w1 (.bool false)) bD)
 (fun bE => .go d0 (w7 N O l P Q S m) bE))))))
 (fun bF => .go d2 (w4 N O l P) bF)) (nat_lit 100000) (w7 v5 v7 v9 o v7 ca i0) b9))))
noncomputable def f183 (k : K) (a : A) (h : H) : R :=
 u1 a fun b =>
 oApp d1 z3 b h fun c d =>
 .go d1 (w1 c) d
noncomputable def f184 (k : K) (a : A) (h : H) : R :=
 u1 a fun v1 =>
 oNd v1 fun g3 l4 =>
 oCk (Nat.beq g3 d0) (u5 l4 fun v5 s t c d =>
 oCall k (nat_lit 264) (w1 v5) h fun e u =>
 oOne e (oOne t (oOne c (oOne d (oLen s fun v =>
 rThen (fun w x => u5 w fun y z B C D =>
 .go d1 (w1 (.nd d0 (w5 y z B C D))) x)
 (rBlk d2 (cLoop (fun E F => u8 E fun f g i j l m n b =>
 oLt b n fun G =>
 oIf G F
 (fun o => rThen (fun I J => u8 I fun L M N O P Q S T =>
 oAdd T i1 fun U =>
 .go d0 (w8 L M N O P Q S U) J)
 (rBlk d3 (oIdx d3 m b fun V =>
 oLdN d3 V o fun W =>
 oNd W fun X p =>
 oCk (Nat.beq X d0) (oCk (Nat.beq (llen p) d3) (u3 p fun Y Z aa =>
 oCall k (nat_lit 257) (w1 (.nd d0 (w3 Y Z aa))) o fun ab ac =>
 oNd ab fun ad q =>
 oCk (Nat.beq ad d0) (oCk (Nat.beq (llen q) d3) (oBSl d3 d1 (lapp q .nl) ac fun ae af =>
 oApp d3 g ae af fun r ag =>
 oOne r (.go d0 (w8 f r i j l m n b) ag))))))))
 (fun ah => .go d2 (w5 f g i j l) ah)) (nat_lit 100000) (w8 e z3 t c d s v i0) u)))))))
noncomputable def f185 (k : K) (a : A) (h : H) : R :=
 u1 a fun E =>
 oNd E fun F G =>
 oCk (Nat.beq F d0) (u10 G fun e I J f g i j l m n =>
 oCall k (nat_lit 183) (w1 I) h fun b o =>
 oCall k (nat_lit 112) (w1 (.nd d0 (w8 J f g i j l m n))) o fun p q =>
 oOne e (oOne b (oNd p fun r c =>
 oCk (Nat.beq r d0) (oCk (Nat.beq (llen c) d8) (oNd (.nd d0 (.cn e (.cn b (lapp c .nl)))) fun s d =>
 oCk (Nat.beq s d0) (oCk (Nat.beq (llen d) d10) (u10 d fun t u v w x y z B C D =>
 .go d1 (w1 (.nd d0 (w10 t u v w x y z B C D))) q)))))))
noncomputable def f186 (k : K) (a : A) (h : H) : R :=
 u2 a fun c n =>
 oDeref c fun o =>
 oFld d0 o fun p =>
 oFld d2 p fun q =>
 oLd q h fun r =>
 oCallP k (nat_lit 265) (w2 r n) h fun b d =>
 oEqI b i0 fun e =>
 oIf e d
 (fun f => .go d1 (w1 (.nd d1 (w2 i0 i8))) f)
 (fun g => oDeref c fun i =>
 oFld d0 i fun j =>
 oFld d2 j fun l =>
 oSt l b g fun m =>
 .go d1 (w1 (.nd d1 (w2 b i0))) m)
noncomputable def f187 (k : K) (a : A) (h : H) : R :=
 u4 a fun v1 v3 v5 v7 =>
 oNd v5 fun g9 bd =>
 oCk (Nat.beq g9 d0) (u4 bd fun bU L bV bW =>
 oLen L fun be =>
 rThen (fun bX bf => .go d1 (w1 i0) bf)
 (rBlk d2 (cLoop (fun bg bh => u6 bg fun bi M bj N O u =>
 oLt u O fun bk =>
 oIf bk bh
 (fun v => rThen (fun bl bm => u6 bl fun bn bo bp bq br bs =>
 oAdd bs i1 fun bt =>
 .go d0 (w6 bn bo bp bq br bt) bm)
 (rBlk d3 (oIdx d1 N u fun bu =>
 oLd bu v fun bv =>
 oDeref M fun bw =>
 oFld d6 bw fun bx =>
 oLd bx v fun P =>
 oLen P fun bz =>
 rThen (fun bA bB => u6 bA fun bC bD bE bF bG bH =>
 .go d0 (w6 bC bD bE bF bG bH) bB)
 (rBlk d4 (cLoop (fun bI bJ => u10 bI fun b n c o p q r s t i =>
 oLt i t fun bK =>
 oIf bK bJ
 (fun Q => rThen (fun bL S => u10 bL fun T U V W X Y Z aa ab ac =>
 oAdd ac i1 fun ad =>
 .go d0 (w10 T U V W X Y Z aa ab ad) S)
 (rBlk d5 (oIdx d4 s i fun ae =>
 oLdN d4 ae Q fun af =>
 oNd af fun ag w =>
 oCk (Nat.beq ag d0) (oCk (Nat.beq (llen w) d4) (u4 w fun ah d j l =>
 oNeS ah o fun ai =>
 oIf ai Q
 (fun aj => .go d5 (w10 b n c o p q r s t i) aj)
 (fun ak => oOne c (oBSl d1 d1 (w1 c) ak fun m x =>
 oOne d (oOne m (oDeref b fun al =>
 oFld d0 al fun am =>
 oFld d0 am fun an =>
 oLd an x fun ao =>
 oCall k (nat_lit 191) (w2 ao (.nd d0 (w5 i1 i0 d m z3))) x fun y z =>
 oExt d0 y fun ap =>
 oExt d1 y fun aq =>
 oNd ap fun ar B =>
 oCk (Nat.beq ar d0) (oCk (Nat.beq (llen B) d4) (u4 B fun bT au av aw =>
 oEqI aq i1 fun e =>
 oGrd e true z (fun ax => oLen (gsel e true au) fun ay =>
 ax ay z) fun az C =>
 oGrd e true C (fun aA => oLt i0 az fun aB =>
 aA aB C) fun aC D =>
 oPick e aC (.bool false) fun f =>
 oGrd f true D (fun aD => oEqI (gsel f true av) (gsel f true j) fun aE =>
 aD aE D) fun aF E =>
 oPick f aF (.bool false) fun g =>
 oGrd g true E (fun aG => oEqI (gsel g true aw) (gsel g true l) fun aH =>
 aG aH E) fun aI aJ =>
 oPick g aI (.bool false) fun aK =>
 oIf aK aJ
 (fun aL => .go d5 (w10 b n c o p q r s t i) aL)
 (fun F => oDeref b fun aM =>
 oFld d0 aM fun aN =>
 oFld d0 aN fun aO =>
 oLd aO F fun aP =>
 oCallP k (nat_lit 256) (w3 aP d m) F fun aQ aR =>
 oIf aQ aR
 (fun aS => .go d1 (w1 i4) aS)
 (fun G => oDeref b fun aT =>
 oFld d0 aT fun aU =>
 oFld d0 aU fun aV =>
 oLd aV G fun aW =>
 oLen aW fun aX =>
 oLe (.int (nat_lit 9223372036854776808)) aX fun aY =>
 oIf aY G
 (fun aZ => .go d1 (w1 i8) aZ)
 (fun I => oDeref b fun a0 =>
 oFld d0 a0 fun a1 =>
 oFld d0 a1 fun a2 =>
 oLd a2 I fun a3 =>
 oOne c (oBSl d1 d1 (w1 c) I fun J a4 =>
 oOne d (oOne J (oOne j (oOne l (oBSl d4 d1 (w4 d J j l) a4 fun a5 a6 =>
 oApp d4 a3 a5 a6 fun a7 a8 =>
 oDeref b fun a9 =>
 oFld d0 a9 fun ba =>
 oFld d0 ba fun bb =>
 oSt bb a7 a8 fun bc =>
 .go d0 (w10 b n c o p q r s t i) bc)))))))))))))))))))
 (fun bM => .go d4 (w6 b n c p q r) bM)) (nat_lit 100000) (w10 bi M bj bv N O u P bz i0) v)))))
 (fun bN => .go d2 .nl bN)) (nat_lit 100000) (w6 v1 v3 v7 L be i0) h)))
noncomputable def f188 (k : K) (a : A) (h : H) : R :=
 u2 a fun s c =>
 oNd s fun t u =>
 oCk (Nat.beq t d0) (u5 u fun v w d e f =>
 oOne c (oNew (w1 c) h fun g i =>
 oCall k (nat_lit 266) (w2 (.nd d0 (w5 v w d e f)) (.nd (nat_lit 367) (w1 g))) i fun j l =>
 oNd j fun m b =>
 oCk (Nat.beq m d0) (oCk (Nat.beq (llen b) d5) (u5 b fun n o p q r =>
 .go d1 (w1 (.nd d0 (w5 n o p q r))) l))))
noncomputable def f189 (k : K) (a : A) (h : H) : R :=
 u2 a fun v1 v3 =>
 oApp d5 z3 v3 h fun v5 h6 =>
 rThen (fun r7 h8 => u1 r7 fun v9 =>
 .go d1 (w1 (.nd d1 (w2 v9 i0))) h8)
 (rBlk d2 (cLoop (fun bJ bK => u3 bJ fun d q r =>
 oLen r fun bL =>
 oLt i0 bL fun bM =>
 oIf bM bK
 (fun G => rThen (fun bN bO => u3 bN fun bP bQ bR =>
 .go d0 (w3 bP bQ bR) bO)
 (rBlk d3 (oIdx d5 r i0 fun bS =>
 oLdN d5 bS G fun bT =>
 oNd bT fun bU I =>
 oCk (Nat.beq bU d0) (oCk (Nat.beq (llen I) d5) (u5 I fun g i j l m =>
 oLen r fun bV =>
 oSl d5 r i1 bV fun t =>
 oCall k (nat_lit 269) (w1 d) G fun J bW =>
 oNeI J i0 fun bX =>
 oIf bX bW
 (fun bY => .go d1 (w1 (.nd d1 (w2 z3 J))) bY)
 (fun bZ => oCallP k (nat_lit 270) (w2 d (.nd d0 (w5 g i j l m))) bZ fun L b0 =>
 oLe i0 L fun b1 =>
 oIf b1 b0
 (fun b2 => oCall k (nat_lit 271) (w3 d (.nd d0 (w5 g i j l m)) L) b2 fun M b3 =>
 oExt d0 M fun b4 =>
 oExt d1 M fun N =>
 oNd b4 fun b5 O =>
 oCk (Nat.beq b5 d0) (oCk (Nat.beq (llen O) d5) (u5 O fun b6 b7 b8 b9 ca =>
 oNeI N i0 fun cb =>
 oIf cb b3
 (fun cc => .go d1 (w1 (.nd d1 (w2 z3 N))) cc)
 (fun cd => oBSl d5 d1 (w5 b6 b7 b8 b9 ca) cd fun ce cf =>
 oApp d5 ce t cf fun cg ch =>
 .go d3 (w3 d q cg) ch))))
 (fun ci => oCallP k (nat_lit 272) (w2 d (.nd d0 (w5 g i j l m))) ci fun P cj =>
 oLe i0 P fun ck =>
 rThen (fun cl cm => u9 cl fun Q S T U c e s f n =>
 rThen (fun V W => u3 V fun X Y Z =>
 .go d0 (w3 X Y Z) W)
 (rBlk d4 (oEqS n (.str d5 (nat_lit 474214786402)) fun aa =>
 rThen (fun ab ac => u3 ab fun ad ae af =>
 .go d0 (w3 ad ae af) ac)
 (oIf aa cm
 (fun ag => oLen c fun ah =>
 oSl d5 c i1 ah fun ai =>
 oApp d5 z3 ai ag fun aj ak =>
 oApp d5 aj f ak fun al am =>
 .go d0 (w3 e s al) am)
 (fun an => oEqS n (.str d6 (nat_lit 111524889126244)) fun ao =>
 rThen (fun ap aq => u3 ap fun ar au av =>
 .go d0 (w3 ar au av) aq)
 (oIf ao an
 (fun aw => oCall k (nat_lit 274) (w2 e (.nd d0 (w5 Q S T U c))) aw fun u ax =>
 oExt d0 u fun ay =>
 oExt d1 u fun v =>
 oNd ay fun az w =>
 oCk (Nat.beq az d0) (oCk (Nat.beq (llen w) d9) (u9 w fun aA aB aC aD aE aF aG aH aI =>
 oNeI v i0 fun aJ =>
 oIf aJ ax
 (fun aK => .go d1 (w1 (.nd d1 (w2 z3 v))) aK)
 (fun aL => oBSl d9 d1 (w9 aA aB aC aD aE aF aG aH aI) aL fun aM aN =>
 oApp d9 s aM aN fun aO aP =>
 .go d0 (w3 e aO f) aP))))
 (fun aQ => oEqS n (.str d13 (nat_lit 9537540304760134829668875789668)) fun aR =>
 rThen (fun aS aT => u3 aS fun aU aV aW =>
 .go d0 (w3 aU aV aW) aT)
 (oIf aR aQ
 (fun x => oLen c fun aX =>
 oNeI aX i3 fun b =>
 oGrd b false x (fun aY => oIdx d5 (gsel b false c) i1 fun aZ =>
 aY aZ x) fun a0 y =>
 oGrd b false y (fun a1 => oFld d0 a0 fun a2 =>
 a1 a2 y) fun a3 o =>
 oGrd b false o (fun a4 => oLd a3 o fun a5 =>
 a4 a5 o) fun a6 z =>
 oGrd b false z (fun a7 => oNeI a6 i1 fun a8 =>
 a7 a8 z) fun a9 ba =>
 oPick b (.bool true) a9 fun bb =>
 oIf bb ba
 (fun bc => .go d1 (w1 (.nd d1 (w2 z3 i1))) bc)
 (fun p => oDeref e fun bd =>
 oFld d0 bd fun be =>
 oFld d0 be fun bf =>
 oLd bf p fun bg =>
 oIdx d5 c i2 fun bh =>
 oLdN d5 bh p fun bi =>
 oCall k (nat_lit 176) (w2 bg bi) p fun B bj =>
 oExt d0 B fun bk =>
 oExt d1 B fun bl =>
 oNd bk fun bm C =>
 oCk (Nat.beq bm d0) (oCk (Nat.beq (llen C) d3) (u3 C fun bn bo bp =>
 oNot bl fun bq =>
 oIf bq bj
 (fun br => .go d1 (w1 (.nd d1 (w2 z3 i1))) br)
 (fun D => oIdx d5 c i1 fun bs =>
 oLdN d5 bs D fun bt =>
 oCall k (nat_lit 266) (w2 bt (.nd (nat_lit 375) .nl)) D fun bu bv =>
 oCall k (nat_lit 178) (w3 e bu (.nd d0 (w3 bn bo bp))) bv fun E bw =>
 oNeI E i0 fun bx =>
 oIf bx bw
 (fun bz => .go d1 (w1 (.nd d1 (w2 z3 E))) bz)
 (fun bA => .go d0 (w3 e s f) bA))))))
 (fun bB => oBSl d9 d1 (w9 (.bool false) i0 Q S T U c z3 z3) bB fun bC bD =>
 oApp d9 s bC bD fun bE bF =>
 .go d0 (w3 e bE f) bF)))))))))
 (oIf ck cj
 (fun cn => oCall k (nat_lit 273) .nl cn fun bG F =>
 oIdx d1 bG P fun bH =>
 oLd bH F fun bI =>
 .go d0 (w9 g i j l m d q t bI) F)
 (fun co => .go d0 (w9 g i j l m d q t zs) co)))))))))
 (fun cp => .go d2 (w1 q) cp)) (nat_lit 100000) (w3 v1 z3 v5) h6))
noncomputable def f190 (k : K) (a : A) (h : H) : R :=
 u2 a fun v1 v3 =>
 oLen v3 fun v5 =>
 rThen (fun r6 h7 => u2 r6 fun v8 aS =>
 .go d1 (w1 (.nd d1 (w3 v8 aS i0))) h7)
 (rBlk d2 (cLoop (fun aT aU => u6 aT fun b e f g i c =>
 oLt c i fun aV =>
 oIf aV aU
 (fun r => rThen (fun aW aX => u6 aW fun aY aZ a0 a1 a2 a3 =>
 oAdd a3 i1 fun a4 =>
 .go d0 (w6 aY aZ a0 a1 a2 a4) aX)
 (rBlk d3 (oIdx d9 g c fun a5 =>
 oLdN d9 a5 r fun a6 =>
 oNd a6 fun a7 s =>
 oCk (Nat.beq a7 d0) (oCk (Nat.beq (llen s) d9) (u9 s fun t u a8 a9 ba bb bc bd v =>
 oNil d3 d10 (nat_lit 1000) true v fun be =>
 rThen (fun bf bg => u17 bf fun bh d w x y z B C D E F G I J L j l =>
 oNeI J i0 fun M =>
 oIf M bg
 (fun N => .go d1 (w1 (.nd d1 (w3 z3 z3 J))) N)
 (fun O => rThen (fun P Q => u14 P fun S T U V W X Y Z aa ab ac ad ae af =>
 oBSl d8 d1 (w8 S T U V W X Y Z) Q fun ag ah =>
 oApp d8 ab ag ah fun ai aj =>
 .go d0 (w6 aa ai ac ad ae af) aj)
 (oIf bh O
 (fun ak => oOne d (oBSl d1 d1 (w1 d) ak fun al am =>
 oApp d1 I al am fun an ao =>
 oBSl d8 d1 (w8 w x y z B C D E) ao fun m ap =>
 oOne d (oOne m (.go d0 (w14 i4 d z3 i0 i0 zs z3 m F G an L j l) ap))))
 (fun aq => .go d0 (w14 w x y z B C D E F G I L j l) aq))))
 (oIf be r
 (fun bi => oCall k (nat_lit 276) (w4 b i5 bd v) bi fun n ar =>
 oExt d0 n fun au =>
 oExt d1 n fun av =>
 oNd au fun aw o =>
 oCk (Nat.beq aw d0) (oCk (Nat.beq (llen o) d8) (u8 o fun ax ay az aA aB aC aD aE =>
 .go d0 (w17 t u ax ay az aA aB aC aD aE b e f av g i c) ar)))
 (fun bj => oCall k (nat_lit 277) (w2 b (.nd d0 (w5 a8 a9 ba bb bc))) bj fun p aF =>
 oExt d0 p fun aG =>
 oExt d1 p fun aH =>
 oNd aG fun aI q =>
 oCk (Nat.beq aI d0) (oCk (Nat.beq (llen q) d8) (u8 q fun aJ aK aL aM aN aO aP aQ =>
 .go d0 (w17 t u aJ aK aL aM aN aO aP aQ b e f aH g i c) aF)))))))))
 (fun bk => .go d2 (w2 e f) bk)) (nat_lit 100000) (w6 v1 z3 z3 v3 v5 i0) h))
noncomputable def f191 (k : K) (a : A) (h : H) : R :=
 u2 a fun X v3 =>
 oNd v3 fun g5 l6 =>
 oCk (Nat.beq g5 d0) (u5 l6 fun v7 v9 bu bv cf =>
 oLen X fun bw =>
 rThen (fun bx bz => u4 bx fun bA bB s N =>
 oLt N i0 fun bC =>
 oIf bC bz
 (fun bD => .go d1 (w1 (.nd d1 (w2 (.nd d0 (w4 zs z3 i0 i0)) i0))) bD)
 (fun bE => oLen s fun bF =>
 rThen (fun bG O => u2 bG fun bH bI =>
 oIdx d4 bH bI fun bJ =>
 oLdN d4 bJ O fun bK =>
 oCall k (nat_lit 279) (w1 bK) O fun bL bM =>
 oNd bL fun bN P =>
 oCk (Nat.beq bN d0) (oCk (Nat.beq (llen P) d4) (u4 P fun bO bP bQ bR =>
 .go d1 (w1 (.nd d1 (w2 (.nd d0 (w4 bO bP bQ bR)) i1))) bM)))
 (rBlk d4 (cLoop (fun bS bT => u7 bS fun Q S t u T U v =>
 oLt v U fun bU =>
 oIf bU bT
 (fun w => rThen (fun bV bW => u7 bV fun bX bY bZ b0 b1 b2 b3 =>
 oAdd b3 i1 fun b4 =>
 .go d0 (w7 bX bY bZ b0 b1 b2 b4) bW)
 (rBlk d5 (oIdx d4 T v fun b5 =>
 oLdN d4 b5 w fun b6 =>
 oNd b6 fun b7 V =>
 oCk (Nat.beq b7 d0) (oCk (Nat.beq (llen V) d4) (u4 V fun b8 W cg ch =>
 oEqS b8 Q fun f =>
 oGrd f true w (fun Y => oCallP k (nat_lit 278) (w2 (gsel f true W) (gsel f true S)) w fun Z aa =>
 Y Z aa) fun ab x =>
 oPick f ab (.bool false) fun d =>
 oGrd d true x (fun ac => oIdx d4 (gsel d true t) (gsel d true u) fun ad =>
 ac ad x) fun ae y =>
 oGrd d true y (fun af => oFld d1 ae fun ag =>
 af ag y) fun ah n =>
 oGrd d true n (fun ai => oLd ah n fun aj =>
 ai aj n) fun ak z =>
 oGrd d true z (fun al => oCallP k (nat_lit 278) (w2 (gsel d true W) ak) z fun am an =>
 al am an) fun ao B =>
 oGrd d true B (fun ap => oNot ao fun aq =>
 ap aq B) fun ar au =>
 oPick d ar (.bool false) fun av =>
 oIf av au
 (fun aw => .go d1 (w1 (.nd d1 (w2 (.nd d0 (w4 zs z3 i0 i0)) i2))) aw)
 (fun ax => .go d0 (w7 Q S t u T U v) ax))))))
 (fun b9 => .go d4 (w2 t u) b9)) (nat_lit 100000) (w7 bA bB s N s bF i0) bE))))
 (rBlk d2 (cLoop (fun ay az => u7 ay fun g i j l o p e =>
 oLt e p fun aA =>
 oIf aA az
 (fun q => rThen (fun aB aC => u7 aB fun aD aE aF aG aH aI aJ =>
 oAdd aJ i1 fun aK =>
 .go d0 (w7 aD aE aF aG aH aI aK) aC)
 (rBlk d3 (oIdx d4 o e fun aL =>
 oLdN d4 aL q fun aM =>
 oNd aM fun aN C =>
 oCk (Nat.beq aN d0) (oCk (Nat.beq (llen C) d4) (u4 C fun aO D cd ce =>
 oEqS aO g fun m =>
 oGrd m true q (fun aP => oCallP k (nat_lit 278) (w2 (gsel m true D) (gsel m true i)) q fun aQ aR =>
 aP aQ aR) fun aS E =>
 oPick m aS (.bool false) fun b =>
 oGrd b true E (fun aT => oLt (gsel b true l) i0 fun aU =>
 aT aU E) fun c F =>
 oGrd (gsel b true c) false F (fun aV => oLen (gsel (gsel b true c) false D) fun aW =>
 aV aW F) fun aX G =>
 oGrd (gsel b true c) false G (fun aY => oIdx d4 (gsel (gsel b true c) false j) (gsel (gsel b true c) false l) fun aZ =>
 aY aZ G) fun a0 I =>
 oGrd (gsel b true c) false I (fun a1 => oFld d1 a0 fun a2 =>
 a1 a2 I) fun a3 r =>
 oGrd (gsel b true c) false r (fun a4 => oLd a3 r fun a5 =>
 a4 a5 r) fun a6 J =>
 oGrd (gsel b true c) false J (fun a7 => oLen a6 fun a8 =>
 a7 a8 J) fun a9 L =>
 oGrd (gsel b true c) false L (fun ba => oLt a9 aX fun bb =>
 ba bb L) fun bc M =>
 oGrd b true M (fun bd => oPick (gsel b true c) (.bool true) bc fun be =>
 bd be M) fun bf bg =>
 oPick b bf (.bool false) fun bh =>
 rThen (fun bi bj => u7 bi fun bk bl bm bn bo bp bq =>
 .go d0 (w7 bk bl bm bn bo bp bq) bj)
 (oIf bh bg
 (fun br => .go d0 (w7 g i j e o p e) br)
 (fun bs => .go d0 (w7 g i j l o p e) bs)))))))
 (fun bt => .go d2 (w4 g i j l) bt)) (nat_lit 100000) (w7 bu bv X (.int (nat_lit 9223372036854775807)) X bw i0) h)))
noncomputable def f192 (k : K) (a : A) (h : H) : R :=
 u2 a fun Q f =>
 oNd Q fun S T =>
 oCk (Nat.beq S d0) (u10 T fun U g i j l m n o p q =>
 oCallP k (nat_lit 179) (w1 U) h fun r c =>
 oNot r fun b =>
 oGrd b false c (fun s => oOne (gsel b false f) (oOne (gsel b false g) (oBSl d1 d2 (w2 (gsel b false f) (gsel b false g)) c fun t u =>
 s t u))) fun v d =>
 oGrd b false d (fun w => oCallP k (nat_lit 86) (w1 v) d fun x y =>
 w x y) fun z e =>
 oGrd b false e (fun B => oNot z fun C =>
 B C e) fun D E =>
 oPick b (.bool true) D fun F =>
 oIf F E
 (fun G => .go d1 (w1 (.bool false)) G)
 (fun I => oCall k (nat_lit 183) (w1 f) I fun J L =>
 oApp d1 J g L fun M N =>
 oCallP k (nat_lit 40) (w2 (.nd d0 (w8 i j l m n o p q)) M) N fun O P =>
 .go d1 (w1 O) P))
noncomputable def f193 (k : K) (a : A) (h : H) : R :=
 u1 a fun S =>
 oNd S fun T U =>
 oCk (Nat.beq T d0) (u8 U fun Z v7 v9 V W X Y c =>
 oLen c fun j =>
 rThen (fun l m => u1 l fun n =>
 oAdd n i1 fun o =>
 .go d1 (w1 o) m)
 (rBlk d2 (cLoop (fun p q => u4 p fun d e f b =>
 oLt b f fun r =>
 oIf r q
 (fun g => rThen (fun s t => u4 s fun u v w x =>
 oAdd x i1 fun y =>
 .go d0 (w4 u v w y) t)
 (rBlk d3 (oIdx d8 e b fun z =>
 oLdN d8 z g fun B =>
 oNd B fun C i =>
 oCk (Nat.beq C d0) (oCk (Nat.beq (llen i) d8) (u8 i fun D E F G I J L M =>
 oCallP k (nat_lit 193) (w1 (.nd d0 (w8 D E F G I J L M))) g fun N O =>
 oMax d N fun P =>
 .go d0 (w4 P e f b) O)))))
 (fun Q => .go d2 (w1 d) Q)) (nat_lit 100000) (w4 i0 c j i0) h)))
noncomputable def f194 (k : K) (a : A) (h : H) : R :=
 u1 a fun Q =>
 oNd Q fun S T =>
 oCk (Nat.beq S d0) (u8 T fun Y Z v9 U V W X c =>
 oLen c fun j =>
 rThen (fun l m => u1 l fun n =>
 .go d1 (w1 n) m)
 (rBlk d2 (cLoop (fun o p => u4 o fun d e f b =>
 oLt b f fun q =>
 oIf q p
 (fun g => rThen (fun r s => u4 r fun t u v w =>
 oAdd w i1 fun x =>
 .go d0 (w4 t u v x) s)
 (rBlk d3 (oIdx d8 e b fun y =>
 oLdN d8 y g fun z =>
 oNd z fun B i =>
 oCk (Nat.beq B d0) (oCk (Nat.beq (llen i) d8) (u8 i fun C D E F G I J L =>
 oCallP k (nat_lit 194) (w1 (.nd d0 (w8 C D E F G I J L))) g fun M N =>
 oAdd d M fun O =>
 .go d0 (w4 O e f b) N)))))
 (fun P => .go d2 (w1 d) P)) (nat_lit 100000) (w4 i1 c j i0) h)))
noncomputable def f195 (k : K) (a : A) (h : H) : R :=
 u1 a fun g =>
 oNd g fun i j =>
 oCk (Nat.beq i d0) (u8 j fun l q r m n o p b =>
 oEqI l i8 fun c =>
 oIf c h
 (fun d => oLen b fun e =>
 .go d1 (w1 e) d)
 (fun f => .go d1 (w1 i1) f))
noncomputable def f197 (k : K) (a : A) (h : H) : R :=
 u3 a fun b i j =>
 oDeref b fun l =>
 oFld d1 l fun m =>
 oFld d0 m fun n =>
 oSt n i h fun c =>
 oDeref b fun d =>
 oFld d1 d fun e =>
 oFld d1 e fun f =>
 oSt f j c fun g =>
 .go d1 (w1 (.nd d1 .nl)) g
noncomputable def f198 (k : K) (a : A) (h : H) : R :=
 u2 a fun j l =>
 oNd j fun m n =>
 oCk (Nat.beq m d0) (u3 n fun o p d =>
 oCall k (nat_lit 283) (w3 z3 (.nd d0 (w3 o p d)) l) h fun b c =>
 oLen b fun e =>
 oMin e (.int (nat_lit 9223372036854775928)) fun f =>
 oSl d1 b i0 f fun g =>
 oB2S g c fun i =>
 .go d1 (w1 i) c)
noncomputable def f200 (k : K) (a : A) (h : H) : R :=
 u2 a fun g x =>
 oLen g fun y =>
 rThen (fun D z => .go d1 (w1 (.bool false)) z)
 (rBlk d2 (cLoop (fun B C => u4 B fun c d e b =>
 oLt b e fun i =>
 oIf i C
 (fun f => rThen (fun j l => u4 j fun m n o p =>
 oAdd p i1 fun q =>
 .go d0 (w4 m n o q) l)
 (rBlk d3 (oIdx d1 d b fun r =>
 oLd r f fun s =>
 oEqI s c fun t =>
 oIf t f
 (fun u => .go d1 (w1 (.bool true)) u)
 (fun v => .go d0 (w4 c d e b) v))))
 (fun w => .go d2 .nl w)) (nat_lit 100000) (w4 x g y i0) h))
noncomputable def f201 (k : K) (a : A) (h : H) : R :=
 u1 a fun P =>
 oNd P fun Q S =>
 oCk (Nat.beq Q d0) (u5 S fun T l m n o =>
 oCallP k (nat_lit 179) (w1 T) h fun c d =>
 oGrd c true d (fun p => oOne (gsel c true l) (oOne (gsel c true m) (oBSl d1 d2 (w2 (gsel c true l) (gsel c true m)) d fun q r =>
 p q r))) fun s e =>
 oGrd c true e (fun t => oCallP k (nat_lit 86) (w1 s) e fun u v =>
 t u v) fun w f =>
 oPick c w (.bool false) fun b =>
 oGrd b true f (fun x => oLen (gsel b true l) fun y =>
 x y f) fun z g =>
 oGrd b true g (fun B => oLen (gsel b true m) fun C =>
 B C g) fun D i =>
 oGrd b true i (fun E => oAdd z D fun F =>
 E F i) fun G j =>
 oGrd b true j (fun I => oCallP k (nat_lit 44) (w2 (gsel b true (.nd d0 (w2 n o))) G) j fun J L =>
 I J L) fun M N =>
 oPick b M (.bool false) fun O =>
 .go d1 (w1 O) N)
noncomputable def f202 (k : K) (a : A) (h : H) : R :=
 u1 a fun e =>
 oSLen e fun v3 =>
 oCallP k (nat_lit 56) (w3 v3 i1 i16) h fun v4 s =>
 oNot v4 fun i =>
 oGrd i false s (fun k7 => oSIdx (gsel i false e) i0 fun t =>
 k7 t s) fun v8 u =>
 oGrd i false u (fun v => oCallP k (nat_lit 285) (w1 v8) u fun w x =>
 v w x) fun y j =>
 oPick i (.bool true) y fun b =>
 oGrd b false j (fun z => oSIdx (gsel b false e) i0 fun B =>
 z B j) fun C l =>
 oGrd b false l (fun D => bEq C (.byt (nat_lit 45)) fun E =>
 D E l) fun c m =>
 oGrd (gsel b false c) true m (fun F => oSLen (gsel (gsel b false c) true e) fun G =>
 F G m) fun I n =>
 oGrd (gsel b false c) true n (fun J => oLt i1 I fun L =>
 J L n) fun M o =>
 oGrd b false o (fun N => oPick (gsel b false c) M (.bool false) fun O =>
 N O o) fun d p =>
 oGrd (gsel b false d) true p (fun P => oSIdx (gsel (gsel b false d) true e) i1 fun Q =>
 P Q p) fun S q =>
 oGrd (gsel b false d) true q (fun T => oCallP k (nat_lit 285) (w1 S) q fun U V =>
 T U V) fun W r =>
 oGrd b false r (fun X => oPick (gsel b false d) W (.bool false) fun Y =>
 X Y r) fun Z aa =>
 oPick b (.bool true) Z fun ab =>
 oIf ab aa
 (fun ac => .go d1 (w1 (.bool false)) ac)
 (fun ad => rThen (fun aC ae => .go d1 (w1 (.bool true)) ae)
 (rBlk d2 (cLoop (fun af ag => u2 af fun f g =>
 oSLen f fun ah =>
 oLt g ah fun ai =>
 oIf ai ag
 (fun aj => rThen (fun ak al => u2 ak fun am an =>
 oAdd an i1 fun ao =>
 .go d0 (w2 am ao) al)
 (rBlk d3 (oSIdx f g fun ap =>
 oCallP k (nat_lit 286) (w1 ap) aj fun aq ar =>
 oNot aq fun au =>
 oIf au ar
 (fun av => .go d1 (w1 (.bool false)) av)
 (fun aw => .go d0 (w2 f g) aw))))
 (fun ax => .go d2 .nl ax)) (nat_lit 100000) (w2 e i0) ad)))
noncomputable def f203 (k : K) (a : A) (h : H) : R :=
 u2 a fun g i =>
 oLen g fun F =>
 oLen i fun G =>
 oNeI F G fun I =>
 oIf I h
 (fun J => .go d1 (w1 (.bool false)) J)
 (fun L => oLen g fun j =>
 rThen (fun M l => .go d1 (w1 (.bool true)) l)
 (rBlk d2 (cLoop (fun m n => u4 m fun d e f b =>
 oLt b f fun o =>
 oIf o n
 (fun c => rThen (fun p q => u4 p fun r s t u =>
 oAdd u i1 fun v =>
 .go d0 (w4 r s t v) q)
 (rBlk d3 (oIdx d1 d b fun w =>
 oLd w c fun x =>
 oIdx d1 e b fun y =>
 oLd y c fun z =>
 oNeI x z fun B =>
 oIf B c
 (fun C => .go d1 (w1 (.bool false)) C)
 (fun D => .go d0 (w4 d e f b) D))))
 (fun E => .go d2 .nl E)) (nat_lit 100000) (w4 g i j i0) L)))
noncomputable def f204 (k : K) (a : A) (h : H) : R :=
 u1 a fun n =>
 oNd n fun o p =>
 oCk (Nat.beq o d0) (u5 p fun c q r d e =>
 oEqI c i1 fun b =>
 oGrd b true h (fun f => oCallP k (nat_lit 28) (w1 (gsel b true (.nd d0 (w5 c q r d e)))) h fun g i =>
 f g i) fun j l =>
 oPick b j (.bool false) fun m =>
 .go d1 (w1 m) l)
noncomputable def f205 (k : K) (a : A) (h : H) : R :=
 u2 a fun n Y =>
 oNd Y fun Z l6 =>
 oCk (Nat.beq Z d0) (u5 l6 fun v7 v9 o p q =>
 oLen n fun r =>
 rThen (fun ad s => .go d1 (w1 (.bool false)) s)
 (rBlk d2 (cLoop (fun t u => u8 t fun c d e f g i j b =>
 oLt b j fun v =>
 oIf v u
 (fun l => rThen (fun w x => u8 w fun y z B C D E F G =>
 oAdd G i1 fun I =>
 .go d0 (w8 y z B C D E F I) x)
 (rBlk d3 (oIdx d5 i b fun J =>
 oLdN d5 J l fun L =>
 oNd L fun M m =>
 oCk (Nat.beq M d0) (oCk (Nat.beq (llen m) d5) (u5 m fun N O P Q S =>
 oCallP k (nat_lit 287) (w2 (.nd d0 (w5 N O P Q S)) (.nd d0 (w5 c d e f g))) l fun T U =>
 oIf T U
 (fun V => .go d1 (w1 (.bool true)) V)
 (fun W => .go d0 (w8 c d e f g i j b) W))))))
 (fun X => .go d2 .nl X)) (nat_lit 100000) (w8 v7 v9 o p q n r i0) h)))
noncomputable def f206 (k : K) (a : A) (h : H) : R :=
 u2 a fun G v3 =>
 oNd v3 fun g5 l6 =>
 oCk (Nat.beq g5 d0) (u5 l6 fun v7 v9 I J L =>
 oLen G fun M =>
 rThen (fun av N => .go d1 (w1 (.int (nat_lit 9223372036854775807))) N)
 (rBlk d2 (cLoop (fun O P => u8 O fun d e f g i l m b =>
 oLt b m fun Q =>
 oIf Q P
 (fun n => rThen (fun S T => u8 S fun U V W X Y Z aa ab =>
 oAdd ab i1 fun ac =>
 .go d0 (w8 U V W X Y Z aa ac) T)
 (rBlk d3 (oIdx d12 l b fun ad =>
 oLdN d12 ad n fun ae =>
 oNd ae fun af o =>
 oCk (Nat.beq af d0) (oCk (Nat.beq (llen o) d12) (u12 o fun p q r s t aw ax ay az aA aB aC =>
 oCallP k (nat_lit 287) (w2 (.nd d0 (w5 p q r s t)) (.nd d0 (w5 d e f g i))) n fun c u =>
 oGrd c true u (fun ag => oCallP k (nat_lit 122) (w1 (gsel c true (.nd d0 (w5 d e f g i)))) u fun ah ai =>
 ag ah ai) fun aj v =>
 oGrd c true v (fun ak => oNot aj fun al =>
 ak al v) fun am w =>
 oPick c am (.bool false) fun j =>
 oGrd j true w (fun x => oCallP k (nat_lit 204) (w1 (gsel j true (.nd d0 (w5 p q r s t)))) w fun y z =>
 x y z) fun B C =>
 oPick j B (.bool false) fun D =>
 oIf D C
 (fun E => .go d1 (w1 b) E)
 (fun F => .go d0 (w8 d e f g i l m b) F))))))
 (fun an => .go d2 .nl an)) (nat_lit 100000) (w8 v7 v9 I J L G M i0) h)))
noncomputable def f207 (k : K) (a : A) (h : H) : R :=
 u1 a fun l =>
 oLen l fun S =>
 rThen (fun T U => u1 T fun V =>
 .go d1 (w1 (.nd d1 (w2 V (.bool true)))) U)
 (rBlk d2 (cLoop (fun W X => u4 W fun c d e b =>
 oLt b e fun m =>
 oIf m X
 (fun g => rThen (fun n o => u4 n fun p q r s =>
 oAdd s i1 fun t =>
 .go d0 (w4 p q r t) o)
 (rBlk d3 (oIdx d5 d b fun u =>
 oLdN d5 u g fun v =>
 oNd v fun w i =>
 oCk (Nat.beq w d0) (oCk (Nat.beq (llen i) d5) (u5 i fun x y z B C =>
 oCallP k (nat_lit 122) (w1 (.nd d0 (w5 x y z B C))) g fun D E =>
 oNot D fun F =>
 oIf F E
 (fun G => .go d3 (w4 c d e b) G)
 (fun j => oEqI b i0 fun f =>
 oGrd f false j (fun I => oLe i0 (gsel f false c) fun J =>
 I J j) fun L M =>
 oPick f (.bool true) L fun N =>
 oIf N M
 (fun O => .go d1 (w1 (.nd d1 (w2 (.int (nat_lit 9223372036854775807)) (.bool false)))) O)
 (fun P => .go d0 (w4 b d e b) P)))))))
 (fun Q => .go d2 (w1 c) Q)) (nat_lit 100000) (w4 (.int (nat_lit 9223372036854775807)) l S i0) h))
noncomputable def f208 (k : K) (a : A) (h : H) : R :=
 u3 a fun M v3 v5 =>
 oNd v3 fun g7 l8 =>
 oCk (Nat.beq g7 d0) (u5 l8 fun N y z B q =>
 oEqI N i1 fun aJ =>
 oIf aJ h
 (fun aK => oCallP k (nat_lit 206) (w2 M (.nd d0 (w5 N y z B q))) aK fun C aL =>
 oCallP k (nat_lit 122) (w1 (.nd d0 (w5 N y z B q))) aL fun aM D =>
 oNot aM fun b =>
 oGrd b true D (fun aN => oLt (gsel b true C) i0 fun aO =>
 aN aO D) fun d E =>
 oGrd (gsel b true d) false E (fun aP => oIdx d12 (gsel (gsel b true d) false M) (gsel (gsel b true d) false C) fun aQ =>
 aP aQ E) fun aR F =>
 oGrd (gsel b true d) false F (fun aS => oFld d5 aR fun aT =>
 aS aT F) fun aU r =>
 oGrd (gsel b true d) false r (fun aV => oLd aU r fun aW =>
 aV aW r) fun aX G =>
 oGrd (gsel b true d) false G (fun aY => oLe aX (gsel (gsel b true d) false v5) fun aZ =>
 aY aZ G) fun a0 I =>
 oGrd b true I (fun a1 => oPick (gsel b true d) (.bool true) a0 fun a2 =>
 a1 a2 I) fun a3 a4 =>
 oPick b a3 (.bool false) fun a5 =>
 .go d1 (w1 a5) a4)
 (fun a6 => rThen (fun bv a7 => .go d1 (w1 (.bool true)) a7)
 (rBlk d2 (cLoop (fun a8 a9 => u4 a8 fun f s i g =>
 oLen f fun ba =>
 oLt g ba fun bb =>
 oIf bb a9
 (fun t => rThen (fun bc bd => u4 bc fun be bf bg bh =>
 oAdd bh i1 fun bi =>
 .go d0 (w4 be bf bg bi) bd)
 (rBlk d3 (oIdx d5 f g fun bj =>
 oLdN d5 bj t fun bk =>
 oNd bk fun bl J =>
 oCk (Nat.beq bl d0) (oCk (Nat.beq (llen J) d5) (u5 J fun l m n o p =>
 oAdd g i1 fun bm =>
 oLen f fun bn =>
 oLt bm bn fun e =>
 oGrd e true t (fun bo => oAdd (gsel e true g) i1 fun bp =>
 bo bp t) fun bq L =>
 oGrd e true L (fun O => oIdx d5 (gsel e true f) bq fun P =>
 O P L) fun Q j =>
 oGrd e true j (fun S => oLdN d5 Q j fun T =>
 S T j) fun U u =>
 oGrd e true u (fun V => oCallP k (nat_lit 122) (w1 U) u fun W X =>
 V W X) fun Y Z =>
 oPick e Y (.bool false) fun aa =>
 rThen (fun ab ac => u10 ab fun ad ae af ag ah ai v aj ak al =>
 oCallP k (nat_lit 208) (w3 v (.nd d0 (w5 ae af ag ah ai)) al) ac fun am an =>
 oNot am fun ao =>
 oIf ao an
 (fun ap => .go d1 (w1 (.bool false)) ap)
 (fun aq => .go d0 (w4 ad v aj ak) aq))
 (oIf aa Z
 (fun ar => oCallP k (nat_lit 122) (w1 (.nd d0 (w5 l m n o p))) ar fun c w =>
 oGrd c false w (fun au => oCallP k (nat_lit 288) (w3 (gsel c false s) (gsel c false (.nd d0 (w5 l m n o p))) (gsel c false i)) w fun av aw =>
 au av aw) fun ax x =>
 oGrd c false x (fun ay => oNot ax fun az =>
 ay az x) fun aA aB =>
 oPick c (.bool true) aA fun aC =>
 oIf aC aB
 (fun aD => .go d1 (w1 (.bool false)) aD)
 (fun aE => oAdd i i1 fun aF =>
 oAdd g i1 fun aG =>
 .go d0 (w10 f l m n o p s i aG aF) aE))
 (fun aH => .go d0 (w10 f l m n o p s i g i) aH)))))))
 (fun br => .go d2 .nl br)) (nat_lit 100000) (w4 q M v5 i0) a6))))
noncomputable def f209 (k : K) (a : A) (h : H) : R :=
 u1 a fun b =>
 oCallP k (nat_lit 56) (w3 b i1 (.int (nat_lit 9223372036854875807))) h fun g i =>
 oNot g fun j =>
 oIf j i
 (fun l => .go d1 (w1 i0) l)
 (fun m => oBSl d1 d3 (w3 i3 i1 i2) m fun n c =>
 oRem b i3 fun d =>
 oIdx d1 n d fun e =>
 oLd e c fun f =>
 .go d1 (w1 f) c)
noncomputable def f210 (k : K) (a : A) (h : H) : R :=
 u2 a fun o v3 =>
 oNd v3 fun g5 l6 =>
 oCk (Nat.beq g5 d0) (u5 l6 fun v7 v9 p q aq =>
 oBSl d4 d0 .nl h fun r s =>
 oLen o fun t =>
 rThen (fun u v => u1 u fun w =>
 .go d1 (w1 w) v)
 (rBlk d2 (cLoop (fun x y => u6 x fun d e f g i b =>
 oLt b i fun z =>
 oIf z y
 (fun j => rThen (fun B C => u6 B fun D E F G I J =>
 oAdd J i1 fun L =>
 .go d0 (w6 D E F G I L) C)
 (rBlk d3 (oIdx d4 g b fun M =>
 oLdN d4 M j fun N =>
 oNd N fun O l =>
 oCk (Nat.beq O d0) (oCk (Nat.beq (llen l) d4) (u4 l fun m n P Q =>
 oEqS m d fun c =>
 oGrd c true j (fun S => oCallP k (nat_lit 211) (w2 (gsel c true n) (gsel c true e)) j fun T U =>
 S T U) fun V W =>
 oPick c V (.bool false) fun X =>
 rThen (fun Y Z => u6 Y fun aa ab ac ad ae af =>
 .go d0 (w6 aa ab ac ad ae af) Z)
 (oIf X W
 (fun ag => oBSl d4 d1 (w4 m n P Q) ag fun ah ai =>
 oApp d4 f ah ai fun aj ak =>
 .go d0 (w6 d e aj g i b) ak)
 (fun al => .go d0 (w6 d e f g i b) al)))))))
 (fun am => .go d2 (w1 f) am)) (nat_lit 100000) (w6 p q r o t i0) s)))
noncomputable def f211 (k : K) (a : A) (h : H) : R :=
 u2 a fun g z =>
 oLen g fun B =>
 rThen (fun F C => .go d1 (w1 (.bool true)) C)
 (rBlk d2 (cLoop (fun D E => u4 D fun c d e b =>
 oLt b e fun i =>
 oIf i E
 (fun f => rThen (fun j l => u4 j fun m n o p =>
 oAdd p i1 fun q =>
 .go d0 (w4 m n o q) l)
 (rBlk d3 (oIdx d1 d b fun r =>
 oLd r f fun s =>
 oCallP k (nat_lit 225) (w2 c s) f fun t u =>
 oNot t fun v =>
 oIf v u
 (fun w => .go d1 (w1 (.bool false)) w)
 (fun x => .go d0 (w4 c d e b) x))))
 (fun y => .go d2 .nl y)) (nat_lit 100000) (w4 z g B i0) h))
noncomputable def f212 (k : K) (a : A) (h : H) : R :=
 u5 a fun y z v5 v7 n =>
 oNd v5 fun B C =>
 oCk (Nat.beq B d0) (u5 C fun b f c o g =>
 oNd v7 fun D E =>
 oCk (Nat.beq D d0) (u5 E fun d i j p q =>
 rThen (fun F r => u7 F fun G I J L M N O =>
 oEqI G L fun l =>
 oGrd l true r (fun P => oEqI (gsel l true I) (gsel l true M) fun Q =>
 P Q r) fun S s =>
 oPick l S (.bool false) fun m =>
 oGrd m true s (fun T => oEqS (gsel m true J) (gsel m true N) fun U =>
 T U s) fun V W =>
 oPick m V (.bool false) fun X =>
 .go d1 (w1 (.nd d1 (w2 O X))) W)
 (rBlk d2 (oEqI b i1 fun Y =>
 oIf Y h
 (fun Z => oEqS c (.str d1 (nat_lit 95)) fun aa =>
 oIf aa Z
 (fun ab => .go d1 (w1 (.nd d1 (w2 n (.bool true)))) ab)
 (fun ac => oCallP k (nat_lit 205) (w2 z (.nd d0 (w5 b f c o g))) ac fun ad ae =>
 oIf ad ae
 (fun t => oEqI d i1 fun e =>
 oGrd e true t (fun af => oCall k (nat_lit 289) (w3 (gsel e true y) (gsel e true (.nd d0 (w5 b f c o g))) (gsel e true (.nd d0 (w5 d i j p q)))) t fun ag ah =>
 af ag ah) fun ai aj =>
 oPick e ai (.bool false) fun ak =>
 .go d1 (w1 (.nd d1 (w2 n ak))) aj)
 (fun al => oCall k (nat_lit 130) (w1 (.nd d0 (w5 b f c o g))) al fun am an =>
 oCall k (nat_lit 130) (w1 (.nd d0 (w5 d i j p q))) an fun ao ap =>
 oNd am fun aq u =>
 oCk (Nat.beq aq d0) (oCk (Nat.beq (llen u) d5) (oNd ao fun ar v =>
 oCk (Nat.beq ar d0) (oCk (Nat.beq (llen v) d5) (oNd (.nd d0 (lapp u (.cn i0 (lapp v (w1 z3))))) fun au w =>
 oCk (Nat.beq au d0) (oCk (Nat.beq (llen w) d12) (oBSl d12 d1 (lapp w .nl) ap fun av aw =>
 oApp d12 n av aw fun ax ay =>
 .go d1 (w1 (.nd d1 (w2 ax (.bool true)))) ay)))))))))
 (fun az => oEqI b i0 fun aA =>
 oIf aA az
 (fun aB => oCall k (nat_lit 290) (w5 y z g (.nd d0 (w5 d i j p q)) n) aB fun x aC =>
 oExt d0 x fun aD =>
 oExt d1 x fun aE =>
 .go d1 (w1 (.nd d1 (w2 aD aE))) aC)
 (fun aF => .go d0 (w7 b f c d i j n) aF))))))
noncomputable def f213 (k : K) (a : A) (h : H) : R :=
 u2 a fun v1 v3 =>
 oNd v1 fun g5 l6 =>
 oCk (Nat.beq g5 d0) (u5 l6 fun u v d e f =>
 oCallP k (nat_lit 28) (w1 (.nd d0 (w5 u v d e f))) h fun w g =>
 oNot w fun b =>
 oGrd b false g (fun x => oCallP k (nat_lit 291) (w1 (gsel b false (.nd d0 (w5 u v d e f)))) g fun y z =>
 x y z) fun B i =>
 oGrd b false i (fun C => oNot B fun D =>
 C D i) fun E F =>
 oPick b (.bool true) E fun G =>
 oIf G F
 (fun I => .go d1 (w1 (.nd d1 (w2 (.nd d0 (w5 i0 i0 zs z3 z3)) (.bool false)))) I)
 (fun J => oNew (w1 i0) J fun j L =>
 oSt j (.int (nat_lit 9223372036854777808)) L fun M =>
 oCall k (nat_lit 292) (w3 (.nd d0 (w5 u v d e f)) v3 j) M fun l m =>
 oExt d0 l fun N =>
 oExt d1 l fun O =>
 oNd N fun P n =>
 oCk (Nat.beq P d0) (oCk (Nat.beq (llen n) d5) (u5 n fun o p q r s =>
 oNot O fun c =>
 oGrd c false m (fun Q => oCallP k (nat_lit 28) (w1 (gsel c false (.nd d0 (w5 o p q r s)))) m fun S T =>
 Q S T) fun U t =>
 oGrd c false t (fun V => oNot U fun W =>
 V W t) fun X Y =>
 oPick c (.bool true) X fun Z =>
 oIf Z Y
 (fun aa => .go d1 (w1 (.nd d1 (w2 (.nd d0 (w5 i0 i0 zs z3 z3)) (.bool false)))) aa)
 (fun ab => .go d1 (w1 (.nd d1 (w2 (.nd d0 (w5 o p q r s)) (.bool true)))) ab)))))
noncomputable def f214 (k : K) (a : A) (h : H) : R :=
 u1 a fun o =>
 oBSl d8 d0 .nl h fun v3 h4 =>
 oLen o fun v5 =>
 rThen (fun r6 h7 => u1 r6 fun f =>
 oLen f fun p =>
 oEqI p i1 fun q =>
 oIf q h7
 (fun g => oIdx d8 f i0 fun r =>
 oLdN d8 r g fun s =>
 oNd s fun t i =>
 oCk (Nat.beq t d0) (oCk (Nat.beq (llen i) d8) (u8 i fun u v w x y z B C =>
 .go d1 (w1 (.nd d0 (w8 u v w x y z B C))) g)))
 (fun D => oOne f (.go d1 (w1 (.nd d0 (w8 i8 i0 z3 i0 i0 zs z3 f))) D)))
 (rBlk d2 (cLoop (fun E F => u4 E fun c d e b =>
 oLt b e fun G =>
 oIf G F
 (fun j => rThen (fun I J => u4 I fun L M N O =>
 oAdd O i1 fun P =>
 .go d0 (w4 L M N P) J)
 (rBlk d3 (oIdx d8 d b fun Q =>
 oLdN d8 Q j fun S =>
 oNd S fun T l =>
 oCk (Nat.beq T d0) (oCk (Nat.beq (llen l) d8) (u8 l fun m U V W X Y Z n =>
 oEqI m i8 fun aa =>
 rThen (fun ab ac => u4 ab fun ad ae af ag =>
 .go d0 (w4 ad ae af ag) ac)
 (oIf aa j
 (fun ah => oApp d8 c n ah fun ai aj =>
 .go d0 (w4 ai d e b) aj)
 (fun ak => oBSl d8 d1 (w8 m U V W X Y Z n) ak fun al am =>
 oApp d8 c al am fun an ao =>
 .go d0 (w4 an d e b) ao)))))))
 (fun ap => .go d2 (w1 c) ap)) (nat_lit 100000) (w4 v3 o v5 i0) h4))
noncomputable def f215 (k : K) (a : A) (h : H) : R :=
 u2 a fun v1 v3 =>
 oBSl d4 d0 .nl h fun v5 h6 =>
 rThen (fun r7 h8 => u1 r7 fun v9 =>
 .go d1 (w1 v9) h8)
 (rBlk d2 (cLoop (fun aY B => u3 aY fun c p e =>
 oLen p fun aZ =>
 oLt i0 aZ fun s =>
 oGrd s true B (fun a0 => oCall k (nat_lit 66) (w1 (gsel s true c)) B fun a1 a2 =>
 a0 a1 a2) fun a3 a4 =>
 oPick s a3 (.bool false) fun a5 =>
 oIf a5 a4
 (fun C => rThen (fun a6 a7 => u3 a6 fun a8 a9 ba =>
 .go d0 (w3 a8 a9 ba) a7)
 (rBlk d3 (oIdx d5 p i0 fun bb =>
 oLdN d5 bb C fun bc =>
 oNd bc fun bd D =>
 oCk (Nat.beq bd d0) (oCk (Nat.beq (llen D) d5) (u5 D fun f g i j d =>
 oLen p fun be =>
 oSl d5 p i1 be fun l =>
 oCall k (nat_lit 70) (w2 c (.nd d0 (w5 f g i j d))) C fun E F =>
 oExt d0 E fun bf =>
 oExt d1 E fun b =>
 oNd bf fun bg G =>
 oCk (Nat.beq bg d0) (oCk (Nat.beq (llen G) d4) (u4 G fun bQ bR q r =>
 rThen (fun bh bi => u3 bh fun bj bk bl =>
 .go d0 (w3 bj bk bl) bi)
 (rBlk d4 (oGrd b true F (fun bm => oEqI (gsel b true q) i4 fun bn =>
 bm bn F) fun bo bp =>
 oPick b bo (.bool false) fun bq =>
 rThen (fun br bs => u3 br fun bt bu bv =>
 .go d0 (w3 bt bu bv) bs)
 (oIf bq bp
 (fun bw => oCall k (nat_lit 71) (w3 c r (.nd d0 (w5 f g i j d))) bw fun bx bz =>
 oNd bx fun bA I =>
 oCk (Nat.beq bA d0) (oCk (Nat.beq (llen I) d5) (oBSl d5 d1 (lapp I .nl) bz fun bB bC =>
 oApp d5 bB l bC fun bD bE =>
 .go d0 (w3 c bD e) bE)))
 (fun J => oGrd b true J (fun bF => oEqI (gsel b true q) i1 fun L =>
 bF L J) fun bG t =>
 oPick b bG (.bool false) fun m =>
 oGrd m true t (fun M => oEqI (gsel m true r) i4 fun N =>
 M N t) fun O P =>
 oPick m O (.bool false) fun Q =>
 rThen (fun S T => u3 S fun U V W =>
 .go d0 (w3 U V W) T)
 (oIf Q P
 (fun X => oBSl d5 d0 .nl X fun Y Z =>
 oLen d fun aa =>
 oSl d5 d i1 aa fun ab =>
 oApp d5 Y ab Z fun ac ad =>
 oApp d5 ac l ad fun ae af =>
 .go d0 (w3 c ae e) af)
 (fun u => oGrd b true u (fun ag => oEqI (gsel b true q) i1 fun ah =>
 ag ah u) fun ai v =>
 oPick b ai (.bool false) fun n =>
 oGrd n true v (fun aj => oEqI (gsel n true r) i7 fun ak =>
 aj ak v) fun al am =>
 oPick n al (.bool false) fun an =>
 rThen (fun ao ap => u3 ao fun aq ar au =>
 .go d0 (w3 aq ar au) ap)
 (oIf an am
 (fun av => oCall k (nat_lit 293) (w2 c (.nd d0 (w5 f g i j d))) av fun aw ax =>
 oNd aw fun ay w =>
 oCk (Nat.beq ay d0) (oCk (Nat.beq (llen w) d4) (oBSl d4 d1 (lapp w .nl) ax fun az aA =>
 oApp d4 e az aA fun aB aC =>
 .go d0 (w3 c l aB) aC)))
 (fun x => oGrd b true x (fun aD => oEqI (gsel b true q) i1 fun aE =>
 aD aE x) fun aF y =>
 oPick b aF (.bool false) fun o =>
 oGrd o true y (fun aG => oEqI (gsel o true r) i8 fun aH =>
 aG aH y) fun aI aJ =>
 oPick o aI (.bool false) fun aK =>
 rThen (fun aL aM => u3 aL fun aN aO aP =>
 .go d0 (w3 aN aO aP) aM)
 (oIf aK aJ
 (fun aQ => oCall k (nat_lit 36) (w2 c (.nd d0 (w5 f g i j d))) aQ fun bP aR =>
 .go d0 (w3 c l e) aR)
 (fun aS => oBSl d5 d1 (w5 f g i j d) aS fun z aT =>
 oOne z (oBSl d4 d1 (w4 i0 (.bool false) z3 z) aT fun aU aV =>
 oApp d4 e aU aV fun aW aX =>
 .go d0 (w3 c l aW) aX))))))))))))))))))
 (fun bH => .go d2 (w1 e) bH)) (nat_lit 100000) (w3 v1 v3 v5) h6))
noncomputable def f216 (k : K) (a : A) (h : H) : R :=
 u2 a fun l S =>
 oBSl d5 d0 .nl h fun T U =>
 oLen l fun V =>
 rThen (fun W X => u1 W fun m =>
 .go d1 (w1 m) X)
 (rBlk d2 (cLoop (fun n o => u5 n fun c d e f b =>
 oLt b f fun p =>
 oIf p o
 (fun g => rThen (fun q r => u5 q fun s t u v w =>
 oAdd w i1 fun x =>
 .go d0 (w5 s t u v x) r)
 (rBlk d3 (oIdx d5 e b fun y =>
 oLdN d5 y g fun z =>
 oNd z fun B i =>
 oCk (Nat.beq B d0) (oCk (Nat.beq (llen i) d5) (u5 i fun C D E F G =>
 oCall k (nat_lit 80) (w3 (.nd d0 (w5 C D E F G)) i1 c) g fun I J =>
 oNd I fun L j =>
 oCk (Nat.beq L d0) (oCk (Nat.beq (llen j) d5) (oBSl d5 d1 (lapp j .nl) J fun M N =>
 oApp d5 d M N fun O P =>
 .go d0 (w5 c O e f b) P)))))))
 (fun Q => .go d2 (w1 d) Q)) (nat_lit 100000) (w5 S T l V i0) U))
noncomputable def f217 (k : K) (a : A) (h : H) : R :=
 u2 a fun v1 v3 =>
 oBSl d8 d0 .nl h fun v5 h6 =>
 oBSl d1 d0 .nl h6 fun v7 h8 =>
 oLen v3 fun v9 =>
 rThen (fun aN aO => u2 aN fun aP aQ =>
 .go d1 (w1 (.nd d1 (w2 aP aQ))) aO)
 (rBlk d2 (cLoop (fun aR aS => u6 aR fun c e f g i d =>
 oLt d i fun aT =>
 oIf aT aS
 (fun p => rThen (fun aU aV => u6 aU fun aW aX aY aZ a0 a1 =>
 oAdd a1 i1 fun a2 =>
 .go d0 (w6 aW aX aY aZ a0 a2) aV)
 (rBlk d3 (oIdx d4 g d fun a3 =>
 oLdN d4 a3 p fun a4 =>
 oNd a4 fun a5 q =>
 oCk (Nat.beq a5 d0) (oCk (Nat.beq (llen q) d4) (u4 q fun r a6 a7 s =>
 rThen (fun a8 a9 => u15 a8 fun b t u v w x y z B C D E F G I =>
 oLt i0 b fun ba =>
 rThen (fun bb bc => u14 bb fun bd L M N O P Q S j T U V W X =>
 oBSl d8 d1 (w8 bd L M N O P Q S) bc fun Y Z =>
 oApp d8 T Y Z fun aa l =>
 oDeref j fun ab =>
 oFld d6 ab fun ac =>
 oLd ac l fun ad =>
 oNeI ad i0 fun ae =>
 oIf ae l
 (fun af => .go d1 (w1 (.nd d1 (w2 z3 z3))) af)
 (fun ag => .go d0 (w6 j aa U V W X) ag))
 (oIf ba a9
 (fun be => oOne b (oBSl d1 d1 (w1 b) be fun ah ai =>
 oApp d1 E ah ai fun aj ak =>
 oBSl d8 d1 (w8 t u v w x y z B) ak fun m al =>
 oOne b (oOne m (.go d0 (w14 i4 b z3 i0 i0 zs z3 m C D aj F G I) al))))
 (fun bf => .go d0 (w14 t u v w x y z B C D E F G I) bf)))
 (oIf a6 p
 (fun bg => oCall k (nat_lit 134) (w4 c i5 a7 s) bg fun am an =>
 oNd am fun ao n =>
 oCk (Nat.beq ao d0) (oCk (Nat.beq (llen n) d8) (u8 n fun ap aq ar au av aw ax ay =>
 .go d0 (w15 r ap aq ar au av aw ax ay c e f g i d) an)))
 (fun J => oIdx d5 s i0 fun az =>
 oLdN d5 az J fun aA =>
 oCall k (nat_lit 32) (w2 c aA) J fun aB aC =>
 oNd aB fun aD o =>
 oCk (Nat.beq aD d0) (oCk (Nat.beq (llen o) d8) (u8 o fun aE aF aG aH aI aJ aK aL =>
 .go d0 (w15 r aE aF aG aH aI aJ aK aL c e f g i d) aC)))))))))
 (fun bh => .go d2 (w2 e f) bh)) (nat_lit 100000) (w6 v1 v5 v7 v3 v9 i0) h8))
noncomputable def f218 (k : K) (a : A) (h : H) : R :=
 u1 a fun f =>
 oLen f fun y =>
 rThen (fun I z => .go d1 (w1 (.bool true)) z)
 (rBlk d2 (cLoop (fun B C => u3 B fun g c b =>
 oLt b c fun i =>
 oIf i C
 (fun d => rThen (fun j l => u3 j fun m n o =>
 oAdd o i1 fun p =>
 .go d0 (w3 m n p) l)
 (rBlk d3 (oIdx d5 g b fun q =>
 oLdN d5 q d fun r =>
 oNd r fun s e =>
 oCk (Nat.beq s d0) (oCk (Nat.beq (llen e) d5) (u5 e fun t D E F G =>
 oNeI t i1 fun u =>
 oIf u d
 (fun v => .go d1 (w1 (.bool false)) v)
 (fun w => .go d0 (w3 g c b) w))))))
 (fun x => .go d2 .nl x)) (nat_lit 100000) (w3 f y i0) h))
noncomputable def f219 (k : K) (a : A) (h : H) : R :=
 u2 a fun b L =>
 oNd L fun M N =>
 oCk (Nat.beq M d0) (u5 N fun O P f g i =>
 oDeref b fun j =>
 oFld d0 j fun l =>
 oFld d3 l fun m =>
 oLd m h fun n =>
 oLe (.int (nat_lit 9223372036854875807)) n fun o =>
 oIf o h
 (fun p => oCall k (nat_lit 68) (w2 b i8) p fun Q q =>
 .go d1 (w1 i0) q)
 (fun c => oDeref b fun r =>
 oFld d0 r fun s =>
 oFld d3 s fun t =>
 oLd t c fun u =>
 oAdd u i1 fun v =>
 oCall k (nat_lit 149) (w4 b (.nd d0 (w5 O P f g i)) i3 v) c fun S d =>
 oDeref b fun w =>
 oFld d0 w fun x =>
 oFld d3 x fun y =>
 oLd y d fun z =>
 oAdd z i1 fun B =>
 oDeref b fun C =>
 oFld d0 C fun D =>
 oFld d3 D fun E =>
 oSt E B d fun e =>
 oDeref b fun F =>
 oFld d0 F fun G =>
 oFld d3 G fun I =>
 oLd I e fun J =>
 .go d1 (w1 J) e))
noncomputable def f220 (k : K) (a : A) (h : H) : R :=
 u1 a fun b =>
 bEq b (.byt (nat_lit 40)) fun g =>
 oGrd g false h (fun v => bEq (gsel g false b) (.byt (nat_lit 41)) fun w =>
 v w h) fun x j =>
 oPick g (.bool true) x fun i =>
 oGrd i false j (fun y => bEq (gsel i false b) (.byt (nat_lit 34)) fun l =>
 y l j) fun m e =>
 oPick i (.bool true) m fun c =>
 oGrd c false e (fun n => bEq (gsel c false b) (.byt (nat_lit 59)) fun o =>
 n o e) fun p f =>
 oPick c (.bool true) p fun d =>
 oGrd d false f (fun q => bEq (gsel d false b) (.byt (nat_lit 39)) fun r =>
 q r f) fun s t =>
 oPick d (.bool true) s fun u =>
 .go d1 (w1 u) t
noncomputable def f221 (k : K) (a : A) (h : H) : R :=
 u1 a fun g =>
 oSLen g fun v3 =>
 oLt i0 v3 fun i =>
 oGrd i true h (fun k5 => oSIdx (gsel i true g) i0 fun v8 =>
 k5 v8 h) fun v6 s =>
 oGrd i true s (fun k9 => bEq v6 (.byt (nat_lit 45)) fun t =>
 k9 t s) fun u v =>
 oPick i u (.bool false) fun w =>
 rThen (fun x j => u2 x fun f d =>
 oSLen f fun y =>
 oEqI d y fun b =>
 oGrd b false j (fun z => oSLen (gsel b false f) fun B =>
 z B j) fun C l =>
 oGrd b false l (fun D => oSub C (gsel b false d) fun E =>
 D E l) fun F m =>
 oGrd b false m (fun G => oLt i9 F fun I =>
 G I m) fun J L =>
 oPick b (.bool true) J fun M =>
 oIf M L
 (fun N => .go d1 (w1 (.nd d1 (w2 i0 (.bool false)))) N)
 (fun O => rThen (fun P Q => u3 P fun n S o =>
 oEqI S i1 fun T =>
 rThen (fun U V => u2 U fun W p =>
 oCallP k (nat_lit 294) (w1 p) V fun X Y =>
 oNeS X W fun Z =>
 oIf Z Y
 (fun aa => .go d1 (w1 (.nd d1 (w2 i0 (.bool false)))) aa)
 (fun ab => .go d1 (w1 (.nd d1 (w2 p (.bool true)))) ab))
 (oIf T Q
 (fun ac => oSub i0 o fun ad =>
 .go d0 (w2 n ad) ac)
 (fun ae => .go d0 (w2 n o) ae)))
 (rBlk d2 (cLoop (fun af ag => u4 af fun c q r e =>
 oSLen c fun ah =>
 oLt e ah fun ai =>
 oIf ai ag
 (fun aj => rThen (fun ak al => u4 ak fun am an ao ap =>
 oAdd ap i1 fun aq =>
 .go d0 (w4 am an ao aq) al)
 (rBlk d3 (oSIdx c e fun ar =>
 oCallP k (nat_lit 285) (w1 ar) aj fun au av =>
 oNot au fun aw =>
 oIf aw av
 (fun ax => .go d1 (w1 (.nd d1 (w2 i0 (.bool false)))) ax)
 (fun ay => oMul i10 r fun az =>
 oSIdx c e fun aA =>
 bSub aA (.byt (nat_lit 48)) fun aB =>
 oB2I aB fun aC =>
 oAdd az aC fun aD =>
 .go d0 (w4 c q aD e) ay))))
 (fun aE => .go d2 (w3 c q r) aE)) (nat_lit 100000) (w4 f d i0 d) O))))
 (oIf w v
 (fun aF => .go d0 (w2 g i1) aF)
 (fun aG => .go d0 (w2 g i0) aG))
noncomputable def f222 (k : K) (a : A) (h : H) : R :=
 u1 a fun b =>
 oCallP k (nat_lit 56) (w3 b (.int (nat_lit 9223372035854775809)) (.int (nat_lit 9223372037854775807))) h fun c d =>
 oNot c fun e =>
 oIf e d
 (fun f => .go d1 (w1 (.nd d0 (w4 i0 i0 zs z3))) f)
 (fun g => oOne b (.go d1 (w1 (.nd d0 (w4 i2 b zs z3))) g))
noncomputable def f223 (k : K) (a : A) (h : H) : R :=
 u1 a fun b =>
 oIf b h
 (fun c => .go d1 (w1 (.nd d0 (w4 i3 i1 zs z3))) c)
 (fun d => .go d1 (w1 (.nd d0 (w4 i3 i0 zs z3))) d)
noncomputable def f224 (k : K) (a : A) (h : H) : R :=
 u2 a fun c B =>
 oNd B fun C D =>
 oCk (Nat.beq C d0) (u4 D fun f g d e =>
 oLen c fun i =>
 oLe (.int (nat_lit 9223372036854776808)) i fun b =>
 oGrd b false h (fun j => oCallP k (nat_lit 120) (w2 (gsel b false c) (gsel b false (.nd d0 (w4 f g d e)))) h fun l m =>
 j l m) fun n o =>
 oPick b (.bool true) n fun p =>
 oIf p o
 (fun q => .go d1 (w1 (.nd d1 (w2 c (.bool false)))) q)
 (fun r => oBSl d4 d1 (w4 f g d e) r fun s t =>
 oCall k (nat_lit 62) (w1 c) t fun u v =>
 oCall k (nat_lit 62) (w1 s) v fun w x =>
 oApp d4 u w x fun y z =>
 .go d1 (w1 (.nd d1 (w2 y (.bool true)))) z))
noncomputable def f225 (k : K) (a : A) (h : H) : R :=
 u2 a fun g x =>
 oLen g fun y =>
 rThen (fun D z => .go d1 (w1 (.bool false)) z)
 (rBlk d2 (cLoop (fun B C => u4 B fun c d e b =>
 oLt b e fun i =>
 oIf i C
 (fun f => rThen (fun j l => u4 j fun m n o p =>
 oAdd p i1 fun q =>
 .go d0 (w4 m n o q) l)
 (rBlk d3 (oIdx d1 d b fun r =>
 oLd r f fun s =>
 oEqI s c fun t =>
 oIf t f
 (fun u => .go d1 (w1 (.bool true)) u)
 (fun v => .go d0 (w4 c d e b) v))))
 (fun w => .go d2 .nl w)) (nat_lit 100000) (w4 x g y i0) h))
noncomputable def f226 (k : K) (a : A) (h : H) : R :=
 u2 a fun g x =>
 oLen g fun y =>
 rThen (fun D z => .go d1 (w1 (.int (nat_lit 9223372036854775807))) z)
 (rBlk d2 (cLoop (fun B C => u4 B fun c d e b =>
 oLt b e fun i =>
 oIf i C
 (fun f => rThen (fun j l => u4 j fun m n o p =>
 oAdd p i1 fun q =>
 .go d0 (w4 m n o q) l)
 (rBlk d3 (oIdx d1 d b fun r =>
 oLd r f fun s =>
 oEqS s c fun t =>
 oIf t f
 (fun u => .go d1 (w1 b) u)
 (fun v => .go d0 (w4 c d e b) v))))
 (fun w => .go d2 .nl w)) (nat_lit 100000) (w4 x g y i0) h))
noncomputable def f227 (k : K) (a : A) (h : H) : R :=
 u1 a fun v1 =>
 oNd v1 fun g3 l4 =>
 oCk (Nat.beq g3 d0) (u4 l4 fun p q r c =>
 oOne p (oOne q (oOne r (oLen c fun s =>
 rThen (fun t u => u4 t fun v w x y =>
 .go d1 (w1 (.nd d0 (w4 v w x y))) u)
 (rBlk d2 (cLoop (fun z B => u7 z fun d e f g i j b =>
 oLt b j fun C =>
 oIf C B
 (fun l => rThen (fun D E => u7 D fun F G I J L M N =>
 oAdd N i1 fun O =>
 .go d0 (w7 F G I J L M O) E)
 (rBlk d3 (oIdx d4 i b fun P =>
 oLdN d4 P l fun Q =>
 oNd Q fun S m =>
 oCk (Nat.beq S d0) (oCk (Nat.beq (llen m) d4) (u4 m fun T U V W =>
 oCallP k (nat_lit 227) (w1 (.nd d0 (w4 T U V W))) l fun X Y =>
 oNd X fun Z n =>
 oCk (Nat.beq Z d0) (oCk (Nat.beq (llen n) d4) (oBSl d4 d1 (lapp n .nl) Y fun aa ab =>
 oApp d4 g aa ab fun o ac =>
 oOne o (.go d0 (w7 d e f o i j b) ac))))))))
 (fun ad => .go d2 (w4 d e f g) ad)) (nat_lit 100000) (w7 p q r z3 c s i0) h))))))
noncomputable def f228 (k : K) (a : A) (h : H) : R :=
 u2 a fun v1 v3 =>
 oNd v1 fun g5 l6 =>
 oCk (Nat.beq g5 d0) (u4 l6 fun v7 v9 r f =>
 oNd v3 fun s t =>
 oCk (Nat.beq s d0) (u4 t fun u v w i =>
 oNeI v7 u fun c =>
 oGrd c false h (fun x => oNeI (gsel c false v9) (gsel c false v) fun y =>
 x y h) fun z j =>
 oPick c (.bool true) z fun d =>
 oGrd d false j (fun B => oNeS (gsel d false r) (gsel d false w) fun C =>
 B C j) fun D l =>
 oPick d (.bool true) D fun b =>
 oGrd b false l (fun E => oLen (gsel b false f) fun F =>
 E F l) fun G m =>
 oGrd b false m (fun I => oLen (gsel b false i) fun J =>
 I J m) fun L n =>
 oGrd b false n (fun M => oNeI G L fun N =>
 M N n) fun O P =>
 oPick b (.bool true) O fun Q =>
 oIf Q P
 (fun S => .go d1 (w1 (.bool false)) S)
 (fun T => oLen f fun U =>
 rThen (fun ay V => .go d1 (w1 (.bool true)) V)
 (rBlk d2 (cLoop (fun W X => u4 W fun o p q e =>
 oLt e q fun Y =>
 oIf Y X
 (fun g => rThen (fun Z aa => u4 Z fun ab ac ad ae =>
 oAdd ae i1 fun af =>
 .go d0 (w4 ab ac ad af) aa)
 (rBlk d3 (oIdx d4 o e fun ag =>
 oLdN d4 ag g fun ah =>
 oIdx d4 p e fun ai =>
 oLdN d4 ai g fun aj =>
 oCallP k (nat_lit 228) (w2 ah aj) g fun ak al =>
 oNot ak fun am =>
 oIf am al
 (fun an => .go d1 (w1 (.bool false)) an)
 (fun ao => .go d0 (w4 o p q e) ao))))
 (fun ap => .go d2 .nl ap)) (nat_lit 100000) (w4 f i U i0) T)))))
noncomputable def f229 (k : K) (a : A) (h : H) : R :=
 oBSl d1 d14 (w14 (.str d1 (nat_lit 43)) (.str d1 (nat_lit 45)) (.str d1 (nat_lit 42)) (.str d1 (nat_lit 61)) (.str d1 (nat_lit 60)) (.str d4 (nat_lit 1936617315)) (.str d3 (nat_lit 7496035)) (.str d3 (nat_lit 7496803)) (.str d5 (nat_lit 272401986926)) (.str d5 (nat_lit 272502448496)) (.str d7 (nat_lit 17858703301375342)) (.str d3 (nat_lit 4157797)) (.str d3 (nat_lit 7630702)) (.str d7 (nat_lit 34165590552963428))) h fun b c =>
 .go d1 (w1 b) c
noncomputable def f230 (k : K) (a : A) (h : H) : R :=
 u1 a fun b =>
 oLt b i1 fun c =>
 oGrd c false h (fun d => oLt i20 (gsel c false b) fun e =>
 d e h) fun f g =>
 oPick c (.bool true) f fun i =>
 oIf i g
 (fun j => .go d1 (w1 zs) j)
 (fun l => oSub b i1 fun m =>
 .bad)
noncomputable def f231 (k : K) (a : A) (h : H) : R :=
 u1 a fun p =>
 oNd p fun q r =>
 oCk (Nat.beq q d0) (u4 r fun d e f b =>
 oCallP k (nat_lit 103) (w1 (.nd d0 (w4 d e f b))) h fun g i =>
 oNot g fun j =>
 oIf j i
 (fun l => .go d1 (w1 zs) l)
 (fun m => oCall k (nat_lit 295) (w2 z3 (.nd d0 (w4 d e f b))) m fun n c =>
 oB2S n c fun o =>
 .go d1 (w1 o) c))
noncomputable def f232 (k : K) (a : A) (h : H) : R :=
 u2 a fun g F =>
 oNd F fun G I =>
 oCk (Nat.beq G d0) (u4 I fun i j b c =>
 oCallP k (nat_lit 296) (w1 (.nd d0 (w4 i j b c))) h fun l m =>
 oCall k (nat_lit 237) (w2 g l) m fun n o =>
 oNot n fun p =>
 oIf p o
 (fun q => .go d1 (w1 (.nd d1 (w2 (.nd d0 (w3 i0 i0 zs)) (.bool false)))) q)
 (fun d => oDeref g fun r =>
 oFld d6 r fun s =>
 oLd s d fun t =>
 oCallP k (nat_lit 297) (w2 (.nd d0 (w4 i j b c)) t) d fun e u =>
 oExt d0 e fun v =>
 oExt d1 e fun w =>
 oNd v fun x f =>
 oCk (Nat.beq x d0) (oCk (Nat.beq (llen f) d3) (u3 f fun y z B =>
 oDeref g fun C =>
 oFld d6 C fun D =>
 oSt D w u fun E =>
 .go d1 (w1 (.nd d1 (w2 (.nd d0 (w3 y z B)) (.bool true)))) E))))
noncomputable def f233 (k : K) (a : A) (h : H) : R :=
 u2 a fun b q =>
 oNd q fun r s =>
 oCk (Nat.beq r d0) (u4 s fun t u c d =>
 oDeref b fun e =>
 oFld d4 e fun f =>
 oLd f h fun g =>
 oBSl d4 d1 (w4 t u c d) h fun i j =>
 oApp d4 g i j fun l m =>
 oDeref b fun n =>
 oFld d4 n fun o =>
 oSt o l m fun p =>
 .go d1 (w1 (.nd d1 .nl)) p)
noncomputable def f234 (k : K) (a : A) (h : H) : R :=
 u3 a fun f C D =>
 oNd D fun E F =>
 oCk (Nat.beq E d0) (u4 F fun G g i b =>
 oCallP k (nat_lit 298) (w2 f (.nd d0 (w4 G g i b))) h fun j l =>
 oNot j fun m =>
 oIf m l
 (fun n => .go d1 (w1 (.nd d1 .nl)) n)
 (fun c => oDeref b fun o =>
 oFld d3 o fun p =>
 oLd p c fun q =>
 oNot q fun r =>
 oIf r c
 (fun s => oDeref f fun t =>
 oFld d0 t fun u =>
 oCall k (nat_lit 197) (w3 u i2 (.str d24 (nat_lit 2461708050509932647698665277632274386356431770445073768822))) s fun I v =>
 .go d1 (w1 (.nd d1 .nl)) v)
 (fun d => oDeref b fun w =>
 oFld d0 w fun x =>
 oLdN d3 x d fun y =>
 oNd y fun z e =>
 oCk (Nat.beq z d0) (oCk (Nat.beq (llen e) d3) (oCall k (nat_lit 233) (w2 C (.nd d0 (lapp e (w1 z4)))) d fun J B =>
 .go d1 (w1 (.nd d1 .nl)) B)))))
noncomputable def f235 (k : K) (a : A) (h : H) : R :=
 u3 a fun m n S =>
 oNd S fun T U =>
 oCk (Nat.beq T d0) (u4 U fun V o p c =>
 oCall k (nat_lit 238) (w2 n i1) h fun q d =>
 oIdx d4 q i0 fun r =>
 oLdN d4 r d fun s =>
 oNd s fun t e =>
 oCk (Nat.beq t d0) (oCk (Nat.beq (llen e) d4) (u4 e fun f g i u =>
 oCallP k (nat_lit 236) (w2 m (.nd d0 (w4 f g i u))) d fun v j =>
 oNot v fun b =>
 oGrd b false j (fun w => oCallP k (nat_lit 298) (w2 (gsel b false m) (gsel b false (.nd d0 (w4 V o p c)))) j fun x y =>
 w x y) fun z l =>
 oGrd b false l (fun B => oNot z fun C =>
 B C l) fun D E =>
 oPick b (.bool true) D fun F =>
 oIf F E
 (fun G => .go d1 (w1 (.nd d1 .nl)) G)
 (fun I => oDeref c fun J =>
 oFld d0 J fun L =>
 oStN d3 L (.nd d0 (w3 f g i)) I fun M =>
 oDeref c fun N =>
 oFld d3 N fun O =>
 oSt O (.bool true) M fun P =>
 oCall k (nat_lit 233) (w2 n (.nd d0 (w4 i0 i0 zs z4))) P fun W Q =>
 .go d1 (w1 (.nd d1 .nl)) Q))))
noncomputable def f236 (k : K) (a : A) (h : H) : R :=
 u2 a fun j l =>
 oNd l fun m n =>
 oCk (Nat.beq m d0) (u4 n fun q r o b =>
 oNil d4 d1 d1 true b fun c =>
 oIf c h
 (fun d => oDeref j fun e =>
 oFld d0 e fun f =>
 oCall k (nat_lit 197) (w3 f i2 (.str d11 (nat_lit 122656023930769526226186094))) d fun p g =>
 .go d1 (w1 (.bool false)) g)
 (fun i => .go d1 (w1 (.bool true)) i))
noncomputable def f237 (k : K) (a : A) (h : H) : R :=
 u2 a fun b d =>
 oDeref b fun s =>
 oFld d1 s fun t =>
 oFld d4 t fun u =>
 oLd u h fun v =>
 oAdd v d fun w =>
 oLt (.int (nat_lit 9223372036854777808)) w fun e =>
 oIf e h
 (fun f => oCall k (nat_lit 197) (w3 b i4 zs) f fun x g =>
 .go d1 (w1 (.bool false)) g)
 (fun c => oDeref b fun i =>
 oFld d1 i fun j =>
 oFld d4 j fun l =>
 oLd l c fun m =>
 oAdd m d fun n =>
 oDeref b fun o =>
 oFld d1 o fun p =>
 oFld d4 p fun q =>
 oSt q n c fun r =>
 .go d1 (w1 (.bool true)) r)
noncomputable def f238 (k : K) (a : A) (h : H) : R :=
 u2 a fun b t =>
 oDeref b fun u =>
 oFld d4 u fun v =>
 oLd v h fun w =>
 oLen w fun x =>
 oSub x t fun e =>
 oDeref b fun f =>
 oFld d4 f fun g =>
 oLd g h fun c =>
 oLen c fun i =>
 oSl d4 c e i fun j =>
 oApp d4 z3 j h fun l d =>
 oDeref b fun m =>
 oFld d4 m fun n =>
 oLd n d fun o =>
 oSl d4 o i0 e fun p =>
 oDeref b fun q =>
 oFld d4 q fun r =>
 oSt r p d fun s =>
 .go d1 (w1 l) s
noncomputable def f239 (k : K) (a : A) (h : H) : R :=
 u3 a fun Q v3 v5 =>
 oDeref Q fun v7 =>
 oFld d9 v7 fun v8 =>
 oFld d0 v8 fun v9 =>
 oLd v9 h fun a4 =>
 oIdx d4 a4 v5 fun a5 =>
 oFld d2 a5 fun a6 =>
 oLd a6 h fun a7 =>
 oCall k (nat_lit 238) (w2 v3 a7) h fun a8 z =>
 oDeref Q fun a9 =>
 oFld d11 a9 fun ba =>
 oLd ba z fun bb =>
 oLen bb fun bc =>
 oSub bc i1 fun bd =>
 rThen (fun be bf => u4 be fun m bg bh n =>
 oLt n i0 fun bi =>
 oIf bi bf
 (fun bj => oDeref m fun bk =>
 oFld d0 bk fun bl =>
 oCall k (nat_lit 197) (w3 bl i2 (.str d22 (nat_lit 43549023083804649837073150802145640703433515823884403))) bj fun b5 bm =>
 .go d1 (w1 (.nd d1 .nl)) bm)
 (fun bn => oDeref m fun bo =>
 oFld d0 bo fun bp =>
 oCall k (nat_lit 237) (w2 bp i1) bn fun bq br =>
 oNot bq fun bs =>
 oIf bs br
 (fun bt => .go d1 (w1 (.nd d1 .nl)) bt)
 (fun B => oDeref m fun bu =>
 oFld d11 bu fun bv =>
 oLd bv B fun C =>
 oLen C fun bw =>
 oSl d1 C n bw fun D =>
 oLen D fun bx =>
 rThen (fun bz E => u5 bz fun c bA bB bC F =>
 oDeref c fun bD =>
 oFld d13 bD fun bE =>
 oLd bE E fun bF =>
 oOne F (oBSl d1 d1 (w1 F) E fun bG bH =>
 oApp d1 bF bG bH fun bI bJ =>
 oDeref c fun bK =>
 oFld d13 bK fun bL =>
 oSt bL bI bJ fun G =>
 oDeref c fun bM =>
 oFld d11 bM fun bN =>
 oLd bN G fun bO =>
 oSl d1 bO i0 bC fun bP =>
 oDeref c fun bQ =>
 oFld d11 bQ fun bR =>
 oSt bR bP G fun I =>
 oDeref c fun bS =>
 oFld d13 bS fun bT =>
 oLd bT I fun bU =>
 oLen bU fun bV =>
 oSub bV i1 fun J =>
 oOne J (oBSl d4 d1 (w4 i9 J zs z4) I fun bW bX =>
 oCall k (nat_lit 96) (w5 c bA bW bB (.bool true)) bX fun b6 bY =>
 .go d1 (w1 (.nd d1 .nl)) bY)))
 (rBlk d4 (cLoop (fun bZ b0 => u8 bZ fun L M N O P o p e =>
 oLt e p fun S =>
 oIf S b0
 (fun f => rThen (fun T U => u8 T fun V W X Y Z aa ab ac =>
 oAdd ac i1 fun ad =>
 .go d0 (w8 V W X Y Z aa ab ad) U)
 (rBlk d5 (oIdx d1 o e fun ae =>
 oLd ae f fun af =>
 oDeref af fun ag =>
 oLdN d6 ag f fun ah =>
 oCall k (nat_lit 299) (w1 ah) f fun q ai =>
 oOne q (oBSl d1 d1 (w1 q) ai fun aj ak =>
 oApp d1 P aj ak fun al am =>
 .go d0 (w8 L M N O al o p e) am))))
 (fun an => .go d4 (w5 L M N O P) an)) (nat_lit 100000) (w8 m bg bh n z3 D bx i0) B)))))
 (rBlk d2 (cLoop (fun ao r => u4 ao fun g s t d =>
 oLe i0 d fun b =>
 oGrd b true r (fun ap => oDeref (gsel b true g) fun aq =>
 ap aq r) fun ar u =>
 oGrd b true u (fun au => oFld d11 ar fun av =>
 au av u) fun aw i =>
 oGrd b true i (fun ax => oLd aw i fun ay =>
 ax ay i) fun az v =>
 oGrd b true v (fun aA => oIdx d1 az (gsel b true d) fun aB =>
 aA aB v) fun aC j =>
 oGrd b true j (fun aD => oLd aC j fun aE =>
 aD aE j) fun aF w =>
 oGrd b true w (fun aG => oDeref aF fun aH =>
 aG aH w) fun aI x =>
 oGrd b true x (fun aJ => oFld d5 aI fun aK =>
 aJ aK x) fun aL l =>
 oGrd b true l (fun aM => oLd aL l fun aN =>
 aM aN l) fun aO y =>
 oGrd b true y (fun aP => oNot aO fun aQ =>
 aP aQ y) fun aR aS =>
 oPick b aR (.bool false) fun aT =>
 oIf aT aS
 (fun aU => rThen (fun aV aW => u4 aV fun aX aY aZ a0 =>
 .go d0 (w4 aX aY aZ a0) aW)
 (rBlk d3 (oSub d i1 fun a1 =>
 .go d0 (w4 g s t a1) aU)))
 (fun a2 => .go d2 (w4 g s t d) a2)) (nat_lit 100000) (w4 Q v5 a8 bd) z))
noncomputable def f240 (k : K) (a : A) (h : H) : R :=
 u1 a fun b =>
 oDeref b fun r =>
 oFld d1 r fun s =>
 oFld d3 s fun t =>
 oLd t h fun u =>
 oDeref b fun v =>
 oFld d0 v fun w =>
 oLd w h fun x =>
 oLe x u fun d =>
 oIf d h
 (fun e => oCall k (nat_lit 197) (w3 b i3 zs) e fun y f =>
 .go d1 (w1 (.bool false)) f)
 (fun c => oDeref b fun g =>
 oFld d1 g fun i =>
 oFld d3 i fun j =>
 oLd j c fun l =>
 oAdd l i1 fun m =>
 oDeref b fun n =>
 oFld d1 n fun o =>
 oFld d3 o fun p =>
 oSt p m c fun q =>
 .go d1 (w1 (.bool true)) q)
noncomputable def f241 (k : K) (a : A) (h : H) : R :=
 u4 a fun b v3 i v7 =>
 oNd v3 fun g9 bu =>
 oCk (Nat.beq g9 d0) (u4 bu fun p f bv bw =>
 oCallP k (nat_lit 236) (w2 b (.nd d0 (w4 p f bv bw))) h fun bx bz =>
 oNot bx fun bA =>
 oIf bA bz
 (fun bB => .go d1 (w1 (.nd d1 .nl)) bB)
 (fun bC => rThen (fun cE bD => .go d1 (w1 (.nd d1 .nl)) bD)
 (rBlk d2 (oEqI p i8 fun bE =>
 rThen (fun cF bF => .go d0 .nl bF)
 (oIf bE bC
 (fun g => oDeref b fun bG =>
 oFld d12 bG fun bH =>
 oLd bH g fun bI =>
 oIdx d2 bI f fun bJ =>
 oLdN d2 bJ g fun bK =>
 oNd bK fun bL O =>
 oCk (Nat.beq bL d0) (oCk (Nat.beq (llen O) d2) (u2 O fun P bM =>
 oLen i fun bN =>
 oDeref b fun bO =>
 oFld d9 bO fun bP =>
 oFld d0 bP fun bQ =>
 oLd bQ g fun bR =>
 oIdx d4 bR P fun bS =>
 oFld d0 bS fun bT =>
 oLd bT g fun bU =>
 oNeI bN bU fun bV =>
 oIf bV g
 (fun bW => oDeref b fun bX =>
 oFld d0 bX fun bY =>
 oCall k (nat_lit 197) (w3 bY i2 (.str (nat_lit 25) (nat_lit 724721585148719102705817251400341815157830961211269641630327))) bW fun cG bZ =>
 .go d1 (w1 (.nd d1 .nl)) bZ)
 (fun b0 => oCall k (nat_lit 96) (w5 b P i bM v7) b0 fun cH b1 =>
 .go d0 .nl b1))))
 (fun b2 => oEqI p i6 fun b3 =>
 rThen (fun cI b4 => .go d0 .nl b4)
 (oIf b3 b2
 (fun b5 => oLen i fun b6 =>
 oCallP k (nat_lit 300) (w1 f) b5 fun b7 b8 =>
 oNeI b6 b7 fun b9 =>
 oIf b9 b8
 (fun ca => oDeref b fun cb =>
 oFld d0 cb fun cc =>
 oCall k (nat_lit 197) (w3 cc i2 (.str (nat_lit 25) (nat_lit 724721585148719102705817251400341815157830961211269641630327))) ca fun cJ cd =>
 .go d1 (w1 (.nd d1 .nl)) cd)
 (fun ce => oLen i fun cf =>
 rThen (fun cg ch => u3 cg fun ci Q cj =>
 oDeref Q fun ck =>
 oFld d0 ck fun cl =>
 oCallP k (nat_lit 301) (w3 cl ci cj) ch fun S cm =>
 oExt d0 S fun cn =>
 oExt d1 S fun co =>
 oNd cn fun cp T =>
 oCk (Nat.beq cp d0) (oCk (Nat.beq (llen T) d3) (u3 T fun cq cr cs =>
 rThen (fun cK U => .go d0 .nl U)
 (oIf co cm
 (fun ct => oCall k (nat_lit 242) (w2 Q (.nd d0 (w4 cq cr cs z4))) ct fun cz V =>
 .go d0 .nl V)
 (fun cu => .go d0 .nl cu)))))
 (rBlk d3 (cLoop (fun W X => u6 W fun q j r s t l =>
 oLt l t fun Y =>
 oIf Y X
 (fun u => rThen (fun Z aa => u6 Z fun ab ac ad ae af ag =>
 oAdd ag i1 fun ah =>
 .go d0 (w6 ab ac ad ae af ah) aa)
 (rBlk d4 (oIdx d4 s l fun ai =>
 oLdN d4 ai u fun aj =>
 oNd aj fun ak v =>
 oCk (Nat.beq ak d0) (oCk (Nat.beq (llen v) d4) (u4 v fun w x y al =>
 oCallP k (nat_lit 236) (w2 j (.nd d0 (w4 w x y al))) u fun am an =>
 oNot am fun ao =>
 oIf ao an
 (fun ap => .go d1 (w1 (.nd d1 .nl)) ap)
 (fun aq => oBSl d3 d1 (w3 w x y) aq fun ar au =>
 oApp d3 r ar au fun av aw =>
 .go d0 (w6 q j av s t l) aw))))))
 (fun ax => .go d3 (w3 q j r) ax)) (nat_lit 100000) (w6 f b z3 i cf i0) ce))))
 (fun cv => oEqI p i9 fun ay =>
 rThen (fun cA az => .go d0 .nl az)
 (oIf ay cv
 (fun aA => oLen i fun aB =>
 oNeI aB i1 fun aC =>
 oIf aC aA
 (fun aD => oDeref b fun aE =>
 oFld d0 aE fun aF =>
 oCall k (nat_lit 197) (w3 aF i2 (.str (nat_lit 25) (nat_lit 724721585148719102705817251400341815157830961211269641630327))) aD fun cB aG =>
 .go d1 (w1 (.nd d1 .nl)) aG)
 (fun m => oDeref b fun aH =>
 oFld d13 aH fun aI =>
 oLd aI m fun aJ =>
 oIdx d1 aJ f fun aK =>
 oLd aK m fun z =>
 oLen z fun aL =>
 rThen (fun aM n => u2 aM fun c aN =>
 oDeref c fun aO =>
 oFld d14 aO fun aP =>
 oLd aP n fun aQ =>
 oDeref c fun aR =>
 oFld d11 aR fun aS =>
 oLd aS n fun aT =>
 oLen aT fun aU =>
 oMax aQ aU fun aV =>
 oDeref c fun aW =>
 oFld d14 aW fun aX =>
 oSt aX aV n fun B =>
 oCall k (nat_lit 166) (w1 c) B fun aY C =>
 oIdx d4 aN i0 fun D =>
 oLdN d4 D C fun E =>
 oLdN d4 D B fun aZ =>
 oCk (eqA aZ E) (oCall k (nat_lit 233) (w2 aY E) C fun cC a0 =>
 .go d0 .nl a0))
 (rBlk d5 (cLoop (fun a1 a2 => u5 a1 fun d F G I o =>
 oLt o I fun a3 =>
 oIf a3 a2
 (fun e => rThen (fun a4 a5 => u5 a4 fun a6 a7 a8 a9 ba =>
 oAdd ba i1 fun bb =>
 .go d0 (w5 a6 a7 a8 a9 bb) a5)
 (rBlk d6 (oIdx d1 G o fun bc =>
 oLd bc e fun bd =>
 oDeref d fun be =>
 oFld d11 be fun J =>
 oLd J e fun L =>
 oDeref bd fun bf =>
 oLdN d6 bf e fun bg =>
 oCall k (nat_lit 299) (w1 bg) e fun M N =>
 oLd J N fun bh =>
 oCk (eqA bh L) (oOne M (oBSl d1 d1 (w1 M) N fun bi bj =>
 oApp d1 L bi bj fun bk bl =>
 oDeref d fun bm =>
 oFld d11 bm fun bn =>
 oSt bn bk bl fun bo =>
 .go d0 (w5 d F G I o) bo)))))
 (fun bp => .go d5 (w2 d F) bp)) (nat_lit 100000) (w5 b i z aL i0) m))))
 (fun bq => oDeref b fun br =>
 oFld d0 br fun bs =>
 oCall k (nat_lit 197) (w3 bs i2 (.str d15 (nat_lit 526743478172920109869515775543635822))) bq fun cD bt =>
 .go d0 .nl bt))))))))))
noncomputable def f242 (k : K) (a : A) (h : H) : R :=
 u2 a fun b I =>
 oNd I fun J L =>
 oCk (Nat.beq J d0) (u4 L fun f g c d =>
 oDeref b fun i =>
 oFld d11 i fun j =>
 oLd j h fun l =>
 oLen l fun m =>
 oLt i0 m fun n =>
 oIf n h
 (fun o => oCall k (nat_lit 166) (w1 b) o fun p q =>
 oCall k (nat_lit 233) (w2 p (.nd d0 (w4 f g c d))) q fun M r =>
 .go d1 (w1 (.nd d1 .nl)) r)
 (fun s => oCallP k (nat_lit 236) (w2 b (.nd d0 (w4 f g c d))) s fun t u =>
 rThen (fun N v => .go d1 (w1 (.nd d1 .nl)) v)
 (oIf t u
 (fun e => oDeref b fun w =>
 oFld d0 w fun x =>
 oDeref b fun y =>
 oFld d0 y fun z =>
 oFld d6 z fun B =>
 oLd B e fun C =>
 oCallP k (nat_lit 198) (w2 (.nd d0 (w3 f g c)) C) e fun D E =>
 oCall k (nat_lit 197) (w3 x i1 D) E fun O F =>
 .go d0 .nl F)
 (fun G => .go d0 .nl G))))
noncomputable def f243 (k : K) (a : A) (h : H) : R :=
 u1 a fun i =>
 oNd i fun j l =>
 oCk (Nat.beq j d0) (u3 l fun m n o =>
 oEqI m i2 fun b =>
 oGrd b true h (fun c => oEqI (gsel b true n) i0 fun d =>
 c d h) fun e f =>
 oPick b e (.bool false) fun g =>
 .go d1 (w1 g) f)
noncomputable def f249 (k : K) (a : A) (h : H) : R :=
 u4 a fun c b d r =>
 rThen (fun r9 E => .go d1 (w1 (.bool false)) E)
 (rBlk d2 (oEqI c i0 fun F =>
 oIf F h
 (fun s => oEqI b i0 fun e =>
 oGrd e true s (fun G => oEqS (gsel e true d) zs fun I =>
 G I s) fun J L =>
 oPick e J (.bool false) fun M =>
 .go d1 (w1 M) L)
 (fun N => oEqI c i1 fun O =>
 oIf O N
 (fun t => oEqI b i0 fun f =>
 oGrd f true t (fun P => oEqI (gsel f true r) i0 fun Q =>
 P Q t) fun S u =>
 oPick f S (.bool false) fun g =>
 oGrd g true u (fun T => oCallP k (nat_lit 180) (w1 (gsel g true d)) u fun U V =>
 T U V) fun W X =>
 oPick g W (.bool false) fun Y =>
 .go d1 (w1 Y) X)
 (fun Z => oEqI c i2 fun aa =>
 oIf aa Z
 (fun v => oLe (.int (nat_lit 9223372035854775809)) b fun i =>
 oGrd i true v (fun ab => oLe (gsel i true b) (.int (nat_lit 9223372037854775807)) fun ac =>
 ab ac v) fun ad w =>
 oPick i ad (.bool false) fun j =>
 oGrd j true w (fun ae => oEqS (gsel j true d) zs fun af =>
 ae af w) fun ag x =>
 oPick j ag (.bool false) fun l =>
 oGrd l true x (fun ah => oEqI (gsel l true r) i0 fun ai =>
 ah ai x) fun aj ak =>
 oPick l aj (.bool false) fun al =>
 .go d1 (w1 al) ak)
 (fun am => oEqI c i3 fun an =>
 oIf an am
 (fun y => oEqI b i0 fun m =>
 oGrd m false y (fun ao => oEqI (gsel m false b) i1 fun ap =>
 ao ap y) fun aq z =>
 oPick m (.bool true) aq fun n =>
 oGrd n true z (fun ar => oEqS (gsel n true d) zs fun au =>
 ar au z) fun av B =>
 oPick n av (.bool false) fun o =>
 oGrd o true B (fun aw => oEqI (gsel o true r) i0 fun ax =>
 aw ax B) fun ay az =>
 oPick o ay (.bool false) fun aA =>
 .go d1 (w1 aA) az)
 (fun aB => oEqI c i4 fun aC =>
 oIf aC aB
 (fun C => oEqI b i0 fun p =>
 oGrd p true C (fun aD => oEqI (gsel p true r) i0 fun aE =>
 aD aE C) fun aF D =>
 oPick p aF (.bool false) fun q =>
 oGrd q true D (fun aG => oCall k (nat_lit 170) (w1 (gsel q true d)) D fun aH aI =>
 aG aH aI) fun aJ aK =>
 oPick q aJ (.bool false) fun aL =>
 .go d1 (w1 aL) aK)
 (fun aM => .go d0 .nl aM)))))))
noncomputable def f252 (k : K) (a : A) (h : H) : R :=
 u2 a fun B C =>
 oNd C fun D E =>
 oCk (Nat.beq D d0) (u5 E fun f F g i j =>
 oNeI f i1 fun l =>
 oIf l h
 (fun m => .go d1 (w1 (.int (nat_lit 9223372036854775807))) m)
 (fun n => oCall k (nat_lit 191) (w2 B (.nd d0 (w5 f F g i j))) n fun c d =>
 oExt d0 c fun o =>
 oExt d1 c fun p =>
 oNd o fun q e =>
 oCk (Nat.beq q d0) (oCk (Nat.beq (llen e) d4) (u4 e fun G I r s =>
 oNeI p i1 fun b =>
 oGrd b false d (fun t => oNeI (gsel b false r) i1 fun u =>
 t u d) fun v w =>
 oPick b (.bool true) v fun x =>
 oIf x w
 (fun y => .go d1 (w1 (.int (nat_lit 9223372036854775807))) y)
 (fun z => .go d1 (w1 s) z)))))
noncomputable def f253 (k : K) (a : A) (h : H) : R :=
 u1 a fun j =>
 oLen j fun M =>
 rThen (fun N O => u1 N fun P =>
 .go d1 (w1 P) O)
 (rBlk d2 (cLoop (fun Q S => u4 Q fun c d e b =>
 oLt b e fun l =>
 oIf l S
 (fun f => rThen (fun m n => u4 m fun o p q r =>
 oAdd r i1 fun s =>
 .go d0 (w4 o p q s) n)
 (rBlk d3 (oIdx d5 d b fun t =>
 oLdN d5 t f fun u =>
 oNd u fun v g =>
 oCk (Nat.beq v d0) (oCk (Nat.beq (llen g) d5) (u5 g fun w x y z B =>
 oCall k (nat_lit 254) (w1 (.nd d0 (w5 w x y z B))) f fun C D =>
 oNd C fun E i =>
 oCk (Nat.beq E d0) (oCk (Nat.beq (llen i) d5) (oBSl d5 d1 (lapp i .nl) D fun F G =>
 oApp d5 c F G fun I J =>
 .go d0 (w4 I d e b) J)))))))
 (fun L => .go d2 (w1 c) L)) (nat_lit 100000) (w4 z3 j M i0) h))
noncomputable def f254 (k : K) (a : A) (h : H) : R :=
 u1 a fun o =>
 oNd o fun p q =>
 oCk (Nat.beq p d0) (u5 q fun r s t c d =>
 oCall k (nat_lit 266) (w2 (.nd d0 (w5 r s t c d)) (.nd (nat_lit 283) .nl)) h fun e f =>
 oNd e fun g b =>
 oCk (Nat.beq g d0) (oCk (Nat.beq (llen b) d5) (u5 b fun i j l m n =>
 .go d1 (w1 (.nd d0 (w5 i j l m n))) f)))
noncomputable def f255 (k : K) (a : A) (h : H) : R :=
 u1 a fun v1 =>
 oNd v1 fun g3 l4 =>
 oCk (Nat.beq g3 d0) (u3 l4 fun v5 r v9 =>
 oCallP k (nat_lit 311) (w1 v5) h fun bf M =>
 oNot bf fun e =>
 oGrd e false M (fun bg => oLen (gsel e false r) fun bh =>
 bg bh M) fun bi N =>
 oGrd e false N (fun bj => oLen (gsel e false v9) fun bk =>
 bj bk N) fun bl O =>
 oGrd e false O (fun bm => oNeI bi bl fun bn =>
 bm bn O) fun bo P =>
 oPick e (.bool true) bo fun o =>
 oGrd o false P (fun bp => oLen (gsel o false r) fun bq =>
 bp bq P) fun br Q =>
 oGrd o false Q (fun bs => oLt br i1 fun bt =>
 bs bt Q) fun bu S =>
 oPick o (.bool true) bu fun p =>
 oGrd p false S (fun bv => oLen (gsel p false r) fun bw =>
 bv bw S) fun bx T =>
 oGrd p false T (fun bz => oLt i12 bx fun bA =>
 bz bA T) fun bB bC =>
 oPick p (.bool true) bB fun bD =>
 oIf bD bC
 (fun bE => .go d1 (w1 (.bool false)) bE)
 (fun bF => oLen r fun bG =>
 rThen (fun bH bI => u1 bH fun bJ =>
 oLe bJ (.int (nat_lit 9223372036854777808)) fun bK =>
 .go d1 (w1 bK) bI)
 (rBlk d2 (cLoop (fun bL bM => u6 bL fun U s V W X i =>
 oLt i X fun bN =>
 oIf bN bM
 (fun Y => rThen (fun bO bP => u6 bO fun bQ bR bS bT bU bV =>
 oAdd bV i1 fun bW =>
 .go d0 (w6 bQ bR bS bT bU bW) bP)
 (rBlk d3 (oIdx d5 W i fun bX =>
 oLdN d5 bX Y fun bY =>
 oNd bY fun bZ Z =>
 oCk (Nat.beq bZ d0) (oCk (Nat.beq (llen Z) d5) (u5 Z fun q t u v f =>
 oCallP k (nat_lit 312) (w1 (.nd d0 (w5 q t u v f))) Y fun b0 w =>
 oNot b0 fun j =>
 oGrd j false w (fun aa => oNeI (gsel j false q) i0 fun ab =>
 aa ab w) fun ac x =>
 oPick j (.bool true) ac fun g =>
 oGrd g false x (fun ad => oLen (gsel g false f) fun ae =>
 ad ae x) fun af y =>
 oGrd g false y (fun ag => oEqI af i0 fun ah =>
 ag ah y) fun ai z =>
 oPick g (.bool true) ai fun c =>
 oGrd c false z (fun aj => oIdx d5 (gsel c false f) i0 fun ak =>
 aj ak z) fun al B =>
 oGrd c false B (fun am => oFld d0 al fun an =>
 am an B) fun ao l =>
 oGrd c false l (fun ap => oLd ao l fun aq =>
 ap aq l) fun ar C =>
 oGrd c false C (fun au => oNeI ar i1 fun av =>
 au av C) fun aw D =>
 oPick c (.bool true) aw fun d =>
 oGrd d false D (fun ax => oIdx d5 (gsel d false f) i0 fun ay =>
 ax ay D) fun az m =>
 oGrd d false m (fun aA => oLdN d5 az m fun aB =>
 aA aB m) fun aC E =>
 oGrd d false E (fun aD => oCallP k (nat_lit 313) (w1 aC) E fun aE aF =>
 aD aE aF) fun aG aH =>
 oPick d (.bool true) aG fun aI =>
 oIf aI aH
 (fun aJ => .go d1 (w1 (.bool false)) aJ)
 (fun aK => oCall k (nat_lit 315) (w1 (.nd d0 (w5 q t u v f))) aK fun aL aM =>
 oCall k (nat_lit 314) (w2 U aL) aM fun F G =>
 oExt d0 F fun aN =>
 oExt d1 F fun aO =>
 oNot aO fun b =>
 oGrd b false G (fun aP => oIdx d5 (gsel b false s) (gsel b false i) fun aQ =>
 aP aQ G) fun aR n =>
 oGrd b false n (fun aS => oLdN d5 aR n fun aT =>
 aS aT n) fun aU I =>
 oGrd b false I (fun aV => oCallP k (nat_lit 316) (w2 (gsel b false aN) aU) I fun aW aX =>
 aV aW aX) fun aY J =>
 oGrd b false J (fun aZ => oNot aY fun a0 =>
 aZ a0 J) fun a1 a2 =>
 oPick b (.bool true) a1 fun a3 =>
 oIf a3 a2
 (fun a4 => .go d1 (w1 (.bool false)) a4)
 (fun a5 => oCallP k (nat_lit 317) (w1 (.nd d0 (w5 q t u v f))) a5 fun a6 L =>
 oIdx d5 s i fun a7 =>
 oLdN d5 a7 L fun a8 =>
 oCallP k (nat_lit 317) (w1 a8) L fun a9 ba =>
 oAdd a6 a9 fun bb =>
 oAdd V bb fun bc =>
 .go d0 (w6 U s bc W X i) ba)))))))
 (fun b1 => .go d2 (w1 V) b1)) (nat_lit 100000) (w6 v5 v9 i0 r bG i0) bF))))
noncomputable def f256 (k : K) (a : A) (h : H) : R :=
 u3 a fun l O P =>
 oLen l fun Q =>
 rThen (fun V S => .go d1 (w1 (.bool false)) S)
 (rBlk d2 (cLoop (fun m n => u5 m fun e f g i c =>
 oLt c i fun o =>
 oIf o n
 (fun d => rThen (fun p q => u5 p fun r s t u v =>
 oAdd v i1 fun w =>
 .go d0 (w5 r s t u w) q)
 (rBlk d3 (oIdx d4 g c fun x =>
 oLdN d4 x d fun y =>
 oNd y fun z j =>
 oCk (Nat.beq z d0) (oCk (Nat.beq (llen j) d4) (u4 j fun B C T U =>
 oEqS B e fun b =>
 oGrd b true d (fun D => oCallP k (nat_lit 318) (w2 (gsel b true C) (gsel b true f)) d fun E F =>
 D E F) fun G I =>
 oPick b G (.bool false) fun J =>
 oIf J I
 (fun L => .go d1 (w1 (.bool true)) L)
 (fun M => .go d0 (w5 e f g i c) M))))))
 (fun N => .go d2 .nl N)) (nat_lit 100000) (w5 O P l Q i0) h))
noncomputable def f257 (k : K) (a : A) (h : H) : R :=
 u1 a fun i =>
 oNd i fun j l =>
 oCk (Nat.beq j d0) (u3 l fun m n o =>
 oCall k (nat_lit 253) (w1 m) h fun b e =>
 oCall k (nat_lit 253) (w1 n) e fun c f =>
 oCall k (nat_lit 253) (w1 o) f fun d g =>
 oOne b (oOne c (oOne d (.go d1 (w1 (.nd d0 (w3 b c d))) g))))
noncomputable def f258 (k : K) (a : A) (h : H) : R :=
 u1 a fun c =>
 bLe (.byt (nat_lit 48)) c fun b =>
 oGrd b true h (fun d => bLe (gsel b true c) (.byt (nat_lit 57)) fun e =>
 d e h) fun f g =>
 oPick b f (.bool false) fun i =>
 .go d1 (w1 i) g
noncomputable def f259 (k : K) (a : A) (h : H) : R :=
 u1 a fun b =>
 bLe (.byt (nat_lit 97)) b fun s =>
 oGrd s true h (fun k4 => bLe (gsel s true b) (.byt (nat_lit 122)) fun v7 =>
 k4 v7 h) fun v5 t =>
 oPick s v5 (.bool false) fun c =>
 oGrd c false t (fun k9 => bLe (.byt (nat_lit 48)) (gsel c false b) fun u =>
 k9 u t) fun d e =>
 oGrd (gsel c false d) true e (fun v => bLe (gsel (gsel c false d) true b) (.byt (nat_lit 57)) fun w =>
 v w e) fun x f =>
 oGrd c false f (fun y => oPick (gsel c false d) x (.bool false) fun z =>
 y z f) fun B C =>
 oPick c (.bool true) B fun D =>
 oIf D C
 (fun E => .go d1 (w1 (.bool true)) E)
 (fun F => rThen (fun aR G => .go d1 (w1 (.bool false)) G)
 (rBlk d2 (bEq b (.byt (nat_lit 33)) fun g =>
 rThen (fun I J => u1 I fun L =>
 oIf L J
 (fun M => .go d1 (w1 (.bool true)) M)
 (fun N => .go d0 .nl N))
 (oIf g F
 (fun O => .go d0 (w1 g) O)
 (fun P => bEq b (.byt (nat_lit 63)) fun i =>
 rThen (fun Q S => u1 Q fun T =>
 .go d0 (w1 T) S)
 (oIf i P
 (fun U => .go d0 (w1 i) U)
 (fun V => bEq b (.byt (nat_lit 42)) fun j =>
 rThen (fun W X => u1 W fun Y =>
 .go d0 (w1 Y) X)
 (oIf j V
 (fun Z => .go d0 (w1 j) Z)
 (fun aa => bEq b (.byt (nat_lit 60)) fun l =>
 rThen (fun ab ac => u1 ab fun ad =>
 .go d0 (w1 ad) ac)
 (oIf l aa
 (fun ae => .go d0 (w1 l) ae)
 (fun af => bEq b (.byt (nat_lit 62)) fun m =>
 rThen (fun ag ah => u1 ag fun ai =>
 .go d0 (w1 ai) ah)
 (oIf m af
 (fun aj => .go d0 (w1 m) aj)
 (fun ak => bEq b (.byt (nat_lit 61)) fun n =>
 rThen (fun al am => u1 al fun an =>
 .go d0 (w1 an) am)
 (oIf n ak
 (fun ao => .go d0 (w1 n) ao)
 (fun ap => bEq b (.byt (nat_lit 47)) fun o =>
 rThen (fun aq ar => u1 aq fun au =>
 .go d0 (w1 au) ar)
 (oIf o ap
 (fun av => .go d0 (w1 o) av)
 (fun aw => bEq b (.byt (nat_lit 43)) fun p =>
 rThen (fun ax ay => u1 ax fun az =>
 .go d0 (w1 az) ay)
 (oIf p aw
 (fun aA => .go d0 (w1 p) aA)
 (fun aB => bEq b (.byt (nat_lit 45)) fun q =>
 rThen (fun aC aD => u1 aC fun aE =>
 .go d0 (w1 aE) aD)
 (oIf q aB
 (fun aF => .go d0 (w1 q) aF)
 (fun aG => bEq b (.byt (nat_lit 46)) fun r =>
 rThen (fun aH aI => u1 aH fun aJ =>
 .go d0 (w1 aJ) aI)
 (oIf r aG
 (fun aK => .go d0 (w1 r) aK)
 (fun aL => bEq b (.byt (nat_lit 95)) fun aM =>
 .go d0 (w1 aM) aL)))))))))))))))))))))))
noncomputable def f260 (k : K) (a : A) (h : H) : R :=
 u1 a fun b =>
 oOne b (.go d1 (w1 (.nd d0 (w4 i1 i0 b z3))) h)
noncomputable def f261 (k : K) (a : A) (h : H) : R :=
 u1 a fun n =>
 oLen n fun P =>
 rThen (fun Q S => u4 Q fun T U o p =>
 .go d1 (w1 (.nd d0 (w4 T U o p))) S)
 (rBlk d2 (cLoop (fun q r => u7 q fun c d e f g i b =>
 oLt b i fun s =>
 oIf s r
 (fun j => rThen (fun t u => u7 t fun v w x y z B C =>
 oAdd C i1 fun D =>
 .go d0 (w7 v w x y z B D) u)
 (rBlk d3 (oIdx d1 g b fun E =>
 oLd E j fun F =>
 oCallP k (nat_lit 260) (w1 F) j fun G I =>
 oNd G fun J l =>
 oCk (Nat.beq J d0) (oCk (Nat.beq (llen l) d4) (oBSl d4 d1 (lapp l .nl) I fun L M =>
 oApp d4 f L M fun m N =>
 oOne m (.go d0 (w7 c d e m g i b) N))))))
 (fun O => .go d2 (w4 c d e f) O)) (nat_lit 100000) (w7 i0 i0 zs z3 n P i0) h))
noncomputable def f262 (k : K) (a : A) (h : H) : R :=
 u1 a fun j =>
 oLen j fun v3 =>
 oLt (.int (nat_lit 9223372036854776808)) v3 fun v4 =>
 oIf v4 h
 (fun h5 => .go d1 (w1 (.bool false)) h5)
 (fun h6 => oMkM (nat_lit 99) h6 fun v7 h8 =>
 oLen j fun v9 =>
 rThen (fun a1 ah => .go d1 (w1 (.bool true)) ah)
 (rBlk d2 (cLoop (fun ai aj => u5 ai fun ak l m n d =>
 oLt d n fun al =>
 oIf al aj
 (fun o => rThen (fun am an => u5 am fun ao ap aq ar au =>
 oAdd au i1 fun av =>
 .go d0 (w5 ao ap aq ar av) an)
 (rBlk d3 (oIdx d4 m d fun aw =>
 oLdN d4 aw o fun ax =>
 oNd ax fun ay p =>
 oCk (Nat.beq ay d0) (oCk (Nat.beq (llen p) d4) (u4 p fun e q az aA =>
 oCallP k (nat_lit 319) (w1 (.nd d0 (w4 e q az aA))) o fun aB aC =>
 oNot aB fun aD =>
 oIf aD aC
 (fun aE => .go d1 (w1 (.bool false)) aE)
 (fun r => oLook (nat_lit 99) z3 l e r fun s =>
 oLen s fun aF =>
 rThen (fun aG t => u7 aG fun u aH f v aI aJ aK =>
 oLook (nat_lit 99) z3 f u t fun aL =>
 oOne v (oBSl d1 d1 (w1 v) t fun aM aN =>
 oApp d1 aL aM aN fun aO aP =>
 oMUp (nat_lit 99) f u aO aP fun aQ =>
 .go d0 (w5 aH f aI aJ aK) aQ))
 (rBlk d4 (cLoop (fun aR aS => u11 aR fun w x g y z B C D E i b =>
 oLt b i fun F =>
 oIf F aS
 (fun c => rThen (fun G I => u11 G fun J L M N O P Q S T U V =>
 oAdd V i1 fun W =>
 .go d0 (w11 J L M N O P Q S T U W) I)
 (rBlk d5 (oIdx d1 E b fun X =>
 oLd X c fun Y =>
 oIdx d4 g Y fun Z =>
 oFld d1 Z fun aa =>
 oLd aa c fun ab =>
 oCallP k (nat_lit 318) (w2 ab x) c fun ac ad =>
 oIf ac ad
 (fun ae => .go d1 (w1 (.bool false)) ae)
 (fun af => .go d0 (w11 w x g y z B C D E i b) af))))
 (fun ag => .go d4 (w7 w g y z B C D) ag)) (nat_lit 100000) (w11 e q ak l d m n d s aF i0) r))))))))
 (fun aT => .go d2 .nl aT)) (nat_lit 100000) (w5 j v7 j v9 i0) h8)))
noncomputable def f263 (k : K) (a : A) (h : H) : R :=
 u2 a fun t f =>
 oNd t fun u v =>
 oCk (Nat.beq u d0) (u3 v fun w x g =>
 oCallP k (nat_lit 320) (w2 w f) h fun b d =>
 oGrd b true d (fun i => oCallP k (nat_lit 320) (w2 (gsel b true x) (gsel b true f)) d fun j l =>
 i j l) fun m e =>
 oPick b m (.bool false) fun c =>
 oGrd c true e (fun n => oCallP k (nat_lit 320) (w2 (gsel c true g) (gsel c true f)) e fun o p =>
 n o p) fun q r =>
 oPick c q (.bool false) fun s =>
 .go d1 (w1 s) r)
noncomputable def f264 (k : K) (a : A) (h : H) : R :=
 u1 a fun j =>
 oLen j fun L =>
 rThen (fun M N => u1 M fun O =>
 .go d1 (w1 O) N)
 (rBlk d2 (cLoop (fun P Q => u4 P fun c d e b =>
 oLt b e fun l =>
 oIf l Q
 (fun f => rThen (fun m n => u4 m fun o p q r =>
 oAdd r i1 fun s =>
 .go d0 (w4 o p q s) n)
 (rBlk d3 (oIdx d4 d b fun t =>
 oLdN d4 t f fun u =>
 oNd u fun v g =>
 oCk (Nat.beq v d0) (oCk (Nat.beq (llen g) d4) (u4 g fun w x y z =>
 oCall k (nat_lit 279) (w1 (.nd d0 (w4 w x y z))) f fun B C =>
 oNd B fun D i =>
 oCk (Nat.beq D d0) (oCk (Nat.beq (llen i) d4) (oBSl d4 d1 (lapp i .nl) C fun E F =>
 oApp d4 c E F fun G I =>
 .go d0 (w4 G d e b) I)))))))
 (fun J => .go d2 (w1 c) J)) (nat_lit 100000) (w4 z3 j L i0) h))
noncomputable def f265 (k : K) (a : A) (h : H) : R :=
 u2 a fun g G =>
 oAdd g i1 fun I =>
 rThen (fun M J => .go d1 (w1 i0) J)
 (rBlk d2 (cLoop (fun L i => u3 L fun d e b =>
 oLe b (.int (nat_lit 9223372036854875807)) fun c =>
 oGrd c true i (fun j => oAdd (gsel c true d) i3 fun l =>
 j l i) fun m f =>
 oGrd c true f (fun n => oLe (gsel c true b) m fun o =>
 n o f) fun p q =>
 oPick c p (.bool false) fun r =>
 oIf r q
 (fun s => rThen (fun t u => u3 t fun v w x =>
 oAdd x i1 fun y =>
 .go d0 (w3 v w y) u)
 (rBlk d3 (oCallP k (nat_lit 321) (w1 b) s fun z B =>
 oEqI z e fun C =>
 oIf C B
 (fun D => .go d1 (w1 b) D)
 (fun E => .go d0 (w3 d e b) E))))
 (fun F => .go d2 .nl F)) (nat_lit 100000) (w3 g G I) h))
noncomputable def f266 (k : K) (a : A) (h : H) : R :=
 u2 a fun v1 x =>
 oNd v1 fun g5 l6 =>
 oCk (Nat.beq g5 d0) (u5 l6 fun g y b i j =>
 oCall k (nat_lit 183) (w1 i) h fun l N =>
 oOne g (oOne y (oOne b (oOne l (oEqI g i1 fun O =>
 rThen (fun P Q => u7 P fun m S T U V W X =>
 oLen m fun Y =>
 rThen (fun Z aa => u5 Z fun ab ac ad ae af =>
 .go d1 (w1 (.nd d0 (w5 ab ac ad ae af))) aa)
 (rBlk d2 (cLoop (fun ag ah => u9 ag fun n o p q r s t u c =>
 oLt c u fun ai =>
 oIf ai ah
 (fun v => rThen (fun aj ak => u9 aj fun al am an ao ap aq ar au av =>
 oAdd av i1 fun aw =>
 .go d0 (w9 al am an ao ap aq ar au aw) ak)
 (rBlk d3 (oIdx d5 t c fun ax =>
 oLdN d5 ax v fun ay =>
 oNd ay fun az w =>
 oCk (Nat.beq az d0) (oCk (Nat.beq (llen w) d5) (u5 w fun aA z B C D =>
 oCall k (nat_lit 266) (w2 (.nd d0 (w5 aA z B C D)) s) v fun E F =>
 oNd E fun G d =>
 oCk (Nat.beq G d0) (oCk (Nat.beq (llen d) d5) (oBSl d5 d1 (lapp d .nl) F fun I J =>
 oApp d5 r I J fun e L =>
 oOne e (.go d0 (w9 n o p q e s t u c) L))))))))
 (fun aB => .go d2 (w5 n o p q r) aB)) (nat_lit 100000) (w9 S T U V W X m Y i0) Q)))
 (oIf O N
 (fun aC => oCallV k x (w1 i) aC fun f M =>
 oOne f (.go d0 (w7 j g y b f z3 x) M))
 (fun aD => .go d0 (w7 j g y b l z3 x) aD)))))))
noncomputable def f267 (k : K) (a : A) (h : H) : R :=
 u2 a fun b c =>
 oLd c h fun d =>
 oCall k (nat_lit 268) (w2 b d) h fun e f =>
 .go d1 (w1 e) f
noncomputable def f268 (k : K) (a : A) (h : H) : R :=
 u2 a fun v v3 =>
 oLen v fun v5 =>
 rThen (fun r6 h7 => u3 r6 fun w m x =>
 oNot x fun y =>
 rThen (fun z B => u1 z fun C =>
 .go d1 (w1 C) B)
 (oIf y h7
 (fun D => oOne w (oBSl d1 d1 (w1 w) D fun E F =>
 oApp d1 m E F fun G I =>
 .go d0 (w1 G) I))
 (fun J => .go d0 (w1 m) J)))
 (rBlk d2 (cLoop (fun L M => u6 L fun b e j f g c =>
 oLt c g fun N =>
 oIf N M
 (fun l => rThen (fun O P => u6 O fun Q S T U V W =>
 oAdd W i1 fun X =>
 .go d0 (w6 Q S T U V X) P)
 (rBlk d3 (oIdx d1 f c fun Y =>
 oLd Y l fun d =>
 oNot j fun i =>
 oGrd i true l (fun Z => oLe (gsel i true b) (gsel i true d) fun aa =>
 Z aa l) fun ab ac =>
 oPick i ab (.bool false) fun ad =>
 rThen (fun ae af => u7 ae fun ag ah ai n aj ak al =>
 oOne n (oBSl d1 d1 (w1 n) af fun am an =>
 oApp d1 ah am an fun ao ap =>
 .go d0 (w6 ag ao ai aj ak al) ap))
 (oIf ad ac
 (fun aq => oNeI d b fun ar =>
 rThen (fun au av => u7 au fun aw ax ay az o p q =>
 .go d0 (w7 aw ax ay az o p q) av)
 (oIf ar aq
 (fun aA => oOne b (oBSl d1 d1 (w1 b) aA fun r s =>
 oApp d1 e r s fun t u =>
 .go d0 (w7 b t (.bool true) d f g c) u))
 (fun aB => .go d0 (w7 b e (.bool true) d f g c) aB)))
 (fun aC => .go d0 (w7 b e j d f g c) aC)))))
 (fun aD => .go d2 (w3 b e j) aD)) (nat_lit 100000) (w6 v3 z3 (.bool false) v v5 i0) h))
noncomputable def f269 (k : K) (a : A) (h : H) : R :=
 u1 a fun b =>
 oDeref b fun l =>
 oFld d5 l fun m =>
 oLd m h fun n =>
 oAdd n i1 fun o =>
 oDeref b fun p =>
 oFld d5 p fun q =>
 oSt q o h fun c =>
 oDeref b fun d =>
 oFld d5 d fun e =>
 oLd e c fun f =>
 oLt (.int (nat_lit 9223372036854778808)) f fun g =>
 oIf g c
 (fun i => .go d1 (w1 i8) i)
 (fun j => .go d1 (w1 i0) j)
noncomputable def f270 (k : K) (a : A) (h : H) : R :=
 u2 a fun v1 v3 =>
 oNd v3 fun g5 l6 =>
 oCk (Nat.beq g5 d0) (u5 l6 fun v7 v9 am an d =>
 oNeI v7 i0 fun c =>
 oGrd c false h (fun q => oLen (gsel c false d) fun r =>
 q r h) fun s i =>
 oGrd c false i (fun t => oEqI s i0 fun u =>
 t u i) fun v j =>
 oPick c (.bool true) v fun b =>
 oGrd b false j (fun w => oIdx d5 (gsel b false d) i0 fun x =>
 w x j) fun y l =>
 oGrd b false l (fun z => oFld d0 y fun B =>
 z B l) fun C e =>
 oGrd b false e (fun D => oLd C e fun E =>
 D E e) fun F m =>
 oGrd b false m (fun G => oNeI F i1 fun I =>
 G I m) fun J L =>
 oPick b (.bool true) J fun M =>
 oIf M L
 (fun N => .go d1 (w1 (.int (nat_lit 9223372036854775807))) N)
 (fun f => oDeref v1 fun O =>
 oFld d0 O fun P =>
 oFld d0 P fun Q =>
 oLd Q f fun S =>
 oIdx d5 d i0 fun T =>
 oLdN d5 T f fun U =>
 oCall k (nat_lit 191) (w2 S U) f fun n o =>
 oExt d0 n fun V =>
 oExt d1 n fun W =>
 oNd V fun X p =>
 oCk (Nat.beq X d0) (oCk (Nat.beq (llen p) d4) (u4 p fun ao ap Y Z =>
 oNeI W i1 fun g =>
 oGrd g false o (fun aa => oNeI (gsel g false Y) i4 fun ab =>
 aa ab o) fun ac ad =>
 oPick g (.bool true) ac fun ae =>
 oIf ae ad
 (fun af => .go d1 (w1 (.int (nat_lit 9223372036854775807))) af)
 (fun ag => .go d1 (w1 Z) ag)))))
noncomputable def f271 (k : K) (a : A) (h : H) : R :=
 u3 a fun b v3 v5 =>
 oNd v3 fun g7 l8 =>
 oCk (Nat.beq g7 d0) (u5 l8 fun v9 y z B C =>
 oDeref b fun D =>
 oFld d0 D fun E =>
 oFld d4 E fun F =>
 oLd F h fun G =>
 oEqI G i0 fun I =>
 oIf I h
 (fun J => .go d1 (w1 (.nd d1 (w2 (.nd d0 (w5 i0 i0 zs z3 z3)) i7))) J)
 (fun n => oDeref b fun L =>
 oFld d0 L fun M =>
 oFld d4 M fun N =>
 oLd N n fun O =>
 oSub O i1 fun P =>
 oDeref b fun Q =>
 oFld d0 Q fun S =>
 oFld d4 S fun T =>
 oSt T P n fun U =>
 oCall k (nat_lit 186) (w2 b i3) U fun o V =>
 oExt d0 o fun W =>
 oExt d1 o fun p =>
 oNeI p i0 fun X =>
 oIf X V
 (fun Y => .go d1 (w1 (.nd d1 (w2 (.nd d0 (w5 i0 i0 zs z3 z3)) p))) Y)
 (fun Z => oCall k (nat_lit 186) (w2 b i2) Z fun q aa =>
 oExt d0 q fun r =>
 oExt d1 q fun s =>
 oNeI s i0 fun ab =>
 oIf ab aa
 (fun ac => .go d1 (w1 (.nd d1 (w2 (.nd d0 (w5 i0 i0 zs z3 z3)) s))) ac)
 (fun c => oDeref b fun ad =>
 oFld d0 ad fun ae =>
 oFld d0 ae fun f =>
 oLd f c fun g =>
 oDeref b fun af =>
 oFld d0 af fun ag =>
 oFld d1 ag fun i =>
 oLd i c fun j =>
 oIdx d3 j v5 fun l =>
 oLdN d3 l c fun m =>
 oCall k (nat_lit 188) (w2 (.nd d0 (w5 v9 y z B C)) W) c fun ah d =>
 oLdN d3 l d fun w =>
 oCk (eqA w m) (oLd i d fun x =>
 oCk (eqA x j) (oLd f d fun ai =>
 oCk (eqA ai g) (oCall k (nat_lit 323) (w2 ah r) d fun aj e =>
 oLdN d3 l e fun ak =>
 oCk (eqA ak m) (oLd i e fun al =>
 oCk (eqA al j) (oLd f e fun am =>
 oCk (eqA am g) (oCall k (nat_lit 322) (w3 g m aj) e fun t an =>
 oExt d0 t fun ao =>
 oExt d1 t fun ap =>
 oNd ao fun aq u =>
 oCk (Nat.beq aq d0) (oCk (Nat.beq (llen u) d5) (u5 u fun ar au av aw ax =>
 oNot ap fun ay =>
 oIf ay an
 (fun az => .go d1 (w1 (.nd d1 (w2 (.nd d0 (w5 i0 i0 zs z3 z3)) i6))) az)
 (fun aA => oCall k (nat_lit 323) (w2 (.nd d0 (w5 ar au av aw ax)) r) aA fun aB aC =>
 oNd aB fun aD v =>
 oCk (Nat.beq aD d0) (oCk (Nat.beq (llen v) d5) (u5 v fun aE aF aG aH aI =>
 .go d1 (w1 (.nd d1 (w2 (.nd d0 (w5 aE aF aG aH aI)) i0))) aC)))))))))))))))
noncomputable def f272 (k : K) (a : A) (h : H) : R :=
 u2 a fun y z =>
 oNd z fun B C =>
 oCk (Nat.beq B d0) (u5 C fun D G E F d =>
 oNeI D i0 fun b =>
 oGrd b false h (fun f => oLen (gsel b false d) fun g =>
 f g h) fun i e =>
 oGrd b false e (fun j => oEqI i i0 fun l =>
 j l e) fun m n =>
 oPick b (.bool true) m fun o =>
 oIf o n
 (fun p => .go d1 (w1 (.int (nat_lit 9223372036854775807))) p)
 (fun c => oDeref y fun q =>
 oFld d0 q fun r =>
 oFld d0 r fun s =>
 oLd s c fun t =>
 oIdx d5 d i0 fun u =>
 oLdN d5 u c fun v =>
 oCallP k (nat_lit 252) (w2 t v) c fun w x =>
 .go d1 (w1 w) x))
noncomputable def f273 (k : K) (a : A) (h : H) : R :=
 oBSl d1 d12 (w12 (.str d5 (nat_lit 435745158513)) (.str d6 (nat_lit 107083775959404)) (.str d2 (nat_lit 26217)) (.str d4 (nat_lit 561276275)) (.str d5 (nat_lit 474214786402)) (.str d5 (nat_lit 499918267762)) (.str d5 (nat_lit 499934390387)) (.str d6 (nat_lit 111524889126244)) (.str d13 (nat_lit 9537540304760134829668875789668)) (.str d10 (nat_lit 568481701896198680765804)) (.str d12 (nat_lit 35713389819312331449932085619)) (.str d5 (nat_lit 465490374508))) h fun b c =>
 .go d1 (w1 b) c
noncomputable def f274 (k : K) (a : A) (h : H) : R :=
 u2 a fun v1 v3 =>
 oNd v3 fun g5 l6 =>
 oCk (Nat.beq g5 d0) (u5 l6 fun v7 v9 bd be b =>
 oLen b fun an =>
 oLt an i3 fun ao =>
 oIf ao h
 (fun ap => .go d1 (w1 (.nd d1 (w2 (.nd d0 (w9 (.bool false) i0 i0 i0 zs z3 z3 z3 z3)) i1))) ap)
 (fun g => oIdx d5 b i1 fun aq =>
 oLdN d5 aq g fun ar =>
 oNd ar fun au r =>
 oCk (Nat.beq au d0) (oCk (Nat.beq (llen r) d5) (u5 r fun i av aw ax c =>
 rThen (fun ay az => u14 ay fun aA aB aC aD aE aF aG aH aI aJ aK aL aM aN =>
 oCall k (nat_lit 266) (w2 (.nd d0 (w5 aI aJ aK aL aM)) (.nd (nat_lit 375) .nl)) az fun aO aP =>
 oCall k (nat_lit 325) (w2 aN aO) aP fun s aQ =>
 oExt d0 s fun t =>
 oExt d1 s fun aR =>
 oOne t (.go d1 (w1 (.nd d1 (w2 (.nd d0 (w9 aA t aB aC aD aE aF aG aH)) aR))) aQ))
 (rBlk d2 (oEqI i i1 fun f =>
 oGrd f true g (fun aS => oLen (gsel f true b) fun aT =>
 aS aT g) fun aU u =>
 oGrd f true u (fun aV => oEqI aU i3 fun aW =>
 aV aW u) fun aX aY =>
 oPick f aX (.bool false) fun aZ =>
 rThen (fun a0 a1 => u14 a0 fun a2 a3 a4 a5 a6 a7 a8 a9 x y z B C D =>
 .go d0 (w14 a2 a3 a4 a5 a6 a7 a8 a9 x y z B C D) a1)
 (oIf aZ aY
 (fun v => oIdx d5 b i2 fun E =>
 oLdN d5 E v fun F =>
 oNd F fun G j =>
 oCk (Nat.beq G d0) (oCk (Nat.beq (llen j) d5) (u5 j fun I J L M N =>
 .go d0 (w14 (.bool true) I J L M N z3 z3 i av aw ax c v1) v)))
 (fun w => oEqI i i0 fun d =>
 oGrd d true w (fun O => oLen (gsel d true c) fun P =>
 O P w) fun Q l =>
 oGrd d true l (fun S => oLt i0 Q fun T =>
 S T l) fun U m =>
 oPick d U (.bool false) fun e =>
 oGrd e true m (fun V => oCallP k (nat_lit 324) (w1 (gsel e true c)) m fun W X =>
 V W X) fun Y Z =>
 oPick e Y (.bool false) fun aa =>
 oIf aa Z
 (fun n => oLen c fun ab =>
 oSl d5 c i1 ab fun o =>
 oOne o (oLen b fun ac =>
 oSl d5 b i2 ac fun p =>
 oOne p (oIdx d5 c i0 fun ad =>
 oLdN d5 ad n fun ae =>
 oNd ae fun af q =>
 oCk (Nat.beq af d0) (oCk (Nat.beq (llen q) d5) (u5 q fun ag ah ai aj ak =>
 .go d0 (w14 (.bool true) i0 i0 zs z3 z3 o p ag ah ai aj ak v1) n)))))
 (fun al => .go d1 (w1 (.nd d1 (w2 (.nd d0 (w9 (.bool false) i0 i0 i0 zs z3 z3 z3 z3)) i1))) al)))))))))
noncomputable def f275 (k : K) (a : A) (h : H) : R :=
 u1 a fun g =>
 oCallP k (nat_lit 326) (w1 g) h fun T U =>
 oNot T fun V =>
 oIf V U
 (fun W => oCall k (nat_lit 183) (w1 g) W fun X Y =>
 .go d1 (w1 X) Y)
 (fun Z => oLen g fun j =>
 rThen (fun l m => u1 l fun n =>
 .go d1 (w1 n) m)
 (rBlk d2 (cLoop (fun o p => u4 o fun c d e b =>
 oLt b e fun q =>
 oIf q p
 (fun i => rThen (fun r s => u4 r fun t u v w =>
 oAdd w i1 fun x =>
 .go d0 (w4 t u v x) s)
 (rBlk d3 (oIdx d1 d b fun y =>
 oLd y i fun f =>
 oCallP k (nat_lit 321) (w1 f) i fun z B =>
 oNeI z i3 fun C =>
 rThen (fun D E => u4 D fun F G I J =>
 .go d0 (w4 F G I J) E)
 (oIf C B
 (fun L => oOne f (oBSl d1 d1 (w1 f) L fun M N =>
 oApp d1 c M N fun O P =>
 .go d0 (w4 O d e b) P))
 (fun Q => .go d0 (w4 c d e b) Q)))))
 (fun S => .go d2 (w1 c) S)) (nat_lit 100000) (w4 z3 g j i0) Z)))
noncomputable def f276 (k : K) (a : A) (h : H) : R :=
 u4 a fun j l I J =>
 oCall k (nat_lit 327) (w4 j I i8 J) h fun i m =>
 oExt d0 i fun b =>
 oExt d1 i fun n =>
 oExt d2 i fun c =>
 oNeI c i0 fun o =>
 oIf o m
 (fun p => .go d1 (w1 (.nd d1 (w2 (.nd d0 (w8 i0 i0 z3 i0 i0 zs z3 z3)) c))) p)
 (fun q => oCall k (nat_lit 328) (w2 j n) q fun d r =>
 oExt d0 d fun s =>
 oExt d1 d fun e =>
 oNd s fun t f =>
 oCk (Nat.beq t d0) (oCk (Nat.beq (llen f) d8) (u8 f fun u v w x y z B C =>
 oNeI e i0 fun D =>
 oIf D r
 (fun E => .go d1 (w1 (.nd d1 (w2 (.nd d0 (w8 i0 i0 z3 i0 i0 zs z3 z3)) e))) E)
 (fun F => oBSl d8 d1 (w8 u v w x y z B C) F fun g G =>
 oOne l (oOne b (oOne g (.go d1 (w1 (.nd d1 (w2 (.nd d0 (w8 l i0 b i0 i0 zs z3 g)) i0))) G)))))))
noncomputable def f277 (k : K) (a : A) (h : H) : R :=
 u2 a fun v1 v3 =>
 oNd v3 fun g5 l6 =>
 oCk (Nat.beq g5 d0) (u5 l6 fun v7 v9 bj bk bl =>
 rThen (fun bm bn => u6 bm fun N O P Q q r =>
 oCallP k (nat_lit 272) (w2 r (.nd d0 (w5 N O P Q q))) bn fun S bo =>
 oLe i0 S fun bp =>
 oIf bp bo
 (fun bq => oCall k (nat_lit 331) (w3 r (.nd d0 (w5 N O P Q q)) S) bq fun T br =>
 oExt d0 T fun bs =>
 oExt d1 T fun bt =>
 oNd bs fun bu U =>
 oCk (Nat.beq bu d0) (oCk (Nat.beq (llen U) d8) (u8 U fun bv bw bx bz bA bB bC bD =>
 .go d1 (w1 (.nd d1 (w2 (.nd d0 (w8 bv bw bx bz bA bB bC bD)) bt))) br)))
 (fun bE => oCall k (nat_lit 332) (w2 r q) bE fun V bF =>
 oExt d0 V fun s =>
 oExt d1 V fun W =>
 oNeI W i0 fun bG =>
 oIf bG bF
 (fun bH => .go d1 (w1 (.nd d1 (w2 (.nd d0 (w8 i0 i0 z3 i0 i0 zs z3 z3)) W))) bH)
 (fun bI => oLen s fun bJ =>
 oLt i9 bJ fun bK =>
 oIf bK bI
 (fun bL => .go d1 (w1 (.nd d1 (w2 (.nd d0 (w8 i0 i0 z3 i0 i0 zs z3 z3)) i8))) bL)
 (fun bM => oOne s (.go d1 (w1 (.nd d1 (w2 (.nd d0 (w8 i6 i0 z3 i0 i0 zs z3 s)) i0))) bM)))))
 (rBlk d2 (cLoop (fun bN bO => u6 bN fun b m n o p f =>
 rThen (fun bP bQ => u6 bP fun bR bS bT bU bV bW =>
 .go d0 (w6 bR bS bT bU bV bW) bQ)
 (rBlk d3 (oCall k (nat_lit 269) (w1 f) bO fun X bX =>
 oNeI X i0 fun bY =>
 oIf bY bX
 (fun Y => .go d1 (w1 (.nd d1 (w2 (.nd d0 (w8 i0 i0 z3 i0 i0 zs z3 z3)) X))) Y)
 (fun Z => rThen (fun aa ab => u6 aa fun g i j l c d =>
 oLen c fun ac =>
 oEqI ac i0 fun ad =>
 oIf ad ab
 (fun ae => .go d1 (w1 (.nd d1 (w2 (.nd d0 (w8 i0 i0 z3 i0 i0 zs z3 z3)) i1))) ae)
 (fun af => oCallP k (nat_lit 270) (w2 d (.nd d0 (w5 g i j l c))) af fun t ag =>
 oLt t i0 fun ah =>
 oIf ah ag
 (fun ai => .go d2 (w6 g i j l c d) ai)
 (fun aj => oCall k (nat_lit 271) (w3 d (.nd d0 (w5 g i j l c)) t) aj fun u ak =>
 oExt d0 u fun al =>
 oExt d1 u fun v =>
 oNd al fun am w =>
 oCk (Nat.beq am d0) (oCk (Nat.beq (llen w) d5) (u5 w fun an ao ap aq ar =>
 oNeI v i0 fun au =>
 oIf au ak
 (fun av => .go d1 (w1 (.nd d1 (w2 (.nd d0 (w8 i0 i0 z3 i0 i0 zs z3 z3)) v))) av)
 (fun aw => .go d0 (w6 an ao ap aq ar d) aw))))))
 (rBlk d4 (oEqI b i1 fun ax =>
 oIf ax Z
 (fun ay => oCall k (nat_lit 329) (w2 f (.nd d0 (w5 b m n o p))) ay fun x az =>
 oExt d0 x fun aA =>
 oExt d1 x fun y =>
 oNd aA fun aB z =>
 oCk (Nat.beq aB d0) (oCk (Nat.beq (llen z) d4) (u4 z fun b5 b6 B e =>
 oNeI y i0 fun aC =>
 oIf aC az
 (fun aD => .go d1 (w1 (.nd d1 (w2 (.nd d0 (w8 i0 i0 z3 i0 i0 zs z3 z3)) y))) aD)
 (fun aE => rThen (fun b7 aF => .go d1 (w1 (.nd d1 (w2 (.nd d0 (w8 i0 i0 z3 i0 i0 zs z3 z3)) i1))) aF)
 (rBlk d5 (oEqI B i3 fun aG =>
 oIf aG aE
 (fun aH => oOne e (.go d1 (w1 (.nd d1 (w2 (.nd d0 (w8 i2 e z3 i0 i0 zs z3 z3)) i0))) aH))
 (fun aI => oEqI B i2 fun aJ =>
 oIf aJ aI
 (fun aK => oOne e (.go d1 (w1 (.nd d1 (w2 (.nd d0 (w8 i3 e z3 i0 i0 zs z3 z3)) i0))) aK))
 (fun aL => .go d0 .nl aL))))))))
 (fun aM => oEqI b i2 fun C =>
 rThen (fun aN aO => u7 aN fun D E F G I aP aQ =>
 oIf aQ aO
 (fun aR => oCallP k (nat_lit 330) (w1 (.nd d0 (w5 D E F G I))) aR fun aS aT =>
 oNd aS fun aU J =>
 oCk (Nat.beq aU d0) (oCk (Nat.beq (llen J) d4) (oNd (.nd d0 (.cn i1 (.cn i0 (.cn z3 (lapp J (w1 z3)))))) fun aV L =>
 oCk (Nat.beq aV d0) (oCk (Nat.beq (llen L) d8) (u8 L fun aW aX aY aZ a0 a1 a2 a3 =>
 .go d1 (w1 (.nd d1 (w2 (.nd d0 (w8 aW aX aY aZ a0 a1 a2 a3)) i0))) aT)))))
 (fun a4 => .go d0 (w6 D E F G I aP) a4))
 (oIf C aM
 (fun a5 => .go d0 (w7 b m n o p f C) a5)
 (fun a6 => oEqI b i3 fun M =>
 rThen (fun a7 a8 => u7 a7 fun a9 ba bb bc bd be bf =>
 .go d0 (w7 a9 ba bb bc bd be bf) a8)
 (oIf M a6
 (fun bg => .go d0 (w7 b m n o p f M) bg)
 (fun bh => oEqI b i4 fun bi =>
 .go d0 (w7 b m n o p f bi) bh))))))))))) (nat_lit 100000) (w6 v7 v9 bj bk bl v1) h)))
noncomputable def f278 (k : K) (a : A) (h : H) : R :=
 u2 a fun g z =>
 oLen g fun B =>
 rThen (fun F C => .go d1 (w1 (.bool true)) C)
 (rBlk d2 (cLoop (fun D E => u4 D fun c d e b =>
 oLt b e fun i =>
 oIf i E
 (fun f => rThen (fun j l => u4 j fun m n o p =>
 oAdd p i1 fun q =>
 .go d0 (w4 m n o q) l)
 (rBlk d3 (oIdx d1 d b fun r =>
 oLd r f fun s =>
 oCallP k (nat_lit 200) (w2 c s) f fun t u =>
 oNot t fun v =>
 oIf v u
 (fun w => .go d1 (w1 (.bool false)) w)
 (fun x => .go d0 (w4 c d e b) x))))
 (fun y => .go d2 .nl y)) (nat_lit 100000) (w4 z g B i0) h))
noncomputable def f279 (k : K) (a : A) (h : H) : R :=
 u1 a fun e =>
 oNd e fun f g =>
 oCk (Nat.beq f d0) (u4 g fun i j l c =>
 oCall k (nat_lit 183) (w1 j) h fun b d =>
 oOne b (.go d1 (w1 (.nd d0 (w4 i b l c))) d))
noncomputable def f283 (k : K) (a : A) (h : H) : R :=
 u3 a fun b v3 v5 =>
 oNd v3 fun g7 l8 =>
 oCk (Nat.beq g7 d0) (u3 l8 fun d g i =>
 oLen b fun ai =>
 oLe (.int (nat_lit 9223372036854775928)) ai fun aj =>
 oIf aj h
 (fun ak => .go d1 (w1 b) ak)
 (fun al => rThen (fun am an => u1 am fun ao =>
 oAppS ao (.str d10 (nat_lit 479070402591714910040099)) an fun ap aq =>
 .go d1 (w1 ap) aq)
 (rBlk d2 (oEqI d i0 fun ar =>
 oIf ar al
 (fun au => oAppS b (.str d5 (nat_lit 431265642019)) au fun av aw =>
 .go d1 (w1 av) aw)
 (fun ax => oEqI d i1 fun ay =>
 oIf ay ax
 (fun az => oAppS b (.str d2 (nat_lit 10536)) az fun aA aB =>
 .go d1 (w1 aA) aB)
 (fun aC => oEqI d i2 fun aD =>
 oIf aD aC
 (fun aE => oEqI g i1 fun aF =>
 oIf aF aE
 (fun aG => oAppS b (.str d2 (nat_lit 29731)) aG fun aH aI =>
 .go d1 (w1 aH) aI)
 (fun aJ => oAppS b (.str d2 (nat_lit 26147)) aJ fun aK aL =>
 .go d1 (w1 aK) aL))
 (fun aM => oEqI d i3 fun aN =>
 oIf aN aM
 (fun aO => oCallP k d20 (w1 g) aO fun aP aQ =>
 oAppS b aP aQ fun aR aS =>
 .go d1 (w1 aR) aS)
 (fun aT => oEqI d i4 fun aU =>
 oIf aU aT
 (fun aV => oAppS b i aV fun aW aX =>
 .go d1 (w1 aW) aX)
 (fun aY => oEqI d i5 fun aZ =>
 oIf aZ aY
 (fun a0 => oBSl d1 d1 (w1 (.byt (nat_lit 34))) a0 fun a1 a2 =>
 oApp d1 b a1 a2 fun a3 a4 =>
 oAppS a3 i a4 fun a5 a6 =>
 oBSl d1 d1 (w1 (.byt (nat_lit 34))) a6 fun a7 a8 =>
 oApp d1 a5 a7 a8 fun a9 ba =>
 .go d1 (w1 a9) ba)
 (fun bb => oEqI d i7 fun bc =>
 oIf bc bb
 (fun bd => oBSl d1 d1 (w1 (.byt (nat_lit 40))) bd fun be bf =>
 oApp d1 b be bf fun bg bh =>
 rThen (fun bi s => u5 bi fun j bj bk t bl =>
 oNeI j i1 fun l =>
 oGrd l true s (fun bm => oNeI (gsel l true j) i7 fun bn =>
 bm bn s) fun bo bp =>
 oPick l bo (.bool false) fun bq =>
 rThen (fun br bs => u1 br fun bt =>
 oBSl d1 d1 (w1 (.byt (nat_lit 41))) bs fun u v =>
 oApp d1 bt u v fun w x =>
 .go d1 (w1 w) x)
 (oIf bq bp
 (fun bu => oAppS t (.str d3 (nat_lit 2108960)) bu fun y z =>
 oCall k (nat_lit 283) (w3 y (.nd d0 (w3 j bj bk)) bl) z fun B C =>
 .go d0 (w1 B) C)
 (fun bv => .go d0 (w1 t) bv)))
 (rBlk d3 (cLoop (fun D E => u5 D fun F m G e c =>
 oLen e fun I =>
 oLt I (.int (nat_lit 9223372036854775928)) fun J =>
 oIf J E
 (fun n => rThen (fun L M => u5 L fun N O P Q S =>
 .go d0 (w5 N O P Q S) M)
 (rBlk d4 (oIdx d6 c m fun T =>
 oLdN d6 T n fun U =>
 oNd U fun V o =>
 oCk (Nat.beq V d0) (oCk (Nat.beq (llen o) d6) (u6 o fun W X Y f p q =>
 oCall k (nat_lit 283) (w3 e (.nd d0 (w3 W X Y)) c) n fun r Z =>
 oNeI f i7 fun aa =>
 oIf aa Z
 (fun ab => .go d3 (w5 f p q r c) ab)
 (fun ac => oBSl d1 d1 (w1 (.byt (nat_lit 32))) ac fun ad ae =>
 oApp d1 r ad ae fun af ag =>
 .go d0 (w5 f p q af c) ag))))))
 (fun ah => .go d3 (w5 F m G e c) ah)) (nat_lit 100000) (w5 d g i bg v5) bh)))
 (fun bw => .go d0 (w1 b) bw)))))))))))
noncomputable def f285 (k : K) (a : A) (h : H) : R :=
 u1 a fun c =>
 bLe (.byt (nat_lit 48)) c fun b =>
 oGrd b true h (fun d => bLe (gsel b true c) (.byt (nat_lit 57)) fun e =>
 d e h) fun f g =>
 oPick b f (.bool false) fun i =>
 .go d1 (w1 i) g
noncomputable def f286 (k : K) (a : A) (h : H) : R :=
 u1 a fun d =>
 bLe (.byt (nat_lit 97)) d fun f =>
 oGrd f true h (fun L => bLe (gsel f true d) (.byt (nat_lit 122)) fun M =>
 L M h) fun N i =>
 oPick f N (.bool false) fun g =>
 oGrd g false i (fun O => oCallP k (nat_lit 285) (w1 (gsel g false d)) i fun j l =>
 O j l) fun m n =>
 oPick g (.bool true) m fun o =>
 oIf o n
 (fun p => .go d1 (w1 (.bool true)) p)
 (fun q => rThen (fun P r => .go d1 (w1 (.bool false)) r)
 (rBlk d2 (cLoop (fun s t => u3 s fun e b c =>
 oSLen b fun u =>
 oLt c u fun v =>
 oIf v t
 (fun w => rThen (fun x y => u3 x fun z B C =>
 oAdd C i1 fun D =>
 .go d0 (w3 z B D) y)
 (rBlk d3 (oSIdx b c fun E =>
 bEq E e fun F =>
 oIf F w
 (fun G => .go d1 (w1 (.bool true)) G)
 (fun I => .go d0 (w3 e b c) I))))
 (fun J => .go d2 .nl J)) (nat_lit 100000) (w3 d (.str d11 (nat_lit 115066014936858297249709857)) i0) q)))
noncomputable def f287 (k : K) (a : A) (h : H) : R :=
 u2 a fun q r =>
 oNd q fun s t =>
 oCk (Nat.beq s d0) (u5 t fun y z c d u =>
 oNd r fun e f =>
 oCk (Nat.beq e d0) (u5 f fun v w g i x =>
 oEqS c g fun b =>
 oGrd b true h (fun j => oCallP k (nat_lit 203) (w2 (gsel b true d) (gsel b true i)) h fun l m =>
 j l m) fun n o =>
 oPick b n (.bool false) fun p =>
 .go d1 (w1 p) o))
noncomputable def f288 (k : K) (a : A) (h : H) : R :=
 u3 a fun r v3 s =>
 oNd v3 fun g7 l8 =>
 oCk (Nat.beq g7 d0) (u5 l8 fun t u v w c =>
 oEqI t i1 fun x =>
 oIf x h
 (fun y => oCallP k (nat_lit 206) (w2 r (.nd d0 (w5 t u v w c))) y fun f g =>
 oLe i0 f fun b =>
 oGrd b true g (fun z => oIdx d12 (gsel b true r) (gsel b true f) fun B =>
 z B g) fun C i =>
 oGrd b true i (fun D => oFld d5 C fun E =>
 D E i) fun F d =>
 oGrd b true d (fun G => oLd F d fun I =>
 G I d) fun J j =>
 oGrd b true j (fun L => oLt (gsel b true s) J fun M =>
 L M j) fun N O =>
 oPick b N (.bool false) fun P =>
 .go d1 (w1 P) O)
 (fun Q => oLen c fun S =>
 rThen (fun ax T => .go d1 (w1 (.bool false)) T)
 (rBlk d2 (cLoop (fun U V => u5 U fun l m n o e =>
 oLt e o fun W =>
 oIf W V
 (fun p => rThen (fun X Y => u5 X fun Z aa ab ac ad =>
 oAdd ad i1 fun ae =>
 .go d0 (w5 Z aa ab ac ae) Y)
 (rBlk d3 (oIdx d5 n e fun af =>
 oLdN d5 af p fun ag =>
 oNd ag fun ah q =>
 oCk (Nat.beq ah d0) (oCk (Nat.beq (llen q) d5) (u5 q fun ai aj ak al am =>
 oCallP k (nat_lit 288) (w3 l (.nd d0 (w5 ai aj ak al am)) m) p fun an ao =>
 oIf an ao
 (fun ap => .go d1 (w1 (.bool true)) ap)
 (fun aq => .go d0 (w5 l m n o e) aq))))))
 (fun ar => .go d2 .nl ar)) (nat_lit 100000) (w5 r s c S i0) Q))))
noncomputable def f289 (k : K) (a : A) (h : H) : R :=
 u3 a fun t v3 v5 =>
 oNd v3 fun g7 l8 =>
 oCk (Nat.beq g7 d0) (u5 l8 fun v9 u f v w =>
 oNd v5 fun x y =>
 oCk (Nat.beq x d0) (u5 y fun z B g C D =>
 oCall k (nat_lit 131) (w2 t (.nd d0 (w5 v9 u f v w))) h fun i E =>
 oExt d0 i fun F =>
 oExt d1 i fun j =>
 oNd F fun G l =>
 oCk (Nat.beq G d0) (oCk (Nat.beq (llen l) d4) (u4 l fun an ao I J =>
 oCall k (nat_lit 131) (w2 t (.nd d0 (w5 z B g C D))) E fun m n =>
 oExt d0 m fun L =>
 oExt d1 m fun o =>
 oNd L fun M p =>
 oCk (Nat.beq M d0) (oCk (Nat.beq (llen p) d4) (u4 p fun ap aq N O =>
 oEqI j i0 fun d =>
 oGrd d true n (fun P => oEqI (gsel d true o) i0 fun Q =>
 P Q n) fun S T =>
 oPick d S (.bool false) fun U =>
 oIf U T
 (fun V => oEqS f g fun W =>
 .go d1 (w1 W) V)
 (fun q => oEqI j i1 fun e =>
 oGrd e true q (fun X => oEqI (gsel e true o) i1 fun Y =>
 X Y q) fun Z r =>
 oPick e Z (.bool false) fun b =>
 oGrd b true r (fun aa => oEqI (gsel b true I) (gsel b true N) fun ab =>
 aa ab r) fun ac s =>
 oPick b ac (.bool false) fun c =>
 oGrd c true s (fun ad => oEqI (gsel c true J) (gsel c true O) fun ae =>
 ad ae s) fun af ag =>
 oPick c af (.bool false) fun ah =>
 .go d1 (w1 ah) ag)))))))
noncomputable def f290 (k : K) (a : A) (h : H) : R :=
 u5 a fun v1 v3 v5 v7 v9 =>
 oNd v7 fun dN dO =>
 oCk (Nat.beq dN d0) (u5 dO fun aH eC eD eE G =>
 oCallP k (nat_lit 207) (w1 v5) h fun aI dP =>
 oExt d0 aI fun I =>
 oExt d1 aI fun eF =>
 oLen v5 fun J =>
 oLe i0 I fun dQ =>
 rThen (fun dR aJ => u9 dR fun dS aK dT dU dV dW aL aM aN =>
 oNeI dS i0 fun L =>
 oGrd L false aJ (fun dX => oLt (gsel L false aN) i0 fun dY =>
 dX dY aJ) fun dZ aO =>
 oPick L (.bool true) dZ fun c =>
 oGrd c false aO (fun ea => oLt (gsel c false aL) i0 fun eb =>
 ea eb aO) fun l aP =>
 oGrd (gsel c false l) true aP (fun ec => oLen (gsel (gsel c false l) true aK) fun ed =>
 ec ed aP) fun ee aQ =>
 oGrd (gsel c false l) true aQ (fun ef => oNeI ee (gsel (gsel c false l) true aM) fun eg =>
 ef eg aQ) fun eh aR =>
 oGrd c false aR (fun ei => oPick (gsel c false l) eh (.bool false) fun ej =>
 ei ej aR) fun ek el =>
 oPick c (.bool true) ek fun em =>
 oIf em el
 (fun en => .go d1 (w1 (.nd d1 (w2 z3 (.bool false)))) en)
 (fun eo => rThen (fun ep eq => u2 ep fun er es =>
 oNot es fun et =>
 oIf et eq
 (fun eu => .go d1 (w1 (.nd d1 (w2 z3 (.bool false)))) eu)
 (fun ev => .go d1 (w1 (.nd d1 (w2 er (.bool true)))) ev))
 (rBlk d2 (cLoop (fun ew ex => u11 ew fun C D m n E o F p f g b =>
 oLt b F fun M =>
 oPick M (gsel M true f) (.bool false) fun aS =>
 oIf aS ex
 (fun aT => rThen (fun aU aV => u11 aU fun aW aX aY aZ a0 a1 a2 a3 a4 a5 a6 =>
 oAdd a6 i1 fun a7 =>
 .go d0 (w11 aW aX aY aZ a0 a1 a2 a3 a4 a5 a7) aV)
 (rBlk d3 (oEqI b o fun a8 =>
 oIf a8 aT
 (fun a9 => .go d3 (w11 C D m n E o F p f g b) a9)
 (fun ba => oAdd b i1 fun bb =>
 oNeI bb o fun bc =>
 oIf bc ba
 (fun q => oIdx d5 n b fun bd =>
 oLdN d5 bd q fun be =>
 oIdx d5 C g fun bf =>
 oLdN d5 bf q fun bg =>
 oCall k (nat_lit 212) (w5 D m be bg E) q fun N bh =>
 oExt d0 N fun bi =>
 oExt d1 N fun bj =>
 oAdd g i1 fun bk =>
 .go d3 (w11 C D m n bi o F p bj bk b) bh)
 (fun O => oIdx d5 n b fun bl =>
 oLdN d5 bl O fun bm =>
 oBSl d12 d0 .nl O fun bn bo =>
 oCall k (nat_lit 123) (w4 m bm i0 bn) bo fun P bp =>
 oExt d0 P fun Q =>
 oExt d1 P fun eB =>
 oLen Q fun bq =>
 rThen (fun br bs => u12 br fun bt bu bv bw bx bz bA bB bC bD bE bF =>
 rThen (fun bG bH => u12 bG fun bI bJ bK bL bM bN bO bP bQ bR bS bT =>
 oApp d12 bM bT bH fun bU bV =>
 .go d0 (w11 bI bJ bK bL bU bN bO bP bQ bR bS) bV)
 (rBlk d6 (cLoop (fun bW bX => u13 bW fun r s t u S T U v V w x W X =>
 oLt X v fun Y =>
 oPick Y (gsel Y true V) (.bool false) fun bY =>
 oIf bY bX
 (fun bZ => rThen (fun b0 b1 => u13 b0 fun b2 b3 b4 b5 b6 b7 b8 b9 ca cb cc cd ce =>
 oAdd ce i1 fun cf =>
 .go d0 (w13 b2 b3 b4 b5 b6 b7 b8 b9 ca cb cc cd cf) b1)
 (rBlk d7 (oBSl d12 d0 .nl bZ fun cg y =>
 oIdx d5 u x fun ch =>
 oLdN d5 ch y fun ci =>
 oIdx d5 r w fun cj =>
 oLdN d5 cj y fun ck =>
 oCall k (nat_lit 212) (w5 s t ci ck cg) y fun Z cl =>
 oExt d0 Z fun cm =>
 oExt d1 Z fun cn =>
 oAdd w i1 fun co =>
 rThen (fun cp cq => u13 cp fun cr cs ct cu cv cw cx cy cz cA cB cC cD =>
 .go d0 (w13 cr cs ct cu cv cw cx cy cz cA cB cC cD) cq)
 (rBlk d8 (cLoop (fun cE cF => u15 cE fun aa ab ac ad ae af ag ah z ai aj d ak al e =>
 oLen d fun cG =>
 oLt e cG fun am =>
 oPick am (gsel am true z) (.bool false) fun cH =>
 oIf cH cF
 (fun B => rThen (fun cI cJ => u15 cI fun cK cL cM cN cO cP cQ cR cS cT cU cV cW cX cY =>
 oAdd cY i1 fun cZ =>
 .go d0 (w15 cK cL cM cN cO cP cQ cR cS cT cU cV cW cX cZ) cJ)
 (rBlk d9 (oIdx d12 d e fun c0 =>
 oFld d11 c0 fun c1 =>
 oLd c1 B fun an =>
 oIdx d12 al e fun c2 =>
 oLdN d12 c2 B fun c3 =>
 oLen an fun c4 =>
 oBSl d12 d1 (w12 i0 i0 zs z3 z3 i0 i0 i0 zs z3 z3 z3) B fun c5 c6 =>
 oApp d12 an c5 c6 fun ao c7 =>
 oIdx d12 ao c4 fun ap =>
 oIdx d12 d e fun c8 =>
 oFld d11 c8 fun aq =>
 oStN d12 ap c3 c7 fun c9 =>
 oSt aq ao c9 fun da =>
 oPt aq fun b402 _ => oPt ap fun b403 _ => @Bool.rec (fun _ => R) (.go d0 (w15 aa ab ac ad ae af ag ah z ai aj d ak al e) da) .bad (Nat.beq b402 b403))))
 (fun db => .go d8 (w13 aa ab ac ad ae af ag ah z ai aj d ak) db)) (nat_lit 100000) (w15 r s t u S T U v cn co x W X cm i0) cl)))))
 (fun dc => .go d6 (w12 r s t u S T U v V w x W) dc)) (nat_lit 100000) (w13 bt bu bv bw bx bz bA bB bC bD bE bF i0) bs)))
 (rBlk d4 (cLoop (fun dd de => u14 dd fun ar au av aw ax ay az aA aB aC aD i aE j =>
 oLt j aE fun df =>
 oIf df de
 (fun aF => rThen (fun dg dh => u14 dg fun di dj dk dl dm dn dp dq dr ds dt du dv dw =>
 oAdd dw i1 fun dx =>
 .go d0 (w14 di dj dk dl dm dn dp dq dr ds dt du dv dx) dh)
 (rBlk d5 (oIdx d12 i j fun dy =>
 oFld d5 dy fun dz =>
 oLd dz aF fun dA =>
 oAdd dA i1 fun dB =>
 oIdx d12 i j fun dC =>
 oFld d5 dC fun dD =>
 oSt dD dB aF fun dE =>
 .go d0 (w14 ar au av aw ax ay az aA aB aC aD i aE j) dE)))
 (fun dF => .go d4 (w12 ar au av aw ax ay az aA aB aC aD i) dF)) (nat_lit 100000) (w14 C D m n E o F p f g b Q bq i0) bp)))))))
 (fun dG => .go d2 (w2 E f) dG)) (nat_lit 100000) (w11 aK dT dU dV dW aL aM aN (.bool true) i0 i0) eo))))
 (oIf dQ dP
 (fun ey => oLen G fun dH =>
 oSub J i2 fun dI =>
 oSub dH dI fun dJ =>
 .go d0 (w9 aH G v1 v3 v5 v9 I J dJ) ey)
 (fun ez => .go d0 (w9 aH G v1 v3 v5 v9 I J i0) ez)))
noncomputable def f291 (k : K) (a : A) (h : H) : R :=
 u1 a fun v1 =>
 oNd v1 fun g3 l4 =>
 oCk (Nat.beq g3 d0) (u5 l4 fun v5 v7 v9 ap g =>
 oLen g fun aq =>
 rThen (fun ar au => u5 ar fun av aw ax ay az =>
 oCallP k (nat_lit 122) (w1 (.nd d0 (w5 av aw ax ay az))) au fun aA aB =>
 oNot aA fun aC =>
 .go d1 (w1 aC) aB)
 (rBlk d2 (cLoop (fun aD aE => u8 aD fun x y z B i C D f =>
 oLt f D fun aF =>
 oIf aF aE
 (fun E => rThen (fun aG aH => u8 aG fun aI aJ aK aL aM aN aO aP =>
 oAdd aP i1 fun aQ =>
 .go d0 (w8 aI aJ aK aL aM aN aO aQ) aH)
 (rBlk d3 (oIdx d5 C f fun aR =>
 oLdN d5 aR E fun aS =>
 oNd aS fun aT F =>
 oCk (Nat.beq aT d0) (oCk (Nat.beq (llen F) d5) (u5 F fun j l m n o =>
 oCallP k (nat_lit 122) (w1 (.nd d0 (w5 j l m n o))) E fun c G =>
 oGrd c true G (fun aU => oEqI (gsel c true f) i0 fun aV =>
 aU aV G) fun d I =>
 oGrd (gsel c true d) false I (fun aW => oSub (gsel (gsel c true d) false f) i1 fun aX =>
 aW aX I) fun aY J =>
 oGrd (gsel c true d) false J (fun aZ => oIdx d5 (gsel (gsel c true d) false i) aY fun a0 =>
 aZ a0 J) fun a1 p =>
 oGrd (gsel c true d) false p (fun a2 => oLdN d5 a1 p fun L =>
 a2 L p) fun M q =>
 oGrd (gsel c true d) false q (fun N => oCallP k (nat_lit 122) (w1 M) q fun O P =>
 N O P) fun Q r =>
 oGrd c true r (fun S => oPick (gsel c true d) (.bool true) Q fun T =>
 S T r) fun U s =>
 oPick c U (.bool false) fun b =>
 oGrd b false s (fun V => oCallP k (nat_lit 122) (w1 (gsel b false (.nd d0 (w5 j l m n o)))) s fun W X =>
 V W X) fun Y t =>
 oGrd b false t (fun Z => oNot Y fun aa =>
 Z aa t) fun e u =>
 oGrd (gsel b false e) true u (fun ab => oCallP k (nat_lit 291) (w1 (gsel (gsel b false e) true (.nd d0 (w5 j l m n o)))) u fun ac ad =>
 ab ac ad) fun ae v =>
 oGrd (gsel b false e) true v (fun af => oNot ae fun ag =>
 af ag v) fun ah w =>
 oGrd b false w (fun ai => oPick (gsel b false e) ah (.bool false) fun aj =>
 ai aj w) fun ak al =>
 oPick b (.bool true) ak fun am =>
 oIf am al
 (fun an => .go d1 (w1 (.bool false)) an)
 (fun ao => .go d0 (w8 x y z B i C D f) ao))))))
 (fun a3 => .go d2 (w5 x y z B i) a3)) (nat_lit 100000) (w8 v5 v7 v9 ap g g aq i0) h)))
noncomputable def f292 (k : K) (a : A) (h : H) : R :=
 u3 a fun v1 N l =>
 oNd v1 fun g7 l8 =>
 oCk (Nat.beq g7 d0) (u5 l8 fun m f g L j =>
 oDeref l fun cC =>
 oLd cC h fun cD =>
 oSub cD i1 fun cE =>
 oDeref l fun cF =>
 oSt cF cE h fun an =>
 oDeref l fun cG =>
 oLd cG an fun cH =>
 oLt cH i0 fun cI =>
 oIf cI an
 (fun cJ => .go d1 (w1 (.nd d1 (w2 (.nd d0 (w5 i0 i0 zs z3 z3)) (.bool false)))) cJ)
 (fun cK => oEqI m i1 fun cL =>
 oIf cL cK
 (fun cM => oCallP k (nat_lit 206) (w2 N (.nd d0 (w5 m f g L j))) cM fun M cN =>
 oCallP k (nat_lit 122) (w1 (.nd d0 (w5 m f g L j))) cN fun O ao =>
 oGrd O false ao (fun cO => oLt (gsel O false M) i0 fun cP =>
 cO cP ao) fun cQ cR =>
 oPick O (.bool true) cQ fun cS =>
 oIf cS cR
 (fun cT => oCall k (nat_lit 130) (w1 (.nd d0 (w5 m f g L j))) cT fun cU cV =>
 oCallP k (nat_lit 122) (w1 (.nd d0 (w5 m f g L j))) cV fun cW cX =>
 oNot cW fun cY =>
 oNd cU fun cZ ap =>
 oCk (Nat.beq cZ d0) (oCk (Nat.beq (llen ap) d5) (u5 ap fun c0 c1 c2 c3 c4 =>
 .go d1 (w1 (.nd d1 (w2 (.nd d0 (w5 c0 c1 c2 c3 c4)) cY))) cX)))
 (fun aq => oDeref l fun c5 =>
 oLd c5 aq fun c6 =>
 oAdd c6 i1 fun c7 =>
 oDeref l fun c8 =>
 oSt c8 c7 aq fun P =>
 oIdx d12 N M fun c9 =>
 oFld d5 c9 fun da =>
 oLd da P fun db =>
 oNeI db i0 fun c =>
 oGrd c false P (fun dc => oIdx d12 (gsel c false N) (gsel c false M) fun dd =>
 dc dd P) fun de ar =>
 oGrd c false ar (fun df => oFld d6 de fun dg =>
 df dg ar) fun dh Q =>
 oGrd c false Q (fun di => oLdN d5 dh Q fun dj =>
 di dj Q) fun dk au =>
 oGrd c false au (fun dl => oCall k (nat_lit 59) (w2 dk (gsel c false l)) au fun dm dn =>
 dl dm dn) fun dp av =>
 oGrd c false av (fun dq => oNot dp fun dr =>
 dq dr av) fun ds dt =>
 oPick c (.bool true) ds fun du =>
 oIf du dt
 (fun dv => .go d1 (w1 (.nd d1 (w2 (.nd d0 (w5 i0 i0 zs z3 z3)) (.bool false)))) dv)
 (fun aw => oIdx d12 N M fun dw =>
 oFld d6 dw fun dx =>
 oLdN d5 dx aw fun dy =>
 oCall k (nat_lit 130) (w1 dy) aw fun dz dA =>
 oNd dz fun dB ax =>
 oCk (Nat.beq dB d0) (oCk (Nat.beq (llen ax) d5) (u5 ax fun ay az aA aB aC =>
 .go d1 (w1 (.nd d1 (w2 (.nd d0 (w5 ay az aA aB aC)) (.bool true)))) dA)))))
 (fun dC => oOne m (oOne f (oOne g (rThen (fun aD aE => u5 aD fun aF aG aH aI aJ =>
 .go d1 (w1 (.nd d1 (w2 (.nd d0 (w5 aF aG aH aI aJ)) (.bool true)))) aE)
 (rBlk d2 (cLoop (fun aK aL => u9 aK fun d n o p q r i s e =>
 oLen d fun aM =>
 oLt e aM fun aN =>
 oIf aN aL
 (fun t => rThen (fun aO aP => u9 aO fun aQ aR aS aT aU aV aW aX aY =>
 oAdd aY i1 fun aZ =>
 .go d0 (w9 aQ aR aS aT aU aV aW aX aZ) aP)
 (rBlk d3 (oIdx d5 d e fun a0 =>
 oLdN d5 a0 t fun a1 =>
 oNd a1 fun a2 S =>
 oCk (Nat.beq a2 d0) (oCk (Nat.beq (llen S) d5) (u5 S fun u v w x y =>
 oAdd e i1 fun a3 =>
 oLen d fun a4 =>
 oLe a4 a3 fun b =>
 oGrd b false t (fun a5 => oAdd (gsel b false e) i1 fun a6 =>
 a5 a6 t) fun a7 T =>
 oGrd b false T (fun a8 => oIdx d5 (gsel b false d) a7 fun a9 =>
 a8 a9 T) fun ba z =>
 oGrd b false z (fun bb => oLdN d5 ba z fun bc =>
 bb bc z) fun bd U =>
 oGrd b false U (fun be => oCallP k (nat_lit 122) (w1 bd) U fun bf bg =>
 be bf bg) fun bh V =>
 oGrd b false V (fun bi => oNot bh fun bj =>
 bi bj V) fun bk bl =>
 oPick b (.bool true) bk fun bm =>
 oIf bm bl
 (fun bn => oCall k (nat_lit 292) (w3 (.nd d0 (w5 u v w x y)) i s) bn fun W bo =>
 oExt d0 W fun bp =>
 oExt d1 W fun bq =>
 oNd bp fun br X =>
 oCk (Nat.beq br d0) (oCk (Nat.beq (llen X) d5) (u5 X fun bs bt bu bv bw =>
 oNot bq fun bx =>
 oIf bx bo
 (fun bz => .go d1 (w1 (.nd d1 (w2 (.nd d0 (w5 i0 i0 zs z3 z3)) (.bool false)))) bz)
 (fun bA => oBSl d5 d1 (w5 bs bt bu bv bw) bA fun bB bC =>
 oApp d5 r bB bC fun Y bD =>
 oOne Y (.go d3 (w9 d n o p q Y i s e) bD)))))
 (fun bE => oAdd e i1 fun bF =>
 oCallP k (nat_lit 333) (w2 i (.nd d0 (w5 u v w x y))) bE fun Z bG =>
 oExt d0 Z fun bH =>
 oExt d1 Z fun bI =>
 rThen (fun bJ bK => u10 bJ fun bL bM bN bO bP bQ bR bS bT bU =>
 oNot bU fun bV =>
 oIf bV bK
 (fun bW => .go d1 (w1 (.nd d1 (w2 (.nd d0 (w5 i0 i0 zs z3 z3)) (.bool false)))) bW)
 (fun bX => .go d0 (w9 bL bM bN bO bP bQ bR bS bT) bX))
 (rBlk d4 (cLoop (fun bY bZ => u17 bY fun aa ab ac ad ae af B C D E F G I ag ah ai J =>
 oLt J ah fun aj =>
 oPick aj (gsel aj true ai) (.bool false) fun b0 =>
 oIf b0 bZ
 (fun b1 => rThen (fun b2 b3 => u17 b2 fun b4 b5 b6 b7 b8 b9 ca cb cc cd ce cf cg ch ci cj ck =>
 oAdd ck i1 fun cl =>
 .go d0 (w17 b4 b5 b6 b7 b8 b9 ca cb cc cd ce cf cg ch ci cj cl) b3)
 (rBlk d5 (oCall k (nat_lit 334) (w3 G (.nd d0 (w5 B C D E F)) J) b1 fun cm cn =>
 oCall k (nat_lit 292) (w3 (.nd d0 (w5 B C D E F)) cm I) cn fun ak co =>
 oExt d0 ak fun cp =>
 oExt d1 ak fun cq =>
 oNd cp fun cr al =>
 oCk (Nat.beq cr d0) (oCk (Nat.beq (llen al) d5) (u5 al fun cs ct cu cv cw =>
 oBSl d5 d1 (w5 cs ct cu cv cw) co fun cx cy =>
 oApp d5 af cx cy fun am cz =>
 oOne am (.go d0 (w17 aa ab ac ad ae am B C D E F G I ag ah cq J) cz))))))
 (fun cA => .go d4 (w10 aa ab ac ad ae af G I ag ai) cA)) (nat_lit 100000) (w17 d n o p q r u v w x y i s bF bH bI i0) bG))))))))
 (fun cB => .go d2 (w5 n o p q r) cB)) (nat_lit 100000) (w9 j m f g z3 z3 N l i0) dC))))))))
noncomputable def f293 (k : K) (a : A) (h : H) : R :=
 u2 a fun j v3 =>
 oNd v3 fun g5 l6 =>
 oCk (Nat.beq g5 d0) (u5 l6 fun v7 v9 aB aC b =>
 oLen b fun x =>
 oLt x i3 fun y =>
 oIf y h
 (fun z => oCall k (nat_lit 68) (w2 j i1) z fun aD B =>
 .go d1 (w1 (.nd d0 (w4 i0 (.bool false) z3 z3))) B)
 (fun g => oIdx d5 b i1 fun C =>
 oLdN d5 C g fun D =>
 oNd D fun E l =>
 oCk (Nat.beq E d0) (oCk (Nat.beq (llen l) d5) (u5 l fun i F G I c =>
 oEqI i i1 fun d =>
 oGrd d true g (fun J => oLen (gsel d true b) fun L =>
 J L g) fun M m =>
 oGrd d true m (fun N => oEqI M i3 fun O =>
 N O m) fun P Q =>
 oPick d P (.bool false) fun S =>
 oIf S Q
 (fun T => oCall k (nat_lit 80) (w3 (.nd d0 (w5 i F G I c)) i3 i0) T fun U V =>
 oCall k (nat_lit 219) (w2 j U) V fun n W =>
 oLen b fun X =>
 oSl d5 b i2 X fun o =>
 oOne n (oOne o (.go d1 (w1 (.nd d0 (w4 n (.bool false) z3 o))) W)))
 (fun p => oNeI i i0 fun e =>
 oGrd e false p (fun Y => oLen (gsel e false c) fun Z =>
 Y Z p) fun aa q =>
 oGrd e false q (fun ab => oEqI aa i0 fun ac =>
 ab ac q) fun ad r =>
 oPick e (.bool true) ad fun f =>
 oGrd f false r (fun ae => oCallP k (nat_lit 218) (w1 (gsel f false c)) r fun af ag =>
 ae af ag) fun ah s =>
 oGrd f false s (fun ai => oNot ah fun aj =>
 ai aj s) fun ak al =>
 oPick f (.bool true) ak fun am =>
 oIf am al
 (fun an => oCall k (nat_lit 68) (w2 j i1) an fun aE ao =>
 .go d1 (w1 (.nd d0 (w4 i0 (.bool false) z3 z3))) ao)
 (fun t => oIdx d5 c i0 fun ap =>
 oLdN d5 ap t fun aq =>
 oCall k (nat_lit 80) (w3 aq i3 i0) t fun ar au =>
 oCall k (nat_lit 219) (w2 j ar) au fun u av =>
 oLen c fun aw =>
 oSl d5 c i1 aw fun v =>
 oLen b fun ax =>
 oSl d5 b i2 ax fun w =>
 oOne u (oOne v (oOne w (.go d1 (w1 (.nd d0 (w4 u (.bool true) v w))) av)))))))))
noncomputable def f294 (k : K) (a : A) (h : H) : R :=
 u1 a fun j =>
 oEqI j i0 fun V =>
 oIf V h
 (fun W => .go d1 (w1 (.str d1 (nat_lit 48))) W)
 (fun X => rThen (fun Y Z => u2 Y fun v8 f =>
 oLt v8 i0 fun l =>
 rThen (fun m n => u1 m fun o =>
 .go d1 (w1 o) n)
 (oIf l Z
 (fun p => oSCat (.str d1 (nat_lit 45)) f fun q =>
 .go d0 (w1 q) p)
 (fun r => .go d0 (w1 f) r)))
 (rBlk d2 (cLoop (fun s t => u3 s fun c d b =>
 oNeI b i0 fun u =>
 oIf u t
 (fun v => rThen (fun w x => u3 w fun y z B =>
 oQuo B i10 fun C =>
 .go d0 (w3 y z C) x)
 (rBlk d3 (oRem b i10 fun e =>
 oLt e i0 fun D =>
 rThen (fun E F => u4 E fun G I J L =>
 oAdd i48 L fun M =>
 oI2B M fun g =>
 oOne g (oBSl d1 d1 (w1 g) F fun N i =>
 oB2S N i fun O =>
 oSCat O I fun P =>
 .go d0 (w3 G P J) i))
 (oIf D v
 (fun Q => oSub i0 e fun S =>
 .go d0 (w4 c d b S) Q)
 (fun T => .go d0 (w4 c d b e) T)))))
 (fun U => .go d2 (w2 c d) U)) (nat_lit 100000) (w3 j zs j) X)))
noncomputable def f295 (k : K) (a : A) (h : H) : R :=
 u2 a fun c v3 =>
 oNd v3 fun g5 l6 =>
 oCk (Nat.beq g5 d0) (u4 l6 fun g v9 i ac =>
 rThen (fun ad ae => u2 ad fun j af =>
 oBSl d1 d1 (w1 (.byt (nat_lit 40))) ae fun ag ah =>
 oApp d1 af ag ah fun ai aj =>
 oLen j fun ak =>
 rThen (fun al am => u1 al fun an =>
 oBSl d1 d1 (w1 (.byt (nat_lit 41))) am fun ao ap =>
 oApp d1 an ao ap fun aq ar =>
 .go d1 (w1 aq) ar)
 (rBlk d3 (cLoop (fun au av => u4 au fun d e f b =>
 oLt b f fun aw =>
 oIf aw av
 (fun l => rThen (fun ax ay => u4 ax fun az aA aB aC =>
 oAdd aC i1 fun aD =>
 .go d0 (w4 az aA aB aD) ay)
 (rBlk d4 (oIdx d4 e b fun aE =>
 oLdN d4 aE l fun aF =>
 oNd aF fun aG m =>
 oCk (Nat.beq aG d0) (oCk (Nat.beq (llen m) d4) (u4 m fun n o p q =>
 oLt i0 b fun aH =>
 rThen (fun aI aJ => u8 aI fun aK aL aM aN aO aP aQ aR =>
 oCall k (nat_lit 295) (w2 aO (.nd d0 (w4 aK aL aM aN))) aJ fun aS aT =>
 .go d0 (w4 aS aP aQ aR) aT)
 (oIf aH l
 (fun aU => oBSl d1 d1 (w1 (.byt (nat_lit 32))) aU fun aV aW =>
 oApp d1 d aV aW fun aX aY =>
 .go d0 (w8 n o p q aX e f b) aY)
 (fun aZ => .go d0 (w8 n o p q d e f b) aZ)))))))
 (fun a0 => .go d3 (w1 d) a0)) (nat_lit 100000) (w4 ai j ak i0) aj)))
 (rBlk d2 (oEqI g i1 fun a1 =>
 oIf a1 h
 (fun a2 => oAppS c i a2 fun r s =>
 .go d1 (w1 r) s)
 (fun a3 => oEqI g i2 fun t =>
 oIf t a3
 (fun u => oCallP k d20 (w1 v9) u fun v w =>
 oAppS c v w fun x y =>
 .go d1 (w1 x) y)
 (fun z => oEqI g i3 fun B =>
 oIf B z
 (fun C => oEqI v9 i1 fun D =>
 oIf D C
 (fun E => oAppS c (.str d2 (nat_lit 29731)) E fun F G =>
 .go d1 (w1 F) G)
 (fun I => oAppS c (.str d2 (nat_lit 26147)) I fun J L =>
 .go d1 (w1 J) L))
 (fun M => oEqI g i4 fun N =>
 oIf N M
 (fun O => oBSl d1 d1 (w1 (.byt (nat_lit 34))) O fun P Q =>
 oApp d1 c P Q fun S T =>
 oAppS S i T fun U V =>
 oBSl d1 d1 (w1 (.byt (nat_lit 34))) V fun W X =>
 oApp d1 U W X fun Y Z =>
 .go d1 (w1 Y) Z)
 (fun aa => .go d0 (w2 ac c) aa)))))))
noncomputable def f296 (k : K) (a : A) (h : H) : R :=
 u1 a fun N =>
 oNd N fun O P =>
 oCk (Nat.beq O d0) (u4 P fun Q S T b =>
 oLen b fun j =>
 oLen b fun l =>
 rThen (fun m n => u1 m fun o =>
 .go d1 (w1 o) n)
 (rBlk d2 (cLoop (fun p q => u4 p fun d e f c =>
 oLt c f fun r =>
 oIf r q
 (fun g => rThen (fun s t => u4 s fun u v w x =>
 oAdd x i1 fun y =>
 .go d0 (w4 u v w y) t)
 (rBlk d3 (oIdx d4 e c fun z =>
 oLdN d4 z g fun B =>
 oNd B fun C i =>
 oCk (Nat.beq C d0) (oCk (Nat.beq (llen i) d4) (u4 i fun D E F G =>
 oCallP k (nat_lit 296) (w1 (.nd d0 (w4 D E F G))) g fun I J =>
 oAdd d I fun L =>
 .go d0 (w4 L e f c) J)))))
 (fun M => .go d2 (w1 d) M)) (nat_lit 100000) (w4 j b l i0) h)))
noncomputable def f297 (k : K) (a : A) (h : H) : R :=
 u2 a fun v1 c =>
 oNd v1 fun g5 l6 =>
 oCk (Nat.beq g5 d0) (u4 l6 fun e f b t =>
 rThen (fun u v => u2 u fun g w =>
 oLen g fun x =>
 oSub x i1 fun y =>
 rThen (fun z B => u4 z fun C D E F =>
 .go d1 (w1 (.nd d1 (w2 (.nd d0 (w3 C D E)) F))) B)
 (rBlk d3 (cLoop (fun G I => u6 G fun i j l m n d =>
 oLe i0 d fun J =>
 oIf J I
 (fun o => rThen (fun L M => u6 L fun N O P Q S T =>
 oSub T i1 fun U =>
 .go d0 (w6 N O P Q S U) M)
 (rBlk d4 (oIdx d4 i d fun V =>
 oLdN d4 V o fun W =>
 oCallP k (nat_lit 297) (w2 W n) o fun p X =>
 oExt d0 p fun Y =>
 oExt d1 p fun Z =>
 oNd Y fun aa q =>
 oCk (Nat.beq aa d0) (oCk (Nat.beq (llen q) d3) (u3 q fun ab ac ad =>
 oBSl d6 d1 (w6 ab ac ad j l m) X fun ae af =>
 oApp d6 Z ae af fun r ag =>
 oLen r fun ah =>
 oSub ah i1 fun s =>
 oOne s (.go d0 (w6 i i7 s zs r d) ag))))))
 (fun ai => .go d3 (w4 j l m n) ai)) (nat_lit 100000) (w6 g i1 i0 zs w y) v)))
 (rBlk d2 (oEqI e i1 fun aj =>
 oIf aj h
 (fun ak => oOne b (.go d1 (w1 (.nd d1 (w2 (.nd d0 (w3 i4 i0 b)) c))) ak))
 (fun al => oEqI e i2 fun am =>
 oIf am al
 (fun an => oOne f (.go d1 (w1 (.nd d1 (w2 (.nd d0 (w3 i3 f zs)) c))) an))
 (fun ao => oEqI e i3 fun ap =>
 oIf ap ao
 (fun aq => oOne f (.go d1 (w1 (.nd d1 (w2 (.nd d0 (w3 i2 f zs)) c))) aq))
 (fun ar => oEqI e i4 fun au =>
 oIf au ar
 (fun av => oOne b (.go d1 (w1 (.nd d1 (w2 (.nd d0 (w3 i5 i0 b)) c))) av))
 (fun aw => .go d0 (w2 t c) aw)))))))
noncomputable def f298 (k : K) (a : A) (h : H) : R :=
 u2 a fun j l =>
 oNd l fun m n =>
 oCk (Nat.beq m d0) (u4 n fun q r o b =>
 oNil d4 d1 d1 false b fun c =>
 oIf c h
 (fun d => oDeref j fun e =>
 oFld d0 e fun f =>
 oCall k (nat_lit 197) (w3 f i2 (.str d9 (nat_lit 2221635301932602257262))) d fun p g =>
 .go d1 (w1 (.bool false)) g)
 (fun i => .go d1 (w1 (.bool true)) i))
noncomputable def f299 (k : K) (a : A) (h : H) : R :=
 u1 a fun m =>
 oNewV m h fun b d =>
 oFld d2 b fun n =>
 oLd n d fun o =>
 oApp d4 z3 o d fun p q =>
 oFld d2 b fun r =>
 oSt r p q fun c =>
 oFld d4 b fun e =>
 oLd e c fun f =>
 oApp d4 z3 f c fun g i =>
 oFld d4 b fun j =>
 oSt j g i fun l =>
 .go d1 (w1 b) l
noncomputable def f300 (k : K) (a : A) (h : H) : R :=
 u1 a fun m =>
 oCall k (nat_lit 229) .nl h fun n o =>
 oLt m i0 fun c =>
 oGrd c false o (fun k6 => oLen (gsel c false n) fun v9 =>
 k6 v9 o) fun v7 p =>
 oGrd c false p (fun q => oLe v7 (gsel c false m) fun r =>
 q r p) fun s t =>
 oPick c (.bool true) s fun u =>
 oIf u t
 (fun v => .go d1 (w1 (.int (nat_lit 9223372036854775807))) v)
 (fun d => oIdx d1 n m fun w =>
 oLd w d fun b =>
 rThen (fun am x => .go d1 (w1 i1) x)
 (rBlk d2 (oEqS b (.str d1 (nat_lit 43)) fun e =>
 rThen (fun y z => u1 y fun B =>
 oIf B z
 (fun C => .go d1 (w1 i2) C)
 (fun D => .go d0 .nl D))
 (oIf e d
 (fun E => .go d0 (w1 e) E)
 (fun F => oEqS b (.str d1 (nat_lit 45)) fun f =>
 rThen (fun G I => u1 G fun J =>
 .go d0 (w1 J) I)
 (oIf f F
 (fun L => .go d0 (w1 f) L)
 (fun M => oEqS b (.str d1 (nat_lit 42)) fun g =>
 rThen (fun N O => u1 N fun P =>
 .go d0 (w1 P) O)
 (oIf g M
 (fun Q => .go d0 (w1 g) Q)
 (fun S => oEqS b (.str d1 (nat_lit 61)) fun i =>
 rThen (fun T U => u1 T fun V =>
 .go d0 (w1 V) U)
 (oIf i S
 (fun W => .go d0 (w1 i) W)
 (fun X => oEqS b (.str d1 (nat_lit 60)) fun j =>
 rThen (fun Y Z => u1 Y fun aa =>
 .go d0 (w1 aa) Z)
 (oIf j X
 (fun ab => .go d0 (w1 j) ab)
 (fun ac => oEqS b (.str d4 (nat_lit 1936617315)) fun l =>
 rThen (fun ad ae => u1 ad fun af =>
 .go d0 (w1 af) ae)
 (oIf l ac
 (fun ag => .go d0 (w1 l) ag)
 (fun ah => oEqS b (.str d3 (nat_lit 4157797)) fun ai =>
 .go d0 (w1 ai) ah)))))))))))))))
noncomputable def f301 (k : K) (a : A) (h : H) : R :=
 u3 a fun b y e =>
 oCall k (nat_lit 229) .nl h fun v7 z =>
 oIdx d1 v7 y fun v9 =>
 oLd v9 z fun f =>
 rThen (fun B g => u3 B fun i C D =>
 oDeref i fun E =>
 oFld d6 E fun F =>
 oLd F g fun G =>
 oCallP k (nat_lit 335) (w3 C D G) g fun j I =>
 oExt d0 j fun J =>
 oExt d1 j fun l =>
 oNd J fun L m =>
 oCk (Nat.beq L d0) (oCk (Nat.beq (llen m) d3) (u3 m fun M N O =>
 oNeS l zs fun P =>
 oIf P I
 (fun Q => oCall k (nat_lit 197) (w3 i i2 l) Q fun aX S =>
 .go d1 (w1 (.nd d1 (w2 (.nd d0 (w3 i0 i0 zs)) (.bool false)))) S)
 (fun T => .go d1 (w1 (.nd d1 (w2 (.nd d0 (w3 M N O)) (.bool true)))) T))))
 (rBlk d2 (oEqS f (.str d4 (nat_lit 1936617315)) fun U =>
 oIf U z
 (fun V => oCall k (nat_lit 237) (w2 b i1) V fun W X =>
 oNot W fun Y =>
 oIf Y X
 (fun Z => .go d1 (w1 (.nd d1 (w2 (.nd d0 (w3 i0 i0 zs)) (.bool false)))) Z)
 (fun c => oDeref b fun aa =>
 oFld d6 aa fun ab =>
 oLd ab c fun ac =>
 oIdx d3 e i0 fun ad =>
 oLdN d3 ad c fun ae =>
 oIdx d3 e i1 fun af =>
 oLdN d3 af c fun ag =>
 oNd ae fun ah n =>
 oCk (Nat.beq ah d0) (oCk (Nat.beq (llen n) d3) (oNd ag fun ai o =>
 oCk (Nat.beq ai d0) (oCk (Nat.beq (llen o) d3) (oNd (.nd d0 (lapp n (lapp o .nl))) fun aj p =>
 oCk (Nat.beq aj d0) (oCk (Nat.beq (llen p) d6) (oBSl d6 d1 (lapp p .nl) c fun ak al =>
 oApp d6 ac ak al fun am an =>
 oDeref b fun ao =>
 oFld d6 ao fun ap =>
 oSt ap am an fun q =>
 oDeref b fun aq =>
 oFld d6 aq fun ar =>
 oLd ar q fun au =>
 oLen au fun av =>
 oSub av i1 fun r =>
 oOne r (.go d1 (w1 (.nd d1 (w2 (.nd d0 (w3 i7 r zs)) (.bool true)))) q)))))))))
 (fun aw => oEqS f (.str d7 (nat_lit 34165590552963428)) fun ax =>
 oIf ax aw
 (fun s => oDeref b fun ay =>
 oFld d1 ay fun az =>
 oFld d2 az fun aA =>
 oLd aA s fun aB =>
 oLen aB fun aC =>
 oLe i60 aC fun aD =>
 oIf aD s
 (fun aE => oCall k (nat_lit 197) (w3 b i4 zs) aE fun aY aF =>
 .go d1 (w1 (.nd d1 (w2 (.nd d0 (w3 i0 i0 zs)) (.bool false)))) aF)
 (fun d => oDeref b fun aG =>
 oFld d1 aG fun aH =>
 oFld d2 aH fun aI =>
 oLd aI d fun aJ =>
 oIdx d3 e i0 fun aK =>
 oLdN d3 aK d fun aL =>
 oDeref b fun aM =>
 oFld d6 aM fun aN =>
 oLd aN d fun aO =>
 oCallP k (nat_lit 198) (w2 aL aO) d fun t aP =>
 oOne t (oBSl d1 d1 (w1 t) aP fun aQ aR =>
 oApp d1 aJ aQ aR fun aS aT =>
 oDeref b fun u =>
 oFld d1 u fun v =>
 oFld d2 v fun w =>
 oSt w aS aT fun x =>
 .go d1 (w1 (.nd d1 (w2 (.nd d0 (w3 i0 i0 zs)) (.bool true)))) x)))
 (fun aU => .go d0 (w3 b y e) aU))))
noncomputable def f311 (k : K) (a : A) (h : H) : R :=
 u1 a fun r =>
 oLen r fun W =>
 oLt i8 W fun X =>
 oIf X h
 (fun Y => .go d1 (w1 (.bool false)) Y)
 (fun Z => oLen r fun v7 =>
 rThen (fun r8 h9 => .go d1 (w1 (.bool true)) h9)
 (rBlk d2 (cLoop (fun s t => u3 s fun l m b =>
 oLt b m fun u =>
 oIf u t
 (fun n => rThen (fun v w => u3 v fun x y z =>
 oAdd z i1 fun B =>
 .go d0 (w3 x y B) w)
 (rBlk d3 (oIdx d5 l b fun C =>
 oLdN d5 C n fun D =>
 oNd D fun E o =>
 oCk (Nat.beq E d0) (oCk (Nat.beq (llen o) d5) (u5 o fun c d e f g =>
 oCallP k (nat_lit 342) (w1 (.nd d0 (w5 c d e f g))) n fun F p =>
 oNot F fun i =>
 oGrd i false p (fun G => oCallP k (nat_lit 313) (w1 (gsel i false (.nd d0 (w5 c d e f g)))) p fun I J =>
 G I J) fun L q =>
 oPick i (.bool true) L fun j =>
 oGrd j false q (fun M => oCallP k (nat_lit 343) (w1 (gsel j false (.nd d0 (w5 c d e f g)))) q fun N O =>
 M N O) fun P Q =>
 oPick j (.bool true) P fun S =>
 oIf S Q
 (fun T => .go d1 (w1 (.bool false)) T)
 (fun U => .go d0 (w3 l m b) U))))))
 (fun V => .go d2 .nl V)) (nat_lit 100000) (w3 r v7 i0) Z)))
noncomputable def f312 (k : K) (a : A) (h : H) : R :=
 u1 a fun j =>
 oNd j fun l m =>
 oCk (Nat.beq l d0) (u5 m fun n o p c d =>
 oNew (w1 i0) h fun b e =>
 oSt b i0 e fun f =>
 oCall k (nat_lit 344) (w3 (.nd d0 (w5 n o p c d)) i1 b) f fun g i =>
 .go d1 (w1 g) i)
noncomputable def f313 (k : K) (a : A) (h : H) : R :=
 u1 a fun i =>
 oNd i fun j l =>
 oCk (Nat.beq j d0) (u5 l fun m q n o p =>
 oEqI m i1 fun b =>
 oGrd b true h (fun c => oEqS (gsel b true n) (.str d3 (nat_lit 3026478)) fun d =>
 c d h) fun e f =>
 oPick b e (.bool false) fun g =>
 .go d1 (w1 g) f)
noncomputable def f314 (k : K) (a : A) (h : H) : R :=
 u2 a fun j D =>
 oNd D fun E F =>
 oCk (Nat.beq E d0) (u5 F fun l m c d e =>
 oCallP k (nat_lit 311) (w1 j) h fun n f =>
 oNot n fun b =>
 oGrd b false f (fun o => oCallP k (nat_lit 312) (w1 (gsel b false (.nd d0 (w5 l m c d e)))) f fun p q =>
 o p q) fun r g =>
 oGrd b false g (fun s => oNot r fun t =>
 s t g) fun u v =>
 oPick b (.bool true) u fun w =>
 oIf w v
 (fun x => .go d1 (w1 (.nd d1 (w2 z3 (.bool false)))) x)
 (fun y => oCall k (nat_lit 345) (w4 j (.nd d0 (w5 l m c d e)) i0 z3) y fun i z =>
 oExt d0 i fun B =>
 oExt d1 i fun C =>
 .go d1 (w1 (.nd d1 (w2 B C))) z))
noncomputable def f315 (k : K) (a : A) (h : H) : R :=
 u1 a fun e =>
 oNd e fun f g =>
 oCk (Nat.beq f d0) (u5 g fun j l m i b =>
 oLen b fun d =>
 oSl d5 b i1 d fun c =>
 oOne c (.go d1 (w1 (.nd d0 (w5 i0 i0 zs z3 c))) h))
noncomputable def f316 (k : K) (a : A) (h : H) : R :=
 u2 a fun z v3 =>
 oNd v3 fun g5 l6 =>
 oCk (Nat.beq g5 d0) (u5 l6 fun v7 v9 O P Q =>
 oLen z fun S =>
 rThen (fun T U => u6 T fun d e f g i V =>
 oCallP k (nat_lit 312) (w1 (.nd d0 (w5 d e f g i))) U fun j n =>
 oGrd j true n (fun W => oCallP k (nat_lit 346) (w1 (gsel j true (.nd d0 (w5 d e f g i)))) n fun X Y =>
 W X Y) fun Z o =>
 oPick j Z (.bool false) fun c =>
 oGrd c true o (fun aa => oCallP k (nat_lit 347) (w3 (gsel c true V) (gsel c true (.nd d0 (w5 d e f g i))) i0) o fun ab ac =>
 aa ab ac) fun ad ae =>
 oPick c ad (.bool false) fun af =>
 .go d1 (w1 af) ae)
 (rBlk d2 (cLoop (fun ag ah => u9 ag fun p q r s t u v w l =>
 oLt l w fun ai =>
 oIf ai ah
 (fun x => rThen (fun aj ak => u9 aj fun al am an ao ap aq ar au av =>
 oAdd av i1 fun aw =>
 .go d0 (w9 al am an ao ap aq ar au aw) ak)
 (rBlk d3 (oIdx d12 v l fun ax =>
 oLdN d12 ax x fun ay =>
 oNd ay fun az y =>
 oCk (Nat.beq az d0) (oCk (Nat.beq (llen y) d12) (u12 y fun aA aB aC B C D aJ aK aL aM aN aO =>
 oCallP k (nat_lit 342) (w1 (.nd d0 (w5 aA aB aC B C))) x fun E m =>
 oNot E fun b =>
 oGrd b false m (fun F => oLt (gsel b false D) i0 fun G =>
 F G m) fun I J =>
 oPick b (.bool true) I fun L =>
 oIf L J
 (fun M => .go d1 (w1 (.bool false)) M)
 (fun N => .go d0 (w9 p q r s t u v w l) N))))))
 (fun aD => .go d2 (w6 p q r s t u) aD)) (nat_lit 100000) (w9 v7 v9 O P Q z z S i0) h)))
noncomputable def f317 (k : K) (a : A) (h : H) : R :=
 u1 a fun N =>
 oNd N fun O P =>
 oCk (Nat.beq O d0) (u5 P fun S T U Q c =>
 oLen c fun j =>
 rThen (fun l m => u1 l fun n =>
 .go d1 (w1 n) m)
 (rBlk d2 (cLoop (fun o p => u4 o fun d e f b =>
 oLt b f fun q =>
 oIf q p
 (fun g => rThen (fun r s => u4 r fun t u v w =>
 oAdd w i1 fun x =>
 .go d0 (w4 t u v x) s)
 (rBlk d3 (oIdx d5 e b fun y =>
 oLdN d5 y g fun z =>
 oNd z fun B i =>
 oCk (Nat.beq B d0) (oCk (Nat.beq (llen i) d5) (u5 i fun C D E F G =>
 oCallP k (nat_lit 317) (w1 (.nd d0 (w5 C D E F G))) g fun I J =>
 oAdd d I fun L =>
 .go d0 (w4 L e f b) J)))))
 (fun M => .go d2 (w1 d) M)) (nat_lit 100000) (w4 i1 c j i0) h)))
noncomputable def f318 (k : K) (a : A) (h : H) : R :=
 u2 a fun g i =>
 oLen g fun F =>
 oLen i fun G =>
 oNeI F G fun I =>
 oIf I h
 (fun J => .go d1 (w1 (.bool false)) J)
 (fun L => oLen g fun j =>
 rThen (fun M l => .go d1 (w1 (.bool true)) l)
 (rBlk d2 (cLoop (fun m n => u4 m fun d e f b =>
 oLt b f fun o =>
 oIf o n
 (fun c => rThen (fun p q => u4 p fun r s t u =>
 oAdd u i1 fun v =>
 .go d0 (w4 r s t v) q)
 (rBlk d3 (oIdx d1 d b fun w =>
 oLd w c fun x =>
 oIdx d1 e b fun y =>
 oLd y c fun z =>
 oNeI x z fun B =>
 oIf B c
 (fun C => .go d1 (w1 (.bool false)) C)
 (fun D => .go d0 (w4 d e f b) D))))
 (fun E => .go d2 .nl E)) (nat_lit 100000) (w4 g i j i0) L)))
noncomputable def f319 (k : K) (a : A) (h : H) : R :=
 u1 a fun v1 =>
 oNd v1 fun g3 l4 =>
 oCk (Nat.beq g3 d0) (u4 l4 fun v5 v7 e b =>
 oCallP k (nat_lit 180) (w1 v5) h fun l f =>
 oNot l fun c =>
 oGrd c false f (fun m => oCallP k (nat_lit 326) (w1 (gsel c false v7)) f fun n o =>
 m n o) fun p g =>
 oGrd c false g (fun q => oNot p fun r =>
 q r g) fun s i =>
 oPick c (.bool true) s fun d =>
 oGrd d false i (fun t => oLt (gsel d false b) i0 fun u =>
 t u i) fun v w =>
 oPick d (.bool true) v fun x =>
 oIf x w
 (fun y => .go d1 (w1 (.bool false)) y)
 (fun z => rThen (fun ai B => .go d1 (w1 (.bool false)) B)
 (rBlk d2 (oEqI e i1 fun C =>
 oIf C z
 (fun D => oCall k (nat_lit 273) .nl D fun E F =>
 oLen E fun G =>
 oLt b G fun I =>
 .go d1 (w1 I) F)
 (fun J => oEqI e i2 fun L =>
 oIf L J
 (fun M => oCall k (nat_lit 229) .nl M fun N O =>
 oLen N fun P =>
 oLt b P fun Q =>
 .go d1 (w1 Q) O)
 (fun S => oEqI e i3 fun j =>
 rThen (fun T U => u2 T fun V W =>
 oIf W U
 (fun X => oLe V (.int (nat_lit 9223372036854875807)) fun Y =>
 .go d1 (w1 Y) X)
 (fun Z => .go d0 .nl Z))
 (oIf j S
 (fun aa => .go d0 (w2 b j) aa)
 (fun ab => oEqI e i4 fun ac =>
 .go d0 (w2 b ac) ab))))))))
noncomputable def f320 (k : K) (a : A) (h : H) : R :=
 u2 a fun i I =>
 oLen i fun J =>
 rThen (fun O L => .go d1 (w1 (.bool true)) L)
 (rBlk d2 (cLoop (fun M N => u4 M fun c d e b =>
 oLt b e fun j =>
 oIf j N
 (fun f => rThen (fun l m => u4 l fun n o p q =>
 oAdd q i1 fun r =>
 .go d0 (w4 n o p r) m)
 (rBlk d3 (oIdx d5 d b fun s =>
 oLdN d5 s f fun t =>
 oNd t fun u g =>
 oCk (Nat.beq u d0) (oCk (Nat.beq (llen g) d5) (u5 g fun v w x y z =>
 oCallP k (nat_lit 348) (w2 (.nd d0 (w5 v w x y z)) c) f fun B C =>
 oNot B fun D =>
 oIf D C
 (fun E => .go d1 (w1 (.bool false)) E)
 (fun F => .go d0 (w4 c d e b) F))))))
 (fun G => .go d2 .nl G)) (nat_lit 100000) (w4 I i J i0) h))
noncomputable def f321 (k : K) (a : A) (h : H) : R :=
 u1 a fun c =>
 oLt c i1 fun d =>
 oGrd d false h (fun o => oLt (.int (nat_lit 9223372036854875807)) (gsel d false c) fun p =>
 o p h) fun q r =>
 oPick d (.bool true) q fun s =>
 oIf s r
 (fun t => .go d1 (w1 i0) t)
 (fun e => oRem c i3 fun b =>
 rThen (fun u f => .go d1 (w1 i3) f)
 (rBlk d2 (oEqI b i1 fun g =>
 oIf g e
 (fun i => .go d1 (w1 i1) i)
 (fun j => oEqI b i2 fun l =>
 oIf l j
 (fun m => .go d1 (w1 i2) m)
 (fun n => .go d0 .nl n)))))
noncomputable def f322 (k : K) (a : A) (h : H) : R :=
 u3 a fun v1 v3 v5 =>
 oNd v3 fun g7 l8 =>
 oCk (Nat.beq g7 d0) (u3 l8 fun v9 i ac =>
 oNd v5 fun ad ae =>
 oCk (Nat.beq ad d0) (u5 ae fun j af ag ah l =>
 oNeI j i0 fun b =>
 oGrd b false h (fun ai => oLen (gsel b false l) fun aj =>
 ai aj h) fun ak m =>
 oGrd b false m (fun al => oEqI ak i0 fun am =>
 al am m) fun an ao =>
 oPick b (.bool true) an fun ap =>
 oIf ap ao
 (fun aq => .go d1 (w1 (.nd d1 (w2 (.nd d0 (w5 i0 i0 zs z3 z3)) (.bool false)))) aq)
 (fun ar => oOne v1 (oOne v9 (oLen i fun au =>
 rThen (fun aW av => .go d1 (w1 (.nd d1 (w2 (.nd d0 (w5 i0 i0 zs z3 z3)) (.bool false)))) av)
 (rBlk d2 (cLoop (fun aw ax => u11 aw fun n o p q r s t u v w c =>
 oLt c w fun ay =>
 oIf ay ax
 (fun x => rThen (fun az aA => u11 az fun aB aC aD aE aF aG aH aI aJ aK aL =>
 oAdd aL i1 fun aM =>
 .go d0 (w11 aB aC aD aE aF aG aH aI aJ aK aM) aA)
 (rBlk d3 (oIdx d5 v c fun aN =>
 oLdN d5 aN x fun aO =>
 oNd aO fun aP y =>
 oCk (Nat.beq aP d0) (oCk (Nat.beq (llen y) d5) (u5 y fun aQ z B C D =>
 oCall k (nat_lit 315) (w1 (.nd d0 (w5 aQ z B C D))) x fun E F =>
 oCall k (nat_lit 315) (w1 (.nd d0 (w5 o p q r s))) F fun G I =>
 oCall k (nat_lit 349) (w4 (.nd d0 (w2 t u)) E G z3) I fun d J =>
 oExt d0 d fun L =>
 oExt d1 d fun M =>
 oIf M J
 (fun e => oIdx d5 n c fun N =>
 oLdN d5 N e fun O =>
 oCall k (nat_lit 350) (w2 O L) e fun f P =>
 oExt d0 f fun Q =>
 oExt d1 f fun S =>
 oNd Q fun T g =>
 oCk (Nat.beq T d0) (oCk (Nat.beq (llen g) d5) (u5 g fun U V W X Y =>
 .go d1 (w1 (.nd d1 (w2 (.nd d0 (w5 U V W X Y)) S))) P)))
 (fun Z => .go d0 (w11 n o p q r s t u v w c) Z))))))
 (fun aR => .go d2 .nl aR)) (nat_lit 100000) (w11 ac j af ag ah l v1 v9 i au i0) ar)))))))
noncomputable def f323 (k : K) (a : A) (h : H) : R :=
 u2 a fun s c =>
 oNd s fun t u =>
 oCk (Nat.beq t d0) (u5 u fun v w d e f =>
 oOne c (oNew (w1 c) h fun g i =>
 oCall k (nat_lit 266) (w2 (.nd d0 (w5 v w d e f)) (.nd (nat_lit 451) (w1 g))) i fun j l =>
 oNd j fun m b =>
 oCk (Nat.beq m d0) (oCk (Nat.beq (llen b) d5) (u5 b fun n o p q r =>
 .go d1 (w1 (.nd d0 (w5 n o p q r))) l))))
noncomputable def f324 (k : K) (a : A) (h : H) : R :=
 u1 a fun f =>
 oLen f fun y =>
 rThen (fun I z => .go d1 (w1 (.bool true)) z)
 (rBlk d2 (cLoop (fun B C => u3 B fun g c b =>
 oLt b c fun i =>
 oIf i C
 (fun d => rThen (fun j l => u3 j fun m n o =>
 oAdd o i1 fun p =>
 .go d0 (w3 m n p) l)
 (rBlk d3 (oIdx d5 g b fun q =>
 oLdN d5 q d fun r =>
 oNd r fun s e =>
 oCk (Nat.beq s d0) (oCk (Nat.beq (llen e) d5) (u5 e fun t D E F G =>
 oNeI t i1 fun u =>
 oIf u d
 (fun v => .go d1 (w1 (.bool false)) v)
 (fun w => .go d0 (w3 g c b) w))))))
 (fun x => .go d2 .nl x)) (nat_lit 100000) (w3 f y i0) h))
noncomputable def f325 (k : K) (a : A) (h : H) : R :=
 u2 a fun b v3 =>
 oNd v3 fun g5 l6 =>
 oCk (Nat.beq g5 d0) (u5 l6 fun v7 v9 c g ar =>
 oDeref b fun r =>
 oFld d0 r fun s =>
 oFld d3 s fun t =>
 oLd t h fun u =>
 oLe (.int (nat_lit 9223372036854875807)) u fun v =>
 oIf v h
 (fun w => .go d1 (w1 (.nd d1 (w2 i0 i8))) w)
 (fun i => oDeref b fun x =>
 oFld d0 x fun y =>
 oFld d0 y fun z =>
 oLd z i fun B =>
 oCallP k (nat_lit 256) (w3 B c g) i fun C D =>
 oIf C D
 (fun E => .go d1 (w1 (.nd d1 (w2 i0 i4))) E)
 (fun j => oDeref b fun F =>
 oFld d0 F fun G =>
 oFld d0 G fun I =>
 oLd I j fun J =>
 oLen J fun L =>
 oLe (.int (nat_lit 9223372036854776808)) L fun M =>
 oIf M j
 (fun N => .go d1 (w1 (.nd d1 (w2 i0 i8))) N)
 (fun l => oDeref b fun O =>
 oFld d0 O fun P =>
 oFld d3 P fun Q =>
 oLd Q l fun S =>
 oAdd S i1 fun T =>
 oDeref b fun U =>
 oFld d0 U fun V =>
 oFld d3 V fun W =>
 oSt W T l fun d =>
 oDeref b fun X =>
 oFld d0 X fun Y =>
 oFld d0 Y fun m =>
 oLd m d fun n =>
 oCall k (nat_lit 183) (w1 g) d fun o e =>
 oLd m e fun Z =>
 oCk (eqA Z n) (oDeref b fun aa =>
 oFld d0 aa fun ab =>
 oFld d3 ab fun p =>
 oLd p e fun f =>
 oLd p d fun ac =>
 oCk (eqA ac f) (oOne c (oOne o (oOne f (oBSl d4 d1 (w4 c o i3 f) e fun ad ae =>
 oApp d4 n ad ae fun af ag =>
 oDeref b fun ah =>
 oFld d0 ah fun ai =>
 oFld d0 ai fun aj =>
 oSt aj af ag fun q =>
 oDeref b fun ak =>
 oFld d0 ak fun al =>
 oFld d3 al fun am =>
 oLd am q fun an =>
 .go d1 (w1 (.nd d1 (w2 an i0))) q)))))))))
noncomputable def f326 (k : K) (a : A) (h : H) : R :=
 u1 a fun q =>
 oLen q fun v3 =>
 rThen (fun r4 h5 => .go d1 (w1 (.bool true)) h5)
 (rBlk d2 (cLoop (fun r6 h7 => u4 r6 fun r f g d =>
 oLt d g fun s =>
 oIf s h7
 (fun i => rThen (fun t u => u4 t fun v w x y =>
 oAdd y i1 fun z =>
 .go d0 (w4 v w x z) u)
 (rBlk d3 (oIdx d1 f d fun B =>
 oLd B i fun j =>
 oCallP k (nat_lit 321) (w1 j) i fun C l =>
 oEqI C i0 fun b =>
 oGrd b false l (fun D => oLt i0 (gsel b false d) fun E =>
 D E l) fun c m =>
 oGrd (gsel b false c) true m (fun F => oSub (gsel (gsel b false c) true d) i1 fun G =>
 F G m) fun I n =>
 oGrd (gsel b false c) true n (fun J => oIdx d1 (gsel (gsel b false c) true r) I fun L =>
 J L n) fun M e =>
 oGrd (gsel b false c) true e (fun N => oLd M e fun O =>
 N O e) fun P o =>
 oGrd (gsel b false c) true o (fun Q => oLe (gsel (gsel b false c) true j) P fun S =>
 Q S o) fun T p =>
 oGrd b false p (fun U => oPick (gsel b false c) T (.bool false) fun V =>
 U V p) fun W X =>
 oPick b (.bool true) W fun Y =>
 oIf Y X
 (fun Z => .go d1 (w1 (.bool false)) Z)
 (fun aa => .go d0 (w4 r f g d) aa))))
 (fun ab => .go d2 .nl ab)) (nat_lit 100000) (w4 q q v3 i0) h))
noncomputable def f327 (k : K) (a : A) (h : H) : R :=
 u4 a fun u t v5 v7 =>
 oCallP k (nat_lit 324) (w1 t) h fun v9 v =>
 oNot v9 fun w =>
 oIf w v
 (fun x => .go d1 (w1 (.nd d1 (w3 z3 z3 i1))) x)
 (fun y => oLen t fun z =>
 oLt v5 z fun B =>
 oIf B y
 (fun C => .go d1 (w1 (.nd d1 (w3 z3 z3 i8))) C)
 (fun D => oCall k (nat_lit 186) (w2 u i1) D fun c E =>
 oExt d0 c fun d =>
 oExt d1 c fun e =>
 oNeI e i0 fun F =>
 oIf F E
 (fun G => .go d1 (w1 (.nd d1 (w3 z3 z3 e))) G)
 (fun I => oCall k (nat_lit 353) (w2 t d) I fun f J =>
 oLen f fun L =>
 rThen (fun M N => u3 M fun O P Q =>
 oCall k (nat_lit 353) (w2 O P) N fun S T =>
 .go d1 (w1 (.nd d1 (w3 Q S i0))) T)
 (rBlk d2 (cLoop (fun U V => u7 U fun g i j l m n b =>
 oLt b n fun W =>
 oIf W V
 (fun o => rThen (fun X Y => u7 X fun Z aa ab ac ad ae af =>
 oAdd af i1 fun ag =>
 .go d0 (w7 Z aa ab ac ad ae ag) Y)
 (rBlk d3 (oIdx d5 m b fun ah =>
 oLdN d5 ah o fun ai =>
 oNd ai fun aj p =>
 oCk (Nat.beq aj d0) (oCk (Nat.beq (llen p) d5) (u5 p fun ak al am an ao =>
 oCall k (nat_lit 325) (w2 g (.nd d0 (w5 ak al am an ao))) o fun q ap =>
 oExt d0 q fun r =>
 oExt d1 q fun s =>
 oNeI s i0 fun aq =>
 oIf aq ap
 (fun ar => .go d1 (w1 (.nd d1 (w3 z3 z3 s))) ar)
 (fun au => oOne r (oBSl d1 d1 (w1 r) au fun av aw =>
 oApp d1 l av aw fun ax ay =>
 .go d0 (w7 g i j ax m n b) ay)))))))
 (fun az => .go d2 (w3 i j l) az)) (nat_lit 100000) (w7 u v7 d z3 f L i0) J)))))
noncomputable def f328 (k : K) (a : A) (h : H) : R :=
 u2 a fun v v3 =>
 oCall k (nat_lit 186) (w2 v i1) h fun w h6 =>
 oExt d0 w fun v7 =>
 oExt d1 w fun x =>
 oNeI x i0 fun v9 =>
 oIf v9 h6
 (fun y => .go d1 (w1 (.nd d1 (w2 (.nd d0 (w8 i0 i0 z3 i0 i0 zs z3 z3)) x))) y)
 (fun z => oCall k (nat_lit 353) (w2 v3 v7) z fun B C =>
 oCall k (nat_lit 189) (w2 v B) C fun j D =>
 oExt d0 j fun c =>
 oExt d1 j fun l =>
 oNeI l i0 fun E =>
 oIf E D
 (fun F => .go d1 (w1 (.nd d1 (w2 (.nd d0 (w8 i0 i0 z3 i0 i0 zs z3 z3)) l))) F)
 (fun m => oLen c fun G =>
 oEqI G i0 fun b =>
 oGrd b false m (fun I => oLen (gsel b false c) fun J =>
 I J m) fun L n =>
 oGrd b false n (fun M => oSub L i1 fun N =>
 M N n) fun O o =>
 oGrd b false o (fun P => oIdx d9 (gsel b false c) O fun Q =>
 P Q o) fun S p =>
 oGrd b false p (fun T => oFld d0 S fun U =>
 T U p) fun V g =>
 oGrd b false g (fun W => oLd V g fun X =>
 W X g) fun Y Z =>
 oPick b (.bool true) Y fun aa =>
 oIf aa Z
 (fun ab => .go d1 (w1 (.nd d1 (w2 (.nd d0 (w8 i0 i0 z3 i0 i0 zs z3 z3)) i1))) ab)
 (fun ac => oCall k (nat_lit 190) (w2 v c) ac fun i ad =>
 oExt d0 i fun d =>
 oExt d1 i fun e =>
 oExt d2 i fun q =>
 oNeI q i0 fun ae =>
 oIf ae ad
 (fun af => .go d1 (w1 (.nd d1 (w2 (.nd d0 (w8 i0 i0 z3 i0 i0 zs z3 z3)) q))) af)
 (fun ag => oLen e fun ah =>
 oEqI ah i0 fun ai =>
 oIf ai ag
 (fun aj => oCall k (nat_lit 114) (w1 d) aj fun r ak =>
 oExt d0 r fun al =>
 oExt d1 r fun am =>
 oNd al fun an s =>
 oCk (Nat.beq an d0) (oCk (Nat.beq (llen s) d8) (u8 s fun ao ap aq ar au av aw ax =>
 .go d1 (w1 (.nd d1 (w2 (.nd d0 (w8 ao ap aq ar au av aw ax)) am))) ak)))
 (fun t => oLen e fun ay =>
 oLt i60 ay fun f =>
 oGrd f false t (fun az => oLen (gsel f false d) fun aA =>
 az aA t) fun aB u =>
 oGrd f false u (fun aC => oLt i60 aB fun aD =>
 aC aD u) fun aE aF =>
 oPick f (.bool true) aE fun aG =>
 oIf aG aF
 (fun aH => .go d1 (w1 (.nd d1 (w2 (.nd d0 (w8 i0 i0 z3 i0 i0 zs z3 z3)) i8))) aH)
 (fun aI => oOne e (oOne d (.go d1 (w1 (.nd d1 (w2 (.nd d0 (w8 i9 i0 e i0 i0 zs z3 d)) i0))) aI))))))))
noncomputable def f329 (k : K) (a : A) (h : H) : R :=
 u2 a fun I J =>
 oNd J fun L M =>
 oCk (Nat.beq L d0) (u5 M fun N O e f g =>
 oDeref I fun i =>
 oFld d0 i fun j =>
 oFld d0 j fun l =>
 oLd l h fun m =>
 oCall k (nat_lit 191) (w2 m (.nd d0 (w5 N O e f g))) h fun b n =>
 oExt d0 b fun o =>
 oExt d1 b fun c =>
 oNd o fun p d =>
 oCk (Nat.beq p d0) (oCk (Nat.beq (llen d) d4) (u4 d fun q r s t =>
 rThen (fun u v => u4 u fun w x y z =>
 .go d1 (w1 (.nd d1 (w2 (.nd d0 (w4 w x y z)) i0))) v)
 (rBlk d2 (oEqI c i0 fun B =>
 oIf B n
 (fun C => .go d1 (w1 (.nd d1 (w2 (.nd d0 (w4 zs z3 i0 i0)) i2))) C)
 (fun D => oEqI c i2 fun E =>
 oIf E D
 (fun F => .go d1 (w1 (.nd d1 (w2 (.nd d0 (w4 zs z3 i0 i0)) i3))) F)
 (fun G => .go d0 (w4 q r s t) G)))))))
noncomputable def f330 (k : K) (a : A) (h : H) : R :=
 u1 a fun v1 =>
 oNd v1 fun g3 l4 =>
 oCk (Nat.beq g3 d0) (u5 l4 fun p q r ai c =>
 oOne p (oOne q (oOne r (oLen c fun s =>
 rThen (fun t u => u4 t fun v w x y =>
 .go d1 (w1 (.nd d0 (w4 v w x y))) u)
 (rBlk d2 (cLoop (fun z B => u7 z fun d e f g i j b =>
 oLt b j fun C =>
 oIf C B
 (fun l => rThen (fun D E => u7 D fun F G I J L M N =>
 oAdd N i1 fun O =>
 .go d0 (w7 F G I J L M O) E)
 (rBlk d3 (oIdx d5 i b fun P =>
 oLdN d5 P l fun Q =>
 oNd Q fun S m =>
 oCk (Nat.beq S d0) (oCk (Nat.beq (llen m) d5) (u5 m fun T U V W X =>
 oCallP k (nat_lit 330) (w1 (.nd d0 (w5 T U V W X))) l fun Y Z =>
 oNd Y fun aa n =>
 oCk (Nat.beq aa d0) (oCk (Nat.beq (llen n) d4) (oBSl d4 d1 (lapp n .nl) Z fun ab ac =>
 oApp d4 g ab ac fun o ad =>
 oOne o (.go d0 (w7 d e f o i j b) ad))))))))
 (fun ae => .go d2 (w4 d e f g) ae)) (nat_lit 100000) (w7 p q r z3 c s i0) h))))))
noncomputable def f331 (k : K) (a : A) (h : H) : R :=
 u3 a fun l v3 v5 =>
 oNd v3 fun g7 l8 =>
 oCk (Nat.beq g7 d0) (u5 l8 fun v9 fj fk fl b =>
 oLen b fun e =>
 oCall k (nat_lit 273) .nl h fun el ap =>
 oIdx d1 el v5 fun em =>
 oLd em ap fun c =>
 rThen (fun fm en => .go d1 (w1 (.nd d1 (w2 (.nd d0 (w8 i0 i0 z3 i0 i0 zs z3 z3)) i1))) en)
 (rBlk d2 (oEqS c (.str d5 (nat_lit 435745158513)) fun eo =>
 oIf eo ap
 (fun ep => oNeI e i2 fun eq =>
 oIf eq ep
 (fun er => .go d1 (w1 (.nd d1 (w2 (.nd d0 (w8 i0 i0 z3 i0 i0 zs z3 z3)) i1))) er)
 (fun aq => oIdx d5 b i1 fun es =>
 oLdN d5 es aq fun et =>
 oCallP k (nat_lit 330) (w1 et) aq fun eu ev =>
 oNd eu fun ew ar =>
 oCk (Nat.beq ew d0) (oCk (Nat.beq (llen ar) d4) (u4 ar fun au av aw ax =>
 oCallP k (nat_lit 103) (w1 (.nd d0 (w4 au av aw ax))) ev fun ex ey =>
 oNot ex fun ez =>
 oIf ez ey
 (fun eA => .go d1 (w1 (.nd d1 (w2 (.nd d0 (w8 i0 i0 z3 i0 i0 zs z3 z3)) i8))) eA)
 (fun eB => .go d1 (w1 (.nd d1 (w2 (.nd d0 (w8 i1 i0 z3 au av aw ax z3)) i0))) eB)))))
 (fun eC => oEqS c (.str d2 (nat_lit 26217)) fun eD =>
 oIf eD eC
 (fun eE => oNeI e i4 fun eF =>
 oIf eF eE
 (fun eG => .go d1 (w1 (.nd d1 (w2 (.nd d0 (w8 i0 i0 z3 i0 i0 zs z3 z3)) i1))) eG)
 (fun eH => oLen b fun eI =>
 oSl d5 b i1 eI fun eJ =>
 oCall k (nat_lit 332) (w2 l eJ) eH fun ay eK =>
 oExt d0 ay fun az =>
 oExt d1 ay fun aA =>
 oNeI aA i0 fun eL =>
 oIf eL eK
 (fun eM => .go d1 (w1 (.nd d1 (w2 (.nd d0 (w8 i0 i0 z3 i0 i0 zs z3 z3)) aA))) eM)
 (fun eN => oOne az (.go d1 (w1 (.nd d1 (w2 (.nd d0 (w8 i7 i0 z3 i0 i0 zs z3 az)) i0))) eN))))
 (fun eO => oEqS c (.str d5 (nat_lit 474214786402)) fun eP =>
 oIf eP eO
 (fun eQ => oLt e i2 fun eR =>
 oIf eR eQ
 (fun eS => .go d1 (w1 (.nd d1 (w2 (.nd d0 (w8 i0 i0 z3 i0 i0 zs z3 z3)) i1))) eS)
 (fun eT => oLen b fun eU =>
 oSl d5 b i1 eU fun eV =>
 oCall k (nat_lit 332) (w2 l eV) eT fun aB eW =>
 oExt d0 aB fun eX =>
 oExt d1 aB fun aC =>
 oNeI aC i0 fun eY =>
 oIf eY eW
 (fun eZ => .go d1 (w1 (.nd d1 (w2 (.nd d0 (w8 i0 i0 z3 i0 i0 zs z3 z3)) aC))) eZ)
 (fun e0 => oCall k (nat_lit 114) (w1 eX) e0 fun aD e1 =>
 oExt d0 aD fun e2 =>
 oExt d1 aD fun e3 =>
 oNd e2 fun e4 aE =>
 oCk (Nat.beq e4 d0) (oCk (Nat.beq (llen aE) d8) (u8 aE fun e5 e6 e7 e8 e9 fa fb aF =>
 .go d1 (w1 (.nd d1 (w2 (.nd d0 (w8 e5 e6 e7 e8 e9 fa fb aF)) e3))) e1)))))
 (fun fc => oEqS c (.str d6 (nat_lit 107083775959404)) fun aG =>
 oIf aG fc
 (fun t => oLt e i3 fun f =>
 oGrd f false t (fun aH => oIdx d5 (gsel f false b) i1 fun aI =>
 aH aI t) fun aJ u =>
 oGrd f false u (fun aK => oFld d0 aJ fun aL =>
 aK aL u) fun aM m =>
 oGrd f false m (fun aN => oLd aM m fun aO =>
 aN aO m) fun aP v =>
 oGrd f false v (fun aQ => oNeI aP i0 fun aR =>
 aQ aR v) fun aS aT =>
 oPick f (.bool true) aS fun aU =>
 oIf aU aT
 (fun aV => .go d1 (w1 (.nd d1 (w2 (.nd d0 (w8 i0 i0 z3 i0 i0 zs z3 z3)) i1))) aV)
 (fun w => oIdx d5 b i1 fun aW =>
 oFld d4 aW fun aX =>
 oLd aX w fun aY =>
 oLen b fun aZ =>
 oSl d5 b i2 aZ fun a0 =>
 oCall k (nat_lit 276) (w4 l i5 aY a0) w fun x a1 =>
 oExt d0 x fun a2 =>
 oExt d1 x fun a3 =>
 oNd a2 fun a4 y =>
 oCk (Nat.beq a4 d0) (oCk (Nat.beq (llen y) d8) (u8 y fun a5 a6 a7 a8 a9 ba bb bc =>
 .go d1 (w1 (.nd d1 (w2 (.nd d0 (w8 a5 a6 a7 a8 a9 ba bb bc)) a3))) a1))))
 (fun bd => oEqS c (.str d5 (nat_lit 499934390387)) fun be =>
 oIf be bd
 (fun bf => oLt e i3 fun bg =>
 oIf bg bf
 (fun bh => .go d1 (w1 (.nd d1 (w2 (.nd d0 (w8 i0 i0 z3 i0 i0 zs z3 z3)) i1))) bh)
 (fun bi => oSl d5 b i1 i2 fun bj =>
 oLen b fun bk =>
 oSl d5 b i2 bk fun bl =>
 oCall k (nat_lit 276) (w4 l i11 bj bl) bi fun z bm =>
 oExt d0 z fun bn =>
 oExt d1 z fun bo =>
 oNd bn fun bp B =>
 oCk (Nat.beq bp d0) (oCk (Nat.beq (llen B) d8) (u8 B fun bq br bs bt bu bv bw bx =>
 .go d1 (w1 (.nd d1 (w2 (.nd d0 (w8 bq br bs bt bu bv bw bx)) bo))) bm))))
 (fun bz => oEqS c (.str d5 (nat_lit 465490374508)) fun bA =>
 oIf bA bz
 (fun C => oLt e i3 fun g =>
 oGrd g false C (fun bB => oIdx d5 (gsel g false b) i1 fun bC =>
 bB bC C) fun bD D =>
 oGrd g false D (fun bE => oFld d0 bD fun bF =>
 bE bF D) fun bG n =>
 oGrd g false n (fun bH => oLd bG n fun bI =>
 bH bI n) fun bJ E =>
 oGrd g false E (fun bK => oNeI bJ i0 fun bL =>
 bK bL E) fun bM F =>
 oPick g (.bool true) bM fun d =>
 oGrd d false F (fun bN => oIdx d5 (gsel d false b) i1 fun bO =>
 bN bO F) fun bP G =>
 oGrd d false G (fun bQ => oFld d4 bP fun bR =>
 bQ bR G) fun bS o =>
 oGrd d false o (fun bT => oLd bS o fun bU =>
 bT bU o) fun bV I =>
 oGrd d false I (fun bW => oLen bV fun bX =>
 bW bX I) fun bY J =>
 oGrd d false J (fun bZ => oEqI bY i0 fun b0 =>
 bZ b0 J) fun b1 b2 =>
 oPick d (.bool true) b1 fun b3 =>
 oIf b3 b2
 (fun b4 => .go d1 (w1 (.nd d1 (w2 (.nd d0 (w8 i0 i0 z3 i0 i0 zs z3 z3)) i1))) b4)
 (fun L => oIdx d5 b i1 fun b5 =>
 oFld d4 b5 fun b6 =>
 oLd b6 L fun b7 =>
 oLen b fun b8 =>
 oSl d5 b i2 b8 fun b9 =>
 oCall k (nat_lit 327) (w4 l b7 i60 b9) L fun p ca =>
 oExt d0 p fun M =>
 oExt d1 p fun cb =>
 oExt d2 p fun N =>
 oNeI N i0 fun cc =>
 oIf cc ca
 (fun cd => .go d1 (w1 (.nd d1 (w2 (.nd d0 (w8 i0 i0 z3 i0 i0 zs z3 z3)) N))) cd)
 (fun ce => oCall k (nat_lit 332) (w2 l cb) ce fun O cf =>
 oExt d0 O fun q =>
 oExt d1 O fun P =>
 oNeI P i0 fun cg =>
 oIf cg cf
 (fun ch => .go d1 (w1 (.nd d1 (w2 (.nd d0 (w8 i0 i0 z3 i0 i0 zs z3 z3)) P))) ch)
 (fun ci => oLen q fun cj =>
 oLt i60 cj fun ck =>
 oIf ck ci
 (fun cl => .go d1 (w1 (.nd d1 (w2 (.nd d0 (w8 i0 i0 z3 i0 i0 zs z3 z3)) i8))) cl)
 (fun cm => oOne M (oOne q (.go d1 (w1 (.nd d1 (w2 (.nd d0 (w8 i9 i0 M i0 i0 zs z3 q)) i0))) cm)))))))
 (fun cn => oEqS c (.str d4 (nat_lit 561276275)) fun co =>
 oIf co cn
 (fun Q => oNeI e i3 fun i =>
 oGrd i false Q (fun cp => oIdx d5 (gsel i false b) i1 fun cq =>
 cp cq Q) fun cr S =>
 oGrd i false S (fun cs => oFld d0 cr fun ct =>
 cs ct S) fun cu r =>
 oGrd i false r (fun cv => oLd cu r fun cw =>
 cv cw r) fun cx T =>
 oGrd i false T (fun cy => oNeI cx i1 fun cz =>
 cy cz T) fun cA cB =>
 oPick i (.bool true) cA fun cC =>
 oIf cC cB
 (fun cD => .go d1 (w1 (.nd d1 (w2 (.nd d0 (w8 i0 i0 z3 i0 i0 zs z3 z3)) i1))) cD)
 (fun U => oIdx d5 b i1 fun cE =>
 oLdN d5 cE U fun cF =>
 oCall k (nat_lit 329) (w2 l cF) U fun V cG =>
 oExt d0 V fun cH =>
 oExt d1 V fun W =>
 oNd cH fun cI X =>
 oCk (Nat.beq cI d0) (oCk (Nat.beq (llen X) d4) (u4 X fun fh fi cJ Y =>
 oNeI W i0 fun cK =>
 oIf cK cG
 (fun cL => .go d1 (w1 (.nd d1 (w2 (.nd d0 (w8 i0 i0 z3 i0 i0 zs z3 z3)) W))) cL)
 (fun cM => oNeI cJ i3 fun cN =>
 oIf cN cM
 (fun cO => .go d1 (w1 (.nd d1 (w2 (.nd d0 (w8 i0 i0 z3 i0 i0 zs z3 z3)) i1))) cO)
 (fun Z => oIdx d5 b i2 fun cP =>
 oLdN d5 cP Z fun cQ =>
 oCall k (nat_lit 277) (w2 l cQ) Z fun aa cR =>
 oExt d0 aa fun cS =>
 oExt d1 aa fun ab =>
 oNd cS fun cT ac =>
 oCk (Nat.beq cT d0) (oCk (Nat.beq (llen ac) d8) (u8 ac fun cU cV cW cX cY cZ c0 c1 =>
 oNeI ab i0 fun c2 =>
 oIf c2 cR
 (fun c3 => .go d1 (w1 (.nd d1 (w2 (.nd d0 (w8 i0 i0 z3 i0 i0 zs z3 z3)) ab))) c3)
 (fun c4 => oBSl d8 d1 (w8 cU cV cW cX cY cZ c0 c1) c4 fun ad c5 =>
 oOne Y (oOne ad (.go d1 (w1 (.nd d1 (w2 (.nd d0 (w8 i4 Y z3 i0 i0 zs z3 ad)) i0))) c5)))))))))))
 (fun c6 => oEqS c (.str d5 (nat_lit 499918267762)) fun c7 =>
 oIf c7 c6
 (fun c8 => oLt e i2 fun c9 =>
 oIf c9 c8
 (fun da => .go d1 (w1 (.nd d1 (w2 (.nd d0 (w8 i0 i0 z3 i0 i0 zs z3 z3)) i1))) da)
 (fun db => oLen b fun dc =>
 oSl d5 b i1 dc fun dd =>
 oCall k (nat_lit 328) (w2 l dd) db fun ae de =>
 oExt d0 ae fun df =>
 oExt d1 ae fun af =>
 oNd df fun dg ag =>
 oCk (Nat.beq dg d0) (oCk (Nat.beq (llen ag) d8) (u8 ag fun dh di dj dk dl dm dn dp =>
 oNeI af i0 fun dq =>
 oIf dq de
 (fun dr => .go d1 (w1 (.nd d1 (w2 (.nd d0 (w8 i0 i0 z3 i0 i0 zs z3 z3)) af))) dr)
 (fun ds => oBSl d8 d1 (w8 dh di dj dk dl dm dn dp) ds fun ah dt =>
 oOne ah (.go d1 (w1 (.nd d1 (w2 (.nd d0 (w8 i10 i0 z3 i0 i0 zs z3 ah)) i0))) dt))))))
 (fun du => oEqS c (.str d10 (nat_lit 568481701896198680765804)) fun dv =>
 oIf dv du
 (fun ai => oLt e i3 fun j =>
 oGrd j false ai (fun dw => oIdx d5 (gsel j false b) i1 fun dx =>
 dw dx ai) fun dy aj =>
 oGrd j false aj (fun dz => oFld d0 dy fun dA =>
 dz dA aj) fun dB s =>
 oGrd j false s (fun dC => oLd dB s fun dD =>
 dC dD s) fun dE ak =>
 oGrd j false ak (fun dF => oNeI dE i0 fun dG =>
 dF dG ak) fun dH dI =>
 oPick j (.bool true) dH fun dJ =>
 oIf dJ dI
 (fun dK => .go d1 (w1 (.nd d1 (w2 (.nd d0 (w8 i0 i0 z3 i0 i0 zs z3 z3)) i1))) dK)
 (fun al => oIdx d5 b i1 fun dL =>
 oFld d4 dL fun dM =>
 oLd dM al fun dN =>
 oLen b fun dO =>
 oSl d5 b i2 dO fun dP =>
 oCall k (nat_lit 354) (w3 l dN dP) al fun am dQ =>
 oExt d0 am fun dR =>
 oExt d1 am fun dS =>
 oNd dR fun dT an =>
 oCk (Nat.beq dT d0) (oCk (Nat.beq (llen an) d8) (u8 an fun dU dV dW dX dY dZ ea eb =>
 .go d1 (w1 (.nd d1 (w2 (.nd d0 (w8 dU dV dW dX dY dZ ea eb)) dS))) dQ))))
 (fun ec => oEqS c (.str d6 (nat_lit 111524889126244)) fun ao =>
 rThen (fun ed ee => u1 ed fun ef =>
 oIf ef ee
 (fun eg => .go d1 (w1 (.nd d1 (w2 (.nd d0 (w8 i0 i0 z3 i0 i0 zs z3 z3)) i5))) eg)
 (fun eh => .go d0 .nl eh))
 (oIf ao ec
 (fun ei => .go d0 (w1 ao) ei)
 (fun ej => oEqS c (.str d13 (nat_lit 9537540304760134829668875789668)) fun ek =>
 .go d0 (w1 ek) ej))))))))))))))
noncomputable def f332 (k : K) (a : A) (h : H) : R :=
 u2 a fun v1 n =>
 oLen n fun v5 =>
 rThen (fun r6 h7 => u1 r6 fun v8 =>
 .go d1 (w1 (.nd d1 (w2 v8 i0))) h7)
 (rBlk d2 (cLoop (fun o p => u5 o fun c d e f b =>
 oLt b f fun q =>
 oIf q p
 (fun g => rThen (fun r s => u5 r fun t u v w x =>
 oAdd x i1 fun y =>
 .go d0 (w5 t u v w y) s)
 (rBlk d3 (oIdx d5 e b fun z =>
 oLdN d5 z g fun B =>
 oNd B fun C i =>
 oCk (Nat.beq C d0) (oCk (Nat.beq (llen i) d5) (u5 i fun D E F G I =>
 oCall k (nat_lit 277) (w2 c (.nd d0 (w5 D E F G I))) g fun j J =>
 oExt d0 j fun L =>
 oExt d1 j fun l =>
 oNd L fun M m =>
 oCk (Nat.beq M d0) (oCk (Nat.beq (llen m) d8) (u8 m fun N O P Q S T U V =>
 oNeI l i0 fun W =>
 oIf W J
 (fun X => .go d1 (w1 (.nd d1 (w2 z3 l))) X)
 (fun Y => oBSl d8 d1 (w8 N O P Q S T U V) Y fun Z aa =>
 oApp d8 d Z aa fun ab ac =>
 .go d0 (w5 c ab e f b) ac))))))))
 (fun ad => .go d2 (w1 d) ad)) (nat_lit 100000) (w5 v1 z3 n v5 i0) h))
noncomputable def f333 (k : K) (a : A) (h : H) : R :=
 u2 a fun v1 v3 =>
 oNd v3 fun g5 l6 =>
 oCk (Nat.beq g5 d0) (u5 l6 fun v7 v9 T U V =>
 oBSl d5 d0 .nl h fun W X =>
 oCall k (nat_lit 355) (w2 (.nd d0 (w5 v7 v9 T U V)) W) X fun q Y =>
 oLen q fun Z =>
 rThen (fun aa ab => u1 aa fun r =>
 oLe i0 r fun ac =>
 .go d1 (w1 (.nd d1 (w2 r ac))) ab)
 (rBlk d2 (cLoop (fun ad ae => u5 ad fun d e i j f =>
 oLt f j fun af =>
 oIf af ae
 (fun s => rThen (fun ag ah => u5 ag fun ai aj ak al am =>
 oAdd am i1 fun an =>
 .go d0 (w5 ai aj ak al an) ah)
 (rBlk d3 (oIdx d5 i f fun ao =>
 oLdN d5 ao s fun ap =>
 oNd ap fun aq t =>
 oCk (Nat.beq aq d0) (oCk (Nat.beq (llen t) d5) (u5 t fun ar au av aw ax =>
 oCallP k (nat_lit 206) (w2 d (.nd d0 (w5 ar au av aw ax))) s fun g u =>
 oLt g i0 fun c =>
 oGrd c false u (fun ay => oIdx d12 (gsel c false d) (gsel c false g) fun az =>
 ay az u) fun aA v =>
 oGrd c false v (fun aB => oFld d5 aA fun aC =>
 aB aC v) fun aD l =>
 oGrd c false l (fun aE => oLd aD l fun aF =>
 aE aF l) fun aG w =>
 oGrd c false w (fun aH => oLe aG i0 fun aI =>
 aH aI w) fun aJ aK =>
 oPick c (.bool true) aJ fun aL =>
 oIf aL aK
 (fun aM => .go d3 (w5 d e i j f) aM)
 (fun x => oLe i0 e fun b =>
 oGrd b true x (fun aN => oIdx d12 (gsel b true d) (gsel b true g) fun aO =>
 aN aO x) fun aP y =>
 oGrd b true y (fun aQ => oFld d11 aP fun aR =>
 aQ aR y) fun aS m =>
 oGrd b true m (fun z => oLd aS m fun B =>
 z B m) fun C n =>
 oGrd b true n (fun D => oLen C fun E =>
 D E n) fun F o =>
 oGrd b true o (fun G => oNeI (gsel b true e) F fun I =>
 G I o) fun J L =>
 oPick b J (.bool false) fun M =>
 oIf M L
 (fun N => .go d1 (w1 (.nd d1 (w2 i0 (.bool false)))) N)
 (fun p => oIdx d12 d g fun O =>
 oFld d11 O fun P =>
 oLd P p fun Q =>
 oLen Q fun S =>
 .go d0 (w5 d S i j f) p)))))))
 (fun aT => .go d2 (w1 e) aT)) (nat_lit 100000) (w5 v1 (.int (nat_lit 9223372036854775807)) q Z i0) Y)))
noncomputable def f334 (k : K) (a : A) (h : H) : R :=
 u3 a fun L v3 v5 =>
 oNd v3 fun g7 l8 =>
 oCk (Nat.beq g7 d0) (u5 l8 fun v9 M N O P =>
 oBSl d12 d0 .nl h fun Q S =>
 oApp d12 Q L S fun T U =>
 oBSl d5 d0 .nl U fun V W =>
 oCall k (nat_lit 355) (w2 (.nd d0 (w5 v9 M N O P)) V) W fun n X =>
 oLen n fun Y =>
 rThen (fun Z aa => u1 Z fun ab =>
 .go d1 (w1 ab) aa)
 (rBlk d2 (cLoop (fun ac ad => u6 ac fun c g d i j e =>
 oLt e j fun ae =>
 oIf ae ad
 (fun o => rThen (fun af ag => u6 af fun ah ai aj ak al am =>
 oAdd am i1 fun an =>
 .go d0 (w6 ah ai aj ak al an) ag)
 (rBlk d3 (oIdx d5 i e fun ao =>
 oLdN d5 ao o fun ap =>
 oNd ap fun aq p =>
 oCk (Nat.beq aq d0) (oCk (Nat.beq (llen p) d5) (u5 p fun ar au av aw ax =>
 oCallP k (nat_lit 206) (w2 c (.nd d0 (w5 ar au av aw ax))) o fun f q =>
 oLe i0 f fun b =>
 oGrd b true q (fun ay => oIdx d12 (gsel b true c) (gsel b true f) fun az =>
 ay az q) fun aA r =>
 oGrd b true r (fun aB => oFld d5 aA fun aC =>
 aB aC r) fun aD l =>
 oGrd b true l (fun aE => oLd aD l fun aF =>
 aE aF l) fun aG s =>
 oGrd b true s (fun aH => oLt i0 aG fun aI =>
 aH aI s) fun aJ aK =>
 oPick b aJ (.bool false) fun aL =>
 rThen (fun t u => u6 t fun v w x y z B =>
 .go d0 (w6 v w x y z B) u)
 (oIf aL aK
 (fun m => oIdx d12 c f fun C =>
 oFld d11 C fun D =>
 oLd D m fun E =>
 oIdx d12 E g fun F =>
 oLdN d12 F m fun G =>
 oIdx d12 d f fun I =>
 oStN d12 I G m fun J =>
 .go d0 (w6 c g d i j e) J)
 (fun aM => .go d0 (w6 c g d i j e) aM)))))))
 (fun aN => .go d2 (w1 d) aN)) (nat_lit 100000) (w6 L v5 T n Y i0) X)))
noncomputable def f335 (k : K) (a : A) (h : H) : R :=
 u3 a fun v1 B v5 =>
 oCall k (nat_lit 229) .nl h fun v7 I =>
 oIdx d1 v7 v1 fun v9 =>
 oLd v9 I fun b =>
 oIdx d3 B i0 fun bl =>
 oLdN d3 bl I fun bm =>
 oNd bm fun bn C =>
 oCk (Nat.beq bn d0) (oCk (Nat.beq (llen C) d3) (u3 C fun c l bo =>
 rThen (fun bp m => u4 bp fun bq e br d =>
 oIdx d3 br i1 fun bs =>
 oLdN d3 bs m fun bt =>
 oNd bt fun bu D =>
 oCk (Nat.beq bu d0) (oCk (Nat.beq (llen D) d3) (u3 D fun bv f ck =>
 oNeI bq i3 fun n =>
 oGrd n false m (fun bw => oNeI (gsel n false bv) i3 fun bx =>
 bw bx m) fun bz bA =>
 oPick n (.bool true) bz fun bB =>
 oIf bB bA
 (fun bC => oSCat d (.str d14 (nat_lit 2361506002213494275199441370751034)) fun bD =>
 .go d1 (w1 (.nd d1 (w2 (.nd d0 (w3 i0 i0 zs)) bD))) bC)
 (fun bE => rThen (fun bF E => u1 bF fun j =>
 oLt j (.int (nat_lit 9223372035854775809)) fun o =>
 oGrd o false E (fun bG => oLt (.int (nat_lit 9223372037854775807)) (gsel o false j) fun bH =>
 bG bH E) fun bI bJ =>
 oPick o (.bool true) bI fun bK =>
 oIf bK bJ
 (fun bL => .go d1 (w1 (.nd d1 (w2 (.nd d0 (w3 i0 i0 zs)) (.str d16 (nat_lit 134789154063995763508661170926303147374))))) bL)
 (fun bM => oOne j (.go d1 (w1 (.nd d1 (w2 (.nd d0 (w3 i3 j zs)) zs))) bM)))
 (rBlk d3 (oEqS d (.str d1 (nat_lit 61)) fun bN =>
 oIf bN bE
 (fun bO => oEqI e f fun bP =>
 oCallP k (nat_lit 356) (w1 bP) bO fun bQ bR =>
 oNd bQ fun bS F =>
 oCk (Nat.beq bS d0) (oCk (Nat.beq (llen F) d3) (u3 F fun bT bU bV =>
 .go d1 (w1 (.nd d1 (w2 (.nd d0 (w3 bT bU bV)) zs))) bR)))
 (fun bW => oEqS d (.str d1 (nat_lit 60)) fun bX =>
 oIf bX bW
 (fun bY => oLt e f fun bZ =>
 oCallP k (nat_lit 356) (w1 bZ) bY fun b0 b1 =>
 oNd b0 fun b2 G =>
 oCk (Nat.beq b2 d0) (oCk (Nat.beq (llen G) d3) (u3 G fun b3 b4 b5 =>
 .go d1 (w1 (.nd d1 (w2 (.nd d0 (w3 b3 b4 b5)) zs))) b1)))
 (fun b6 => oEqS d (.str d1 (nat_lit 43)) fun b7 =>
 rThen (fun b8 b9 => u1 b8 fun ca =>
 .go d0 (w1 ca) b9)
 (oIf b7 b6
 (fun cb => oAdd e f fun cc =>
 .go d0 (w1 cc) cb)
 (fun cd => oEqS d (.str d1 (nat_lit 45)) fun ce =>
 rThen (fun J L => u1 J fun M =>
 .go d0 (w1 M) L)
 (oIf ce cd
 (fun cf => oSub e f fun N =>
 .go d0 (w1 N) cf)
 (fun O => oEqS d (.str d1 (nat_lit 42)) fun P =>
 rThen (fun Q S => u1 Q fun T =>
 .go d0 (w1 T) S)
 (oIf P O
 (fun U => oMul e f fun V =>
 .go d0 (w1 V) U)
 (fun W => .go d0 (w1 i0) W))))))))))))))
 (rBlk d2 (oEqS b (.str d5 (nat_lit 272401986926)) fun X =>
 oIf X I
 (fun Y => oEqI c i1 fun Z =>
 oCallP k (nat_lit 356) (w1 Z) Y fun aa ab =>
 oNd aa fun ac p =>
 oCk (Nat.beq ac d0) (oCk (Nat.beq (llen p) d3) (u3 p fun ad ae af =>
 .go d1 (w1 (.nd d1 (w2 (.nd d0 (w3 ad ae af)) zs))) ab)))
 (fun ag => oEqS b (.str d5 (nat_lit 272502448496)) fun ah =>
 oIf ah ag
 (fun ai => oEqI c i7 fun aj =>
 oCallP k (nat_lit 356) (w1 aj) ai fun ak al =>
 oNd ak fun am q =>
 oCk (Nat.beq am d0) (oCk (Nat.beq (llen q) d3) (u3 q fun an ao ap =>
 .go d1 (w1 (.nd d1 (w2 (.nd d0 (w3 an ao ap)) zs))) al)))
 (fun aq => oEqS b (.str d7 (nat_lit 17858703301375342)) fun ar =>
 oIf ar aq
 (fun au => oEqI c i3 fun av =>
 oCallP k (nat_lit 356) (w1 av) au fun aw ax =>
 oNd aw fun ay r =>
 oCk (Nat.beq ay d0) (oCk (Nat.beq (llen r) d3) (u3 r fun az aA aB =>
 .go d1 (w1 (.nd d1 (w2 (.nd d0 (w3 az aA aB)) zs))) ax)))
 (fun aC => oEqS b (.str d3 (nat_lit 7630702)) fun aD =>
 oIf aD aC
 (fun aE => oCallP k (nat_lit 243) (w1 (.nd d0 (w3 c l bo))) aE fun aF aG =>
 oCallP k (nat_lit 356) (w1 aF) aG fun aH aI =>
 oNd aH fun aJ s =>
 oCk (Nat.beq aJ d0) (oCk (Nat.beq (llen s) d3) (u3 s fun aK aL aM =>
 .go d1 (w1 (.nd d1 (w2 (.nd d0 (w3 aK aL aM)) zs))) aI)))
 (fun aN => oEqS b (.str d3 (nat_lit 4157797)) fun aO =>
 oIf aO aN
 (fun aP => oIdx d3 B i1 fun aQ =>
 oLdN d3 aQ aP fun cj =>
 .bad)
 (fun aR => oEqS b (.str d3 (nat_lit 7496035)) fun t =>
 rThen (fun aS aT => u6 aS fun u g aU v i aV =>
 oIf aV aT
 (fun aW => oNeI u i7 fun aX =>
 oIf aX aW
 (fun aY => oSCat i (.str d14 (nat_lit 2361506002213494275199441370751034)) fun aZ =>
 .go d1 (w1 (.nd d1 (w2 (.nd d0 (w3 i0 i0 zs)) aZ))) aY)
 (fun a0 => oEqS i (.str d3 (nat_lit 7496035)) fun a1 =>
 oIf a1 a0
 (fun w => oIdx d6 v g fun a2 =>
 oFld d0 a2 fun a3 =>
 oLdN d3 a3 w fun a4 =>
 oNd a4 fun a5 x =>
 oCk (Nat.beq a5 d0) (oCk (Nat.beq (llen x) d3) (u3 x fun a6 a7 a8 =>
 .go d1 (w1 (.nd d1 (w2 (.nd d0 (w3 a6 a7 a8)) zs))) w)))
 (fun y => oIdx d6 v g fun a9 =>
 oFld d3 a9 fun ba =>
 oLdN d3 ba y fun bb =>
 oNd bb fun bc z =>
 oCk (Nat.beq bc d0) (oCk (Nat.beq (llen z) d3) (u3 z fun bd be bf =>
 .go d1 (w1 (.nd d1 (w2 (.nd d0 (w3 bd be bf)) zs))) y)))))
 (fun bg => .go d0 (w4 u g aU i) bg))
 (oIf t aR
 (fun bh => .go d0 (w6 c l B v5 b t) bh)
 (fun bi => oEqS b (.str d3 (nat_lit 7496803)) fun bj =>
 .go d0 (w6 c l B v5 b bj) bi)))))))))))
noncomputable def f342 (k : K) (a : A) (h : H) : R :=
 u1 a fun n =>
 oNd n fun o p =>
 oCk (Nat.beq o d0) (u5 p fun c q r d e =>
 oEqI c i1 fun b =>
 oGrd b true h (fun f => oCallP k (nat_lit 312) (w1 (gsel b true (.nd d0 (w5 c q r d e)))) h fun g i =>
 f g i) fun j l =>
 oPick b j (.bool false) fun m =>
 .go d1 (w1 m) l)
noncomputable def f343 (k : K) (a : A) (h : H) : R :=
 u1 a fun i =>
 oNd i fun j l =>
 oCk (Nat.beq j d0) (u5 l fun m q n o p =>
 oEqI m i1 fun b =>
 oGrd b true h (fun c => oEqS (gsel b true n) (.str d1 (nat_lit 95)) fun d =>
 c d h) fun e f =>
 oPick b e (.bool false) fun g =>
 .go d1 (w1 g) f)
noncomputable def f344 (k : K) (a : A) (h : H) : R :=
 u3 a fun v1 X l =>
 oNd v1 fun g7 l8 =>
 oCk (Nat.beq g7 d0) (u5 l8 fun Y Z aa m f =>
 oDeref l fun ab =>
 oLd ab h fun ac =>
 oAdd ac i1 fun ad =>
 oDeref l fun ae =>
 oSt ae ad h fun n =>
 oLt i40 X fun c =>
 oGrd c false n (fun af => oDeref (gsel c false l) fun ag =>
 af ag n) fun ah g =>
 oGrd c false g (fun ai => oLd ah g fun aj =>
 ai aj g) fun ak o =>
 oGrd c false o (fun al => oLt (.int (nat_lit 9223372036854777808)) ak fun am =>
 al am o) fun an p =>
 oPick c (.bool true) an fun b =>
 oGrd b false p (fun ao => oLen (gsel b false f) fun ap =>
 ao ap p) fun aq q =>
 oGrd b false q (fun ar => oCallP k (nat_lit 249) (w4 (gsel b false Y) (gsel b false Z) (gsel b false aa) aq) q fun au av =>
 ar au av) fun aw r =>
 oGrd b false r (fun ax => oNot aw fun ay =>
 ax ay r) fun az aA =>
 oPick b (.bool true) az fun aB =>
 oIf aB aA
 (fun aC => .go d1 (w1 (.bool false)) aC)
 (fun s => oNeI Y i1 fun d =>
 oGrd d true s (fun aD => oLen (gsel d true m) fun aE =>
 aD aE s) fun aF t =>
 oGrd d true t (fun aG => oLt i0 aF fun aH =>
 aG aH t) fun aI u =>
 oPick d aI (.bool false) fun e =>
 oGrd e false u (fun aJ => oCallP k (nat_lit 326) (w1 (gsel e false m)) u fun aK aL =>
 aJ aK aL) fun aM v =>
 oGrd e false v (fun aN => oNot aM fun aO =>
 aN aO v) fun aP aQ =>
 oPick e (.bool true) aP fun aR =>
 oIf aR aQ
 (fun aS => .go d1 (w1 (.bool false)) aS)
 (fun aT => oLen f fun aU =>
 rThen (fun a7 aV => .go d1 (w1 (.bool true)) aV)
 (rBlk d2 (cLoop (fun aW aX => u5 aW fun w x y z i =>
 oLt i z fun aY =>
 oIf aY aX
 (fun B => rThen (fun aZ a0 => u5 aZ fun a1 a2 C D E =>
 oAdd E i1 fun F =>
 .go d0 (w5 a1 a2 C D F) a0)
 (rBlk d3 (oIdx d5 y i fun G =>
 oLdN d5 G B fun I =>
 oNd I fun J j =>
 oCk (Nat.beq J d0) (oCk (Nat.beq (llen j) d5) (u5 j fun L M N O P =>
 oAdd w i1 fun Q =>
 oCall k (nat_lit 344) (w3 (.nd d0 (w5 L M N O P)) Q x) B fun S T =>
 oNot S fun U =>
 oIf U T
 (fun V => .go d1 (w1 (.bool false)) V)
 (fun W => .go d0 (w5 w x y z i) W))))))
 (fun a3 => .go d2 .nl a3)) (nat_lit 100000) (w5 X l f aU i0) aT)))))
noncomputable def f345 (k : K) (a : A) (h : H) : R :=
 u4 a fun v1 v3 W v =>
 oNd v3 fun g9 bz =>
 oCk (Nat.beq g9 d0) (u5 bz fun c p q r e =>
 rThen (fun bA bB => u4 bA fun w bC bD bE =>
 oCallP k (nat_lit 366) (w1 w) bB fun N bF =>
 oEqI N i0 fun bG =>
 oIf bG bF
 (fun bH => .go d1 (w1 (.nd d1 (w2 z3 (.bool false)))) bH)
 (fun bI => oLen w fun bJ =>
 rThen (fun bK bL => u1 bK fun bM =>
 .go d1 (w1 (.nd d1 (w2 bM (.bool true)))) bL)
 (rBlk d5 (cLoop (fun bN bO => u7 bN fun x f s g t u b =>
 oLt b u fun bP =>
 oIf bP bO
 (fun O => rThen (fun bQ bR => u7 bQ fun bS bT bU bV bW bX bY =>
 oAdd bY i1 fun bZ =>
 .go d0 (w7 bS bT bU bV bW bX bZ) bR)
 (rBlk d6 (oIdx d5 t b fun b0 =>
 oLdN d5 b0 O fun b1 =>
 oNd b1 fun b2 P =>
 oCk (Nat.beq b2 d0) (oCk (Nat.beq (llen P) d5) (u5 P fun Q S T U V =>
 oEqI b g fun b3 =>
 oIf b3 O
 (fun b4 => .go d6 (w7 x f s g t u b) b4)
 (fun b5 => oAdd b i1 fun b6 =>
 oEqI b6 g fun b7 =>
 rThen (fun b8 b9 => u13 b8 fun X Y Z aa ab y ac ad ae af ag ah ai =>
 oCall k (nat_lit 345) (w4 y (.nd d0 (w5 X Y Z aa ab)) af ad) b9 fun z aj =>
 oExt d0 z fun ak =>
 oExt d1 z fun al =>
 oNot al fun am =>
 oIf am aj
 (fun an => .go d1 (w1 (.nd d1 (w2 z3 (.bool false)))) an)
 (fun ao => .go d0 (w7 y ac ak ae ag ah ai) ao))
 (oIf b7 b5
 (fun ca => oAdd f i1 fun ap =>
 .go d0 (w13 Q S T U V x f s g ap t u b) ca)
 (fun cb => .go d0 (w13 Q S T U V x f s g f t u b) cb))))))))
 (fun cc => .go d5 (w1 s) cc)) (nat_lit 100000) (w7 bC bD bE N w bJ i0) bI))))
 (rBlk d2 (oEqI c i1 fun aq =>
 oIf aq h
 (fun ar => oCallP k (nat_lit 313) (w1 (.nd d0 (w5 c p q r e))) ar fun au av =>
 oIf au av
 (fun aw => .go d1 (w1 (.nd d1 (w2 z3 (.bool false)))) aw)
 (fun ax => oCallP k (nat_lit 343) (w1 (.nd d0 (w5 c p q r e))) ax fun d B =>
 oGrd d false B (fun ay => oCallP k (nat_lit 364) (w2 (gsel d false v1) (gsel d false (.nd d0 (w5 c p q r e)))) B fun az aA =>
 ay az aA) fun aB aC =>
 oPick d (.bool true) aB fun aD =>
 oIf aD aC
 (fun aE => .go d1 (w1 (.nd d1 (w2 v (.bool true)))) aE)
 (fun aF => oLt i3 W fun aG =>
 oIf aG aF
 (fun aH => .go d1 (w1 (.nd d1 (w2 z3 (.bool false)))) aH)
 (fun aI => oLen v fun aJ =>
 rThen (fun aK aL => u7 aK fun aM aN aO aP aQ C aR =>
 oCall k (nat_lit 254) (w1 (.nd d0 (w5 aM aN aO aP aQ))) aL fun aS aT =>
 oNd aS fun aU D =>
 oCk (Nat.beq aU d0) (oCk (Nat.beq (llen D) d5) (oOne C (oNd (.nd d0 (lapp D (w7 C i0 i0 zs z3 z3 z3))) fun aV E =>
 oCk (Nat.beq aV d0) (oCk (Nat.beq (llen E) d12) (oBSl d12 d1 (lapp E .nl) aT fun aW aX =>
 oApp d12 aR aW aX fun aY aZ =>
 .go d1 (w1 (.nd d1 (w2 aY (.bool true)))) aZ))))))
 (rBlk d3 (cLoop (fun a0 a1 => u10 a0 fun i j l m n F G I J o =>
 oLt o J fun a2 =>
 oIf a2 a1
 (fun L => rThen (fun a3 a4 => u10 a3 fun a5 a6 a7 a8 a9 ba bb bc bd be =>
 oAdd be i1 fun bf =>
 .go d0 (w10 a5 a6 a7 a8 a9 ba bb bc bd bf) a4)
 (rBlk d4 (oIdx d12 I o fun bg =>
 oLdN d12 bg L fun bh =>
 oNd bh fun bi M =>
 oCk (Nat.beq bi d0) (oCk (Nat.beq (llen M) d12) (u12 M fun bj bk bl bm bn cf cg ch ci cj ck cl =>
 oCallP k (nat_lit 365) (w2 (.nd d0 (w5 bj bk bl bm bn)) (.nd d0 (w5 i j l m n))) L fun bo bp =>
 oIf bo bp
 (fun bq => .go d1 (w1 (.nd d1 (w2 z3 (.bool false)))) bq)
 (fun br => .go d0 (w10 i j l m n F G I J o) br))))))
 (fun bs => .go d3 (w7 i j l m n F G) bs)) (nat_lit 100000) (w10 c p q r e W v v aJ i0) aI))))))
 (fun bt => oNeI c i0 fun bu =>
 oIf bu bt
 (fun bv => .go d1 (w1 (.nd d1 (w2 v (.bool true)))) bv)
 (fun bw => .go d0 (w4 e v1 W v) bw)))))
noncomputable def f346 (k : K) (a : A) (h : H) : R :=
 u1 a fun v1 =>
 oNd v1 fun g3 l4 =>
 oCk (Nat.beq g3 d0) (u5 l4 fun v5 v7 v9 u d =>
 oCallP k (nat_lit 313) (w1 (.nd d0 (w5 v5 v7 v9 u d))) h fun v w =>
 oIf v w
 (fun x => .go d1 (w1 (.bool false)) x)
 (fun y => oLen d fun z =>
 rThen (fun aA B => .go d1 (w1 (.bool true)) B)
 (rBlk d2 (cLoop (fun C D => u4 C fun e f g c =>
 oLt c g fun E =>
 oIf E D
 (fun j => rThen (fun F G => u4 F fun I J L M =>
 oAdd M i1 fun N =>
 .go d0 (w4 I J L N) G)
 (rBlk d3 (oIdx d5 f c fun O =>
 oLdN d5 O j fun P =>
 oNd P fun Q l =>
 oCk (Nat.beq Q d0) (oCk (Nat.beq (llen l) d5) (u5 l fun m n o p q =>
 oCallP k (nat_lit 313) (w1 (.nd d0 (w5 m n o p q))) j fun S T =>
 oIf S T
 (fun r => oEqI c i0 fun b =>
 oGrd b false r (fun U => oSub (gsel b false c) i1 fun V =>
 U V r) fun W s =>
 oGrd b false s (fun X => oIdx d5 (gsel b false e) W fun Y =>
 X Y s) fun Z i =>
 oGrd b false i (fun aa => oLdN d5 Z i fun ab =>
 aa ab i) fun ac t =>
 oGrd b false t (fun ad => oCallP k (nat_lit 313) (w1 ac) t fun ae af =>
 ad ae af) fun ag ah =>
 oPick b (.bool true) ag fun ai =>
 oIf ai ah
 (fun aj => .go d1 (w1 (.bool false)) aj)
 (fun ak => .go d3 (w4 e f g c) ak))
 (fun al => oCallP k (nat_lit 346) (w1 (.nd d0 (w5 m n o p q))) al fun am an =>
 oNot am fun ao =>
 oIf ao an
 (fun ap => .go d1 (w1 (.bool false)) ap)
 (fun aq => .go d0 (w4 e f g c) aq)))))))
 (fun ar => .go d2 .nl ar)) (nat_lit 100000) (w4 d d z i0) y))))
noncomputable def f347 (k : K) (a : A) (h : H) : R :=
 u3 a fun z v3 v5 =>
 oNd v3 fun g7 l8 =>
 oCk (Nat.beq g7 d0) (u5 l8 fun v9 ah ai aj f =>
 oCallP k (nat_lit 367) (w2 z (.nd d0 (w5 v9 ah ai aj f))) h fun s ak =>
 oLe i0 s fun al =>
 oIf al ak
 (fun t => oIdx d12 z s fun am =>
 oFld d5 am fun an =>
 oLd an t fun ao =>
 oLe ao v5 fun ap =>
 .go d1 (w1 ap) t)
 (fun aq => oLen f fun ar =>
 rThen (fun a7 au => .go d1 (w1 (.bool true)) au)
 (rBlk d2 (cLoop (fun av aw => u6 av fun e g d i j b =>
 oLt b j fun ax =>
 oIf ax aw
 (fun u => rThen (fun ay az => u6 ay fun aA aB aC aD aE aF =>
 oAdd aF i1 fun aG =>
 .go d0 (w6 aA aB aC aD aE aG) az)
 (rBlk d3 (oIdx d5 i b fun aH =>
 oLdN d5 aH u fun aI =>
 oNd aI fun aJ v =>
 oCk (Nat.beq aJ d0) (oCk (Nat.beq (llen v) d5) (u5 v fun l m n o p =>
 oCallP k (nat_lit 313) (w1 (.nd d0 (w5 l m n o p))) u fun aK aL =>
 oIf aK aL
 (fun aM => .go d3 (w6 e g d i j b) aM)
 (fun w => oAdd b i1 fun aN =>
 oLen e fun aO =>
 oLt aN aO fun c =>
 oGrd c true w (fun aP => oAdd (gsel c true b) i1 fun aQ =>
 aP aQ w) fun aR x =>
 oGrd c true x (fun aS => oIdx d5 (gsel c true e) aR fun aT =>
 aS aT x) fun aU q =>
 oGrd c true q (fun aV => oLdN d5 aU q fun aW =>
 aV aW q) fun aX y =>
 oGrd c true y (fun aY => oCallP k (nat_lit 313) (w1 aX) y fun aZ B =>
 aY aZ B) fun a0 a1 =>
 oPick c a0 (.bool false) fun C =>
 rThen (fun D E => u12 D fun F G I J L M r N O P Q S =>
 oCallP k (nat_lit 347) (w3 r (.nd d0 (w5 G I J L M)) O) E fun T U =>
 oNot T fun V =>
 oIf V U
 (fun W => .go d1 (w1 (.bool false)) W)
 (fun X => .go d0 (w6 F r N P Q S) X))
 (oIf C a1
 (fun Y => oCallP k (nat_lit 368) (w2 g (.nd d0 (w5 l m n o p))) Y fun Z aa =>
 oLe Z d fun ab =>
 oIf ab aa
 (fun ac => .go d1 (w1 (.bool false)) ac)
 (fun ad => oAdd d i1 fun ae =>
 .go d0 (w12 e l m n o p g d ae i j b) ad))
 (fun af => .go d0 (w12 e l m n o p g d d i j b) af))))))))
 (fun a2 => .go d2 .nl a2)) (nat_lit 100000) (w6 f z v5 f ar i0) aq))))
noncomputable def f348 (k : K) (a : A) (h : H) : R :=
 u2 a fun v1 v3 =>
 oNd v1 fun g5 l6 =>
 oCk (Nat.beq g5 d0) (u5 l6 fun v7 v9 ax e u =>
 oLen e fun v =>
 rThen (fun w x => u2 w fun f y =>
 oLen f fun z =>
 rThen (fun ay B => .go d1 (w1 (.bool true)) B)
 (rBlk d4 (cLoop (fun C D => u4 C fun g i j b =>
 oLt b j fun E =>
 oIf E D
 (fun l => rThen (fun F G => u4 F fun I J L M =>
 oAdd M i1 fun N =>
 .go d0 (w4 I J L N) G)
 (rBlk d5 (oIdx d5 i b fun O =>
 oLdN d5 O l fun P =>
 oNd P fun Q m =>
 oCk (Nat.beq Q d0) (oCk (Nat.beq (llen m) d5) (u5 m fun S T U V W =>
 oCallP k (nat_lit 348) (w2 (.nd d0 (w5 S T U V W)) g) l fun X Y =>
 oNot X fun Z =>
 oIf Z Y
 (fun aa => .go d1 (w1 (.bool false)) aa)
 (fun ab => .go d0 (w4 g i j b) ab))))))
 (fun ac => .go d4 .nl ac)) (nat_lit 100000) (w4 y f z i0) x)))
 (rBlk d2 (cLoop (fun ad ae => u5 ad fun n c o p d =>
 oLt d p fun af =>
 oIf af ae
 (fun q => rThen (fun ag ah => u5 ag fun ai aj ak al am =>
 oAdd am i1 fun an =>
 .go d0 (w5 ai aj ak al an) ah)
 (rBlk d3 (oIdx d1 o d fun ao =>
 oLd ao q fun ap =>
 oLt c ap fun r =>
 oIf r q
 (fun s => .go d1 (w1 (.bool false)) s)
 (fun t => .go d0 (w5 n c o p d) t))))
 (fun aq => .go d2 (w2 n c) aq)) (nat_lit 100000) (w5 u v3 e v i0) h)))
noncomputable def f349 (k : K) (a : A) (h : H) : R :=
 u4 a fun v1 v3 v5 E =>
 oNd v1 fun g9 cN =>
 oCk (Nat.beq g9 d0) (u2 cN fun aq ar =>
 oNd v3 fun cO cP =>
 oCk (Nat.beq cO d0) (u5 cP fun b l m B n =>
 oNd v5 fun cQ cR =>
 oCk (Nat.beq cQ d0) (u5 cR fun o F G au I =>
 rThen (fun cS cT => u5 cS fun J C c p av =>
 oCallP k (nat_lit 366) (w1 c) cT fun q cU =>
 oLt q i0 fun cV =>
 oIf cV cU
 (fun cW => oLen c fun cX =>
 oLen p fun cY =>
 oNeI cX cY fun cZ =>
 oIf cZ cW
 (fun c0 => .go d1 (w1 (.nd d1 (w2 z3 (.bool false)))) c0)
 (fun c1 => oCall k (nat_lit 370) (w4 (.nd d0 (w2 J C)) c p av) c1 fun aw c2 =>
 oExt d0 aw fun c3 =>
 oExt d1 aw fun c4 =>
 .go d1 (w1 (.nd d1 (w2 c3 c4))) c2))
 (fun c5 => oSub q i1 fun c6 =>
 oSl d5 c i0 c6 fun D =>
 oAdd q i1 fun c7 =>
 oLen c fun c8 =>
 oSl d5 c c7 c8 fun ax =>
 oLen p fun c9 =>
 oLen D fun da =>
 oSub c9 da fun db =>
 oLen ax fun dc =>
 oSub db dc fun ay =>
 oLt ay i0 fun dd =>
 oIf dd c5
 (fun de => .go d1 (w1 (.nd d1 (w2 z3 (.bool false)))) de)
 (fun df => oLen D fun dg =>
 oSl d5 p i0 dg fun dh =>
 oCall k (nat_lit 370) (w4 (.nd d0 (w2 J C)) D dh av) df fun az di =>
 oExt d0 az fun dj =>
 oExt d1 az fun dk =>
 oNot dk fun dl =>
 oIf dl di
 (fun dm => .go d1 (w1 (.nd d1 (w2 z3 (.bool false)))) dm)
 (fun aA => oSub q i1 fun dn =>
 oIdx d5 c dn fun dp =>
 oLdN d5 dp aA fun dq =>
 oCall k (nat_lit 345) (w4 C dq i1 z3) aA fun aB dr =>
 oExt d0 aB fun ds =>
 oExt d1 aB fun dB =>
 rThen (fun dt du => u8 dt fun dv dw L aC aD aE aF aG =>
 oApp d12 aC aG du fun aH aI =>
 oLen aD fun aJ =>
 oAdd aJ aF fun aK =>
 oLen L fun aL =>
 oSl d5 L aK aL fun aM =>
 oCall k (nat_lit 370) (w4 (.nd d0 (w2 dv dw)) aE aM aH) aI fun M aN =>
 oExt d0 M fun aO =>
 oExt d1 M fun aP =>
 .go d1 (w1 (.nd d1 (w2 aO aP))) aN)
 (rBlk d3 (cLoop (fun aQ aR => u11 aQ fun r s N t O P u Q v w x =>
 oLt x v fun aS =>
 oIf aS aR
 (fun y => rThen (fun aT aU => u11 aT fun aV aW aX aY aZ a0 a1 a2 a3 a4 a5 =>
 oAdd a5 i1 fun a6 =>
 .go d0 (w11 aV aW aX aY aZ a0 a1 a2 a3 a4 a6) aU)
 (rBlk d4 (oSub P i1 fun a7 =>
 oIdx d5 N a7 fun a8 =>
 oLdN d5 a8 y fun a9 =>
 oLen u fun ba =>
 oAdd ba x fun bb =>
 oIdx d5 t bb fun bc =>
 oLdN d5 bc y fun bd =>
 oCall k (nat_lit 349) (w4 (.nd d0 (w2 r s)) a9 bd z3) y fun S be =>
 oExt d0 S fun bf =>
 oExt d1 S fun bg =>
 oNot bg fun bh =>
 oIf bh be
 (fun bi => .go d1 (w1 (.nd d1 (w2 z3 (.bool false)))) bi)
 (fun bj => oLen w fun bk =>
 rThen (fun bl bm => u11 bl fun bn bo bp bq br bs bt bu bv bw bx =>
 .go d0 (w11 bn bo bp bq br bs bt bu bv bw bx) bm)
 (rBlk d5 (cLoop (fun bz bA => u14 bz fun T U V W X Y Z aa ab f ac ad ae d =>
 oLt d ae fun bB =>
 oIf bB bA
 (fun z => rThen (fun bC bD => u14 bC fun bE bF bG bH bI bJ bK bL bM bN bO bP bQ bR =>
 oAdd bR i1 fun bS =>
 .go d0 (w14 bE bF bG bH bI bJ bK bL bM bN bO bP bQ bS) bD)
 (rBlk d6 (oIdx d12 f d fun bT =>
 oFld d11 bT fun bU =>
 oLd bU z fun af =>
 oIdx d12 ad d fun bV =>
 oLdN d12 bV z fun bW =>
 oLen af fun bX =>
 oBSl d12 d1 (w12 i0 i0 zs z3 z3 i0 i0 i0 zs z3 z3 z3) z fun bY bZ =>
 oApp d12 af bY bZ fun ag b0 =>
 oIdx d12 ag bX fun ah =>
 oIdx d12 f d fun b1 =>
 oFld d11 b1 fun ai =>
 oStN d12 ah bW b0 fun b2 =>
 oSt ai ag b2 fun b3 =>
 oPt ai fun b292 _ => oPt ah fun b293 _ => @Bool.rec (fun _ => R) (.go d0 (w14 T U V W X Y Z aa ab f ac ad ae d) b3) .bad (Nat.beq b292 b293))))
 (fun b4 => .go d5 (w11 T U V W X Y Z aa ab f ac) b4)) (nat_lit 100000) (w14 r s N t O P u Q v w x bf bk i0) bj))))))
 (fun b5 => .go d3 (w8 r s t O u Q v w) b5)) (nat_lit 100000) (w11 J C c p dj q D ax ay ds i0) dr))))))
 (rBlk d2 (oCallP k (nat_lit 343) (w1 (.nd d0 (w5 b l m B n))) h fun b6 b7 =>
 oIf b6 b7
 (fun b8 => .go d1 (w1 (.nd d1 (w2 E (.bool true)))) b8)
 (fun aj => oEqI b i1 fun g =>
 oGrd g true aj (fun b9 => oCallP k (nat_lit 364) (w2 (gsel g true ar) (gsel g true (.nd d0 (w5 b l m B n)))) aj fun ca cb =>
 b9 ca cb) fun cc cd =>
 oPick g cc (.bool false) fun ce =>
 oIf ce cd
 (fun ak => oEqI o i1 fun e =>
 oGrd e true ak (fun cf => oCall k (nat_lit 369) (w3 (gsel e true aq) (gsel e true (.nd d0 (w5 b l m B n))) (gsel e true (.nd d0 (w5 o F G au I)))) ak fun cg ch =>
 cf cg ch) fun ci cj =>
 oPick e ci (.bool false) fun ck =>
 .go d1 (w1 (.nd d1 (w2 E ck))) cj)
 (fun cl => oEqI b i1 fun cm =>
 oIf cm cl
 (fun cn => oCall k (nat_lit 254) (w1 (.nd d0 (w5 b l m B n))) cn fun co cp =>
 oCall k (nat_lit 254) (w1 (.nd d0 (w5 o F G au I))) cp fun cq cr =>
 oNd co fun cs al =>
 oCk (Nat.beq cs d0) (oCk (Nat.beq (llen al) d5) (oNd cq fun ct am =>
 oCk (Nat.beq ct d0) (oCk (Nat.beq (llen am) d5) (oNd (.nd d0 (lapp al (.cn i0 (lapp am (w1 z3))))) fun cu an =>
 oCk (Nat.beq cu d0) (oCk (Nat.beq (llen an) d12) (oBSl d12 d1 (lapp an .nl) cr fun cv cw =>
 oApp d12 E cv cw fun cx cy =>
 .go d1 (w1 (.nd d1 (w2 cx (.bool true)))) cy)))))))
 (fun cz => oNeI b i0 fun cA =>
 oIf cA cz
 (fun ao => oEqI o b fun i =>
 oGrd i true ao (fun cB => oEqI (gsel i true F) (gsel i true l) fun cC =>
 cB cC ao) fun cD ap =>
 oPick i cD (.bool false) fun j =>
 oGrd j true ap (fun cE => oEqS (gsel j true G) (gsel j true m) fun cF =>
 cE cF ap) fun cG cH =>
 oPick j cG (.bool false) fun cI =>
 .go d1 (w1 (.nd d1 (w2 E cI))) cH)
 (fun cJ => oNeI o i0 fun cK =>
 oIf cK cJ
 (fun cL => .go d1 (w1 (.nd d1 (w2 z3 (.bool false)))) cL)
 (fun cM => .go d0 (w5 aq ar n I E) cM))))))))))
noncomputable def f350 (k : K) (a : A) (h : H) : R :=
 u2 a fun v1 v3 =>
 oNd v1 fun g5 l6 =>
 oCk (Nat.beq g5 d0) (u5 l6 fun u v d e f =>
 oCallP k (nat_lit 312) (w1 (.nd d0 (w5 u v d e f))) h fun w g =>
 oNot w fun b =>
 oGrd b false g (fun x => oCallP k (nat_lit 346) (w1 (gsel b false (.nd d0 (w5 u v d e f)))) g fun y z =>
 x y z) fun B i =>
 oGrd b false i (fun C => oNot B fun D =>
 C D i) fun E F =>
 oPick b (.bool true) E fun G =>
 oIf G F
 (fun I => .go d1 (w1 (.nd d1 (w2 (.nd d0 (w5 i0 i0 zs z3 z3)) (.bool false)))) I)
 (fun J => oNew (w1 i0) J fun j L =>
 oStN d1 j (.nd d0 (w1 (.int (nat_lit 9223372036854777808)))) L fun M =>
 oCall k (nat_lit 371) (w3 j (.nd d0 (w5 u v d e f)) v3) M fun l m =>
 oExt d0 l fun N =>
 oExt d1 l fun O =>
 oNd N fun P n =>
 oCk (Nat.beq P d0) (oCk (Nat.beq (llen n) d5) (u5 n fun o p q r s =>
 oNot O fun c =>
 oGrd c false m (fun Q => oCallP k (nat_lit 312) (w1 (gsel c false (.nd d0 (w5 o p q r s)))) m fun S T =>
 Q S T) fun U t =>
 oGrd c false t (fun V => oNot U fun W =>
 V W t) fun X Y =>
 oPick c (.bool true) X fun Z =>
 oIf Z Y
 (fun aa => .go d1 (w1 (.nd d1 (w2 (.nd d0 (w5 i0 i0 zs z3 z3)) (.bool false)))) aa)
 (fun ab => .go d1 (w1 (.nd d1 (w2 (.nd d0 (w5 o p q r s)) (.bool true)))) ab)))))
noncomputable def f351 (k : K) (a : A) (h : H) : R :=
 u2 a fun b c =>
 oLd c h fun d =>
 oCall k (nat_lit 352) (w2 b d) h fun e f =>
 .go d1 (w1 e) f
noncomputable def f352 (k : K) (a : A) (h : H) : R :=
 u2 a fun b c =>
 oCallP k (nat_lit 326) (w1 b) h fun C f =>
 oNot C fun d =>
 oGrd d false f (fun D => oCallP k (nat_lit 321) (w1 (gsel d false c)) f fun g i =>
 D g i) fun E e =>
 oGrd d false e (fun j => oEqI E i0 fun l =>
 j l e) fun m n =>
 oPick d (.bool true) m fun o =>
 oIf o n
 (fun p => oCall k (nat_lit 183) (w1 b) p fun q r =>
 .go d1 (w1 q) r)
 (fun s => oCallP k (nat_lit 200) (w2 b c) s fun t u =>
 oIf t u
 (fun v => oCall k (nat_lit 372) (w2 b c) v fun w x =>
 .go d1 (w1 w) x)
 (fun y => oCall k (nat_lit 268) (w2 b c) y fun z B =>
 .go d1 (w1 z) B))
noncomputable def f353 (k : K) (a : A) (h : H) : R :=
 u2 a fun l Q =>
 oLen l fun S =>
 rThen (fun T U => u1 T fun V =>
 .go d1 (w1 V) U)
 (rBlk d2 (cLoop (fun m n => u5 m fun c d e f b =>
 oLt b f fun o =>
 oIf o n
 (fun g => rThen (fun p q => u5 p fun r s t u v =>
 oAdd v i1 fun w =>
 .go d0 (w5 r s t u w) q)
 (rBlk d3 (oIdx d5 e b fun x =>
 oLdN d5 x g fun y =>
 oNd y fun z i =>
 oCk (Nat.beq z d0) (oCk (Nat.beq (llen i) d5) (u5 i fun B C D E F =>
 oCall k (nat_lit 188) (w2 (.nd d0 (w5 B C D E F)) c) g fun G I =>
 oNd G fun J j =>
 oCk (Nat.beq J d0) (oCk (Nat.beq (llen j) d5) (oBSl d5 d1 (lapp j .nl) I fun L M =>
 oApp d5 d L M fun N O =>
 .go d0 (w5 c N e f b) O)))))))
 (fun P => .go d2 (w1 d) P)) (nat_lit 100000) (w5 Q z3 l S i0) h))
noncomputable def f354 (k : K) (a : A) (h : H) : R :=
 u3 a fun v1 T v5 =>
 oCall k (nat_lit 186) (w2 v1 i1) h fun v7 h8 =>
 oExt d0 v7 fun v9 =>
 oExt d1 v7 fun I =>
 oNeI I i0 fun bf =>
 oIf bf h8
 (fun bg => .go d1 (w1 (.nd d1 (w2 (.nd d0 (w8 i0 i0 z3 i0 i0 zs z3 z3)) I))) bg)
 (fun bh => oLen T fun bi =>
 rThen (fun bj bk => u5 bj fun bl J bm bn bo =>
 oLen J fun bp =>
 rThen (fun bq br => u3 bq fun bs bt bu =>
 oCall k (nat_lit 353) (w2 bt bu) br fun bv bw =>
 oCall k (nat_lit 328) (w2 bs bv) bw fun L bx =>
 oExt d0 L fun bz =>
 oExt d1 L fun bA =>
 oNd bz fun bB M =>
 oCk (Nat.beq bB d0) (oCk (Nat.beq (llen M) d8) (u8 M fun bC bD bE bF bG bH bI bJ =>
 .go d1 (w1 (.nd d1 (w2 (.nd d0 (w8 bC bD bE bF bG bH bI bJ)) bA))) bx)))
 (rBlk d4 (cLoop (fun bK bL => u7 bK fun n N o O P Q l =>
 oLt l Q fun bM =>
 oIf bM bL
 (fun m => rThen (fun bN bO => u7 bN fun bP bQ bR bS bT bU bV =>
 oAdd bV i1 fun bW =>
 .go d0 (w7 bP bQ bR bS bT bU bW) bO)
 (rBlk d5 (oIdx d5 P l fun bX =>
 oLdN d5 bX m fun bY =>
 oNd bY fun bZ S =>
 oCk (Nat.beq bZ d0) (oCk (Nat.beq (llen S) d5) (u5 S fun b4 b5 b6 b7 U =>
 oIdx d5 U i0 fun V =>
 oLdN d5 V m fun W =>
 oCall k (nat_lit 188) (w2 W o) m fun X p =>
 oIdx d3 O l fun q =>
 oLdN d3 q p fun r =>
 oLdN d3 q m fun Y =>
 oCk (eqA Y r) (oCall k (nat_lit 178) (w3 n X r) p fun s Z =>
 oNeI s i0 fun aa =>
 oIf aa Z
 (fun ab => .go d1 (w1 (.nd d1 (w2 (.nd d0 (w8 i0 i0 z3 i0 i0 zs z3 z3)) s))) ab)
 (fun ac => .go d0 (w7 n N o O P Q l) ac)))))))
 (fun b0 => .go d4 (w3 n N o) b0)) (nat_lit 100000) (w7 bl bm bn bo J bp i0) bk)))
 (rBlk d2 (cLoop (fun ad ae => u8 ad fun d t u v w x y e =>
 oLt e y fun af =>
 oIf af ae
 (fun f => rThen (fun ag ah => u8 ag fun ai aj ak al am an ao ap =>
 oAdd ap i1 fun aq =>
 .go d0 (w8 ai aj ak al am an ao aq) ah)
 (rBlk d3 (oIdx d5 x e fun ar =>
 oLdN d5 ar f fun au =>
 oNd au fun av z =>
 oCk (Nat.beq av d0) (oCk (Nat.beq (llen z) d5) (u5 z fun aw b8 b9 ca g =>
 oNeI aw i0 fun c =>
 oGrd c false f (fun ax => oLen (gsel c false g) fun ay =>
 ax ay f) fun az B =>
 oGrd c false B (fun aA => oNeI az i2 fun aB =>
 aA aB B) fun aC C =>
 oPick c (.bool true) aC fun b =>
 oGrd b false C (fun aD => oIdx d5 (gsel b false g) i0 fun aE =>
 aD aE C) fun aF D =>
 oGrd b false D (fun aG => oFld d0 aF fun aH =>
 aG aH D) fun aI i =>
 oGrd b false i (fun aJ => oLd aI i fun aK =>
 aJ aK i) fun aL E =>
 oGrd b false E (fun aM => oNeI aL i1 fun aN =>
 aM aN E) fun aO aP =>
 oPick b (.bool true) aO fun aQ =>
 oIf aQ aP
 (fun aR => .go d1 (w1 (.nd d1 (w2 (.nd d0 (w8 i0 i0 z3 i0 i0 zs z3 z3)) i1))) aR)
 (fun j => oDeref d fun aS =>
 oFld d0 aS fun aT =>
 oFld d0 aT fun aU =>
 oLd aU j fun aV =>
 oIdx d5 g i1 fun aW =>
 oLdN d5 aW j fun aX =>
 oCall k (nat_lit 176) (w2 aV aX) j fun F aY =>
 oExt d0 F fun aZ =>
 oExt d1 F fun a0 =>
 oNd aZ fun a1 G =>
 oCk (Nat.beq a1 d0) (oCk (Nat.beq (llen G) d3) (u3 G fun a2 a3 a4 =>
 oNot a0 fun a5 =>
 oIf a5 aY
 (fun a6 => .go d1 (w1 (.nd d1 (w2 (.nd d0 (w8 i0 i0 z3 i0 i0 zs z3 z3)) i1))) a6)
 (fun a7 => oBSl d3 d1 (w3 a2 a3 a4) a7 fun a8 a9 =>
 oApp d3 w a8 a9 fun ba bb =>
 .go d0 (w8 d t u v ba x y e) bb)))))))))
 (fun bc => .go d2 (w5 d t u v w) bc)) (nat_lit 100000) (w8 v1 T v5 v9 z3 T bi i0) bh)))
noncomputable def f355 (k : K) (a : A) (h : H) : R :=
 u2 a fun v1 q =>
 oNd v1 fun g5 l6 =>
 oCk (Nat.beq g5 d0) (u5 l6 fun r s e f c =>
 oEqI r i1 fun b =>
 oGrd b true h (fun t => oCallP k (nat_lit 205) (w2 (gsel b true q) (gsel b true (.nd d0 (w5 r s e f c)))) h fun u v =>
 t u v) fun w g =>
 oGrd b true g (fun x => oNot w fun y =>
 x y g) fun z B =>
 oPick b z (.bool false) fun C =>
 rThen (fun D E => u2 D fun i F =>
 oLen i fun G =>
 rThen (fun I J => u1 I fun L =>
 .go d1 (w1 L) J)
 (rBlk d2 (cLoop (fun M N => u4 M fun j l m d =>
 oLt d m fun O =>
 oIf O N
 (fun n => rThen (fun P Q => u4 P fun S T U V =>
 oAdd V i1 fun W =>
 .go d0 (w4 S T U W) Q)
 (rBlk d3 (oIdx d5 l d fun X =>
 oLdN d5 X n fun Y =>
 oNd Y fun Z o =>
 oCk (Nat.beq Z d0) (oCk (Nat.beq (llen o) d5) (u5 o fun aa ab ac ad ae =>
 oCall k (nat_lit 355) (w2 (.nd d0 (w5 aa ab ac ad ae)) j) n fun af ag =>
 .go d0 (w4 af l m d) ag)))))
 (fun ah => .go d2 (w1 j) ah)) (nat_lit 100000) (w4 F i G i0) E)))
 (oIf C B
 (fun ai => oCall k (nat_lit 130) (w1 (.nd d0 (w5 r s e f c))) ai fun aj ak =>
 oNd aj fun al p =>
 oCk (Nat.beq al d0) (oCk (Nat.beq (llen p) d5) (oBSl d5 d1 (lapp p .nl) ak fun am an =>
 oApp d5 q am an fun ao ap =>
 .go d0 (w2 c ao) ap)))
 (fun aq => .go d0 (w2 c q) aq)))
noncomputable def f356 (k : K) (a : A) (h : H) : R :=
 u1 a fun b =>
 oIf b h
 (fun c => .go d1 (w1 (.nd d0 (w3 i2 i1 zs))) c)
 (fun d => .go d1 (w1 (.nd d0 (w3 i2 i0 zs))) d)
noncomputable def f364 (k : K) (a : A) (h : H) : R :=
 u2 a fun n Y =>
 oNd Y fun Z l6 =>
 oCk (Nat.beq Z d0) (u5 l6 fun v7 v9 o p q =>
 oLen n fun r =>
 rThen (fun ad s => .go d1 (w1 (.bool false)) s)
 (rBlk d2 (cLoop (fun t u => u8 t fun c d e f g i j b =>
 oLt b j fun v =>
 oIf v u
 (fun l => rThen (fun w x => u8 w fun y z B C D E F G =>
 oAdd G i1 fun I =>
 .go d0 (w8 y z B C D E F I) x)
 (rBlk d3 (oIdx d5 i b fun J =>
 oLdN d5 J l fun L =>
 oNd L fun M m =>
 oCk (Nat.beq M d0) (oCk (Nat.beq (llen m) d5) (u5 m fun N O P Q S =>
 oCallP k (nat_lit 365) (w2 (.nd d0 (w5 N O P Q S)) (.nd d0 (w5 c d e f g))) l fun T U =>
 oIf T U
 (fun V => .go d1 (w1 (.bool true)) V)
 (fun W => .go d0 (w8 c d e f g i j b) W))))))
 (fun X => .go d2 .nl X)) (nat_lit 100000) (w8 v7 v9 o p q n r i0) h)))
noncomputable def f365 (k : K) (a : A) (h : H) : R :=
 u2 a fun C D =>
 oNd C fun E F =>
 oCk (Nat.beq E d0) (u5 F fun G M g i I =>
 oNd D fun j l =>
 oCk (Nat.beq j d0) (u5 l fun m J n o L =>
 oEqI G i1 fun d =>
 oGrd d true h (fun p => oEqI (gsel d true m) i1 fun q =>
 p q h) fun r e =>
 oPick d r (.bool false) fun b =>
 oGrd b true e (fun s => oEqS (gsel b true g) (gsel b true n) fun t =>
 s t e) fun u f =>
 oPick b u (.bool false) fun c =>
 oGrd c true f (fun v => oCallP k (nat_lit 318) (w2 (gsel c true i) (gsel c true o)) f fun w x =>
 v w x) fun y z =>
 oPick c y (.bool false) fun B =>
 .go d1 (w1 B) z))
noncomputable def f366 (k : K) (a : A) (h : H) : R :=
 u1 a fun f =>
 oLen f fun E =>
 rThen (fun J F => .go d1 (w1 (.int (nat_lit 9223372036854775807))) F)
 (rBlk d2 (cLoop (fun G I => u3 G fun g c b =>
 oLt b c fun i =>
 oIf i I
 (fun d => rThen (fun j l => u3 j fun m n o =>
 oAdd o i1 fun p =>
 .go d0 (w3 m n p) l)
 (rBlk d3 (oIdx d5 g b fun q =>
 oLdN d5 q d fun r =>
 oNd r fun s e =>
 oCk (Nat.beq s d0) (oCk (Nat.beq (llen e) d5) (u5 e fun t u v w x =>
 oCallP k (nat_lit 313) (w1 (.nd d0 (w5 t u v w x))) d fun y z =>
 oIf y z
 (fun B => .go d1 (w1 b) B)
 (fun C => .go d0 (w3 g c b) C))))))
 (fun D => .go d2 .nl D)) (nat_lit 100000) (w3 f E i0) h))
noncomputable def f367 (k : K) (a : A) (h : H) : R :=
 u2 a fun I v3 =>
 oNd v3 fun g5 l6 =>
 oCk (Nat.beq g5 d0) (u5 l6 fun y J e f g =>
 oNeI y i1 fun d =>
 oGrd d false h (fun L => oCallP k (nat_lit 313) (w1 (gsel d false (.nd d0 (w5 y J e f g)))) h fun M N =>
 L M N) fun O P =>
 oPick d (.bool true) O fun Q =>
 oIf Q P
 (fun S => .go d1 (w1 (.int (nat_lit 9223372036854775807))) S)
 (fun T => oLen I fun U =>
 rThen (fun au V => .go d1 (w1 (.int (nat_lit 9223372036854775807))) V)
 (rBlk d2 (cLoop (fun W X => u8 W fun i j l m n o p b =>
 oLt b p fun Y =>
 oIf Y X
 (fun q => rThen (fun Z aa => u8 Z fun ab ac ad ae af ag ah ai =>
 oAdd ai i1 fun aj =>
 .go d0 (w8 ab ac ad ae af ag ah aj) aa)
 (rBlk d3 (oIdx d12 o b fun ak =>
 oLdN d12 ak q fun al =>
 oNd al fun am r =>
 oCk (Nat.beq am d0) (oCk (Nat.beq (llen r) d12) (u12 r fun s t u v w av aw ax ay az aA aB =>
 oCallP k (nat_lit 342) (w1 (.nd d0 (w5 s t u v w))) q fun c x =>
 oGrd c true x (fun an => oCallP k (nat_lit 365) (w2 (gsel c true (.nd d0 (w5 s t u v w))) (gsel c true (.nd d0 (w5 i j l m n)))) x fun z B =>
 an z B) fun C D =>
 oPick c C (.bool false) fun E =>
 oIf E D
 (fun F => .go d1 (w1 b) F)
 (fun G => .go d0 (w8 i j l m n o p b) G))))))
 (fun ao => .go d2 .nl ao)) (nat_lit 100000) (w8 y J e f g I U i0) T))))
noncomputable def f368 (k : K) (a : A) (h : H) : R :=
 u2 a fun d v3 =>
 oNd v3 fun g5 l6 =>
 oCk (Nat.beq g5 d0) (u5 l6 fun v7 v9 p q b =>
 oCallP k (nat_lit 367) (w2 d (.nd d0 (w5 v7 v9 p q b))) h fun e r =>
 oLe i0 e fun s =>
 rThen (fun t u => u3 t fun f v w =>
 oLen f fun x =>
 rThen (fun y z => u1 y fun B =>
 .go d1 (w1 B) z)
 (rBlk d2 (cLoop (fun C D => u5 C fun g i j l c =>
 oLt c l fun E =>
 oIf E D
 (fun m => rThen (fun F G => u5 F fun I J L M N =>
 oAdd N i1 fun O =>
 .go d0 (w5 I J L M O) G)
 (rBlk d3 (oIdx d5 j c fun P =>
 oLdN d5 P m fun Q =>
 oNd Q fun S n =>
 oCk (Nat.beq S d0) (oCk (Nat.beq (llen n) d5) (u5 n fun T U V W X =>
 oCallP k (nat_lit 368) (w2 g (.nd d0 (w5 T U V W X))) m fun Y Z =>
 oMax i Y fun aa =>
 .go d0 (w5 g aa j l c) Z)))))
 (fun ab => .go d2 (w1 i) ab)) (nat_lit 100000) (w5 v w f x i0) u)))
 (oIf s r
 (fun o => oIdx d12 d e fun ac =>
 oFld d5 ac fun ad =>
 oLd ad o fun ae =>
 .go d0 (w3 b d ae) o)
 (fun af => .go d0 (w3 b d (.int (nat_lit 9223372036854775807))) af)))
noncomputable def f369 (k : K) (a : A) (h : H) : R :=
 u3 a fun t v3 v5 =>
 oNd v3 fun g7 l8 =>
 oCk (Nat.beq g7 d0) (u5 l8 fun v9 u f v w =>
 oNd v5 fun x y =>
 oCk (Nat.beq x d0) (u5 y fun z B g C D =>
 oCall k (nat_lit 191) (w2 t (.nd d0 (w5 v9 u f v w))) h fun i E =>
 oExt d0 i fun F =>
 oExt d1 i fun j =>
 oNd F fun G l =>
 oCk (Nat.beq G d0) (oCk (Nat.beq (llen l) d4) (u4 l fun an ao I J =>
 oCall k (nat_lit 191) (w2 t (.nd d0 (w5 z B g C D))) E fun m n =>
 oExt d0 m fun L =>
 oExt d1 m fun o =>
 oNd L fun M p =>
 oCk (Nat.beq M d0) (oCk (Nat.beq (llen p) d4) (u4 p fun ap aq N O =>
 oEqI j i1 fun d =>
 oGrd d true n (fun P => oEqI (gsel d true o) i1 fun Q =>
 P Q n) fun S T =>
 oPick d S (.bool false) fun U =>
 oIf U T
 (fun q => oEqI I N fun b =>
 oGrd b true q (fun V => oEqI (gsel b true J) (gsel b true O) fun W =>
 V W q) fun X Y =>
 oPick b X (.bool false) fun Z =>
 .go d1 (w1 Z) Y)
 (fun r => oEqI j i0 fun e =>
 oGrd e true r (fun aa => oEqI (gsel e true o) i0 fun ab =>
 aa ab r) fun ac s =>
 oPick e ac (.bool false) fun c =>
 oGrd c true s (fun ad => oEqS (gsel c true f) (gsel c true g) fun ae =>
 ad ae s) fun af ag =>
 oPick c af (.bool false) fun ah =>
 .go d1 (w1 ah) ag)))))))
noncomputable def f370 (k : K) (a : A) (h : H) : R :=
 u4 a fun W m X Y =>
 oNd W fun Z n =>
 oCk (Nat.beq Z d0) (u2 n fun o p =>
 oLen m fun q =>
 rThen (fun r s => u1 r fun t =>
 .go d1 (w1 (.nd d1 (w2 t (.bool true)))) s)
 (rBlk d2 (cLoop (fun u v => u7 u fun d e f g i j b =>
 oLt b j fun w =>
 oIf w v
 (fun c => rThen (fun x y => u7 x fun z B C D E F G =>
 oAdd G i1 fun I =>
 .go d0 (w7 z B C D E F I) y)
 (rBlk d3 (oIdx d5 f b fun J =>
 oLdN d5 J c fun L =>
 oIdx d5 g b fun M =>
 oLdN d5 M c fun N =>
 oCall k (nat_lit 349) (w4 (.nd d0 (w2 d e)) L N i) c fun l O =>
 oExt d0 l fun P =>
 oExt d1 l fun Q =>
 oNot Q fun S =>
 oIf S O
 (fun T => .go d1 (w1 (.nd d1 (w2 z3 (.bool false)))) T)
 (fun U => .go d0 (w7 d e f g P j b) U))))
 (fun V => .go d2 (w1 i) V)) (nat_lit 100000) (w7 o p m X Y q i0) h)))
noncomputable def f371 (k : K) (a : A) (h : H) : R :=
 u3 a fun i v3 M =>
 oNd v3 fun g7 l8 =>
 oCk (Nat.beq g7 d0) (u5 l8 fun v9 N O a3 a4 =>
 oCallP k (nat_lit 367) (w2 M (.nd d0 (w5 v9 N O a3 a4))) h fun L e8 =>
 oLe i0 L fun e9 =>
 oIf e9 e8
 (fun a5 => oIdx d12 M L fun fa =>
 oFld d5 fa fun fb =>
 oLd fb a5 fun fc =>
 oNeI fc i0 fun fd =>
 oIf fd a5
 (fun fe => .go d1 (w1 (.nd d1 (w2 (.nd d0 (w5 i0 i0 zs z3 z3)) (.bool false)))) fe)
 (fun ff => oNew (w1 i0) ff fun P fg =>
 oSt P i0 fg fun a6 =>
 oIdx d12 M L fun fh =>
 oFld d6 fh fun fi =>
 oLdN d5 fi a6 fun fj =>
 oCall k (nat_lit 344) (w3 fj i1 P) a6 fun fk fl =>
 oNot fk fun fm =>
 oIf fm fl
 (fun fn => .go d1 (w1 (.nd d1 (w2 (.nd d0 (w5 i0 i0 zs z3 z3)) (.bool false)))) fn)
 (fun Q => oDeref i fun fo =>
 oFld d0 fo fun fp =>
 oLd fp Q fun fq =>
 oLd P Q fun fr =>
 oSub fq fr fun fs =>
 oDeref i fun ft =>
 oFld d0 ft fun fu =>
 oSt fu fs Q fun S =>
 oIdx d12 M L fun fv =>
 oFld d6 fv fun fw =>
 oLdN d5 fw S fun fx =>
 oCall k (nat_lit 254) (w1 fx) S fun fy a7 =>
 oDeref i fun fz =>
 oFld d0 fz fun a8 =>
 oLd a8 a7 fun a9 =>
 oLd a8 S fun fA =>
 oCk (eqA fA a9) (oLe i0 a9 fun fB =>
 oNd fy fun fC ba =>
 oCk (Nat.beq fC d0) (oCk (Nat.beq (llen ba) d5) (u5 ba fun fD fE fF fG fH =>
 .go d1 (w1 (.nd d1 (w2 (.nd d0 (w5 fD fE fF fG fH)) fB))) a7))))))
 (fun bb => oDeref i fun fI =>
 oFld d0 fI fun fJ =>
 oLd fJ bb fun fK =>
 oSub fK i1 fun fL =>
 oDeref i fun fM =>
 oFld d0 fM fun fN =>
 oSt fN fL bb fun bc =>
 oDeref i fun fO =>
 oFld d0 fO fun fP =>
 oLd fP bc fun fQ =>
 oLt fQ i0 fun fR =>
 oIf fR bc
 (fun fS => .go d1 (w1 (.nd d1 (w2 (.nd d0 (w5 i0 i0 zs z3 z3)) (.bool false)))) fS)
 (fun fT => oCall k (nat_lit 183) (w1 a3) fT fun bd fU =>
 oOne v9 (oOne N (oOne O (oOne bd (rThen (fun fV fW => u5 fV fun fX fY fZ f0 f1 =>
 .go d1 (w1 (.nd d1 (w2 (.nd d0 (w5 fX fY fZ f0 f1)) (.bool true)))) fW)
 (rBlk d2 (cLoop (fun f2 f3 => u9 f2 fun c j l m n o p e d =>
 oLen c fun bf =>
 oLt d bf fun bg =>
 oIf bg f3
 (fun q => rThen (fun bh bi => u9 bh fun bj bk bl bm bn bo bp bq br =>
 oAdd br i1 fun bs =>
 .go d0 (w9 bj bk bl bm bn bo bp bq bs) bi)
 (rBlk d3 (oIdx d5 c d fun bt =>
 oLdN d5 bt q fun bu =>
 oNd bu fun bv T =>
 oCk (Nat.beq bv d0) (oCk (Nat.beq (llen T) d5) (u5 T fun r s t u v =>
 oAdd d i1 fun bw =>
 oLen c fun bx =>
 oEqI bw bx fun b =>
 oGrd b false q (fun bz => oAdd (gsel b false d) i1 fun bA =>
 bz bA q) fun bB U =>
 oGrd b false U (fun bC => oIdx d5 (gsel b false c) bB fun bD =>
 bC bD U) fun bE w =>
 oGrd b false w (fun bF => oLdN d5 bE w fun bG =>
 bF bG w) fun bH V =>
 oGrd b false V (fun bI => oCallP k (nat_lit 313) (w1 bH) V fun bJ bK =>
 bI bJ bK) fun bL W =>
 oGrd b false W (fun bM => oNot bL fun bN =>
 bM bN W) fun bO bP =>
 oPick b (.bool true) bO fun bQ =>
 oIf bQ bP
 (fun bR => oCall k (nat_lit 371) (w3 p (.nd d0 (w5 r s t u v)) e) bR fun X bS =>
 oExt d0 X fun bT =>
 oExt d1 X fun bU =>
 oNd bT fun bV Y =>
 oCk (Nat.beq bV d0) (oCk (Nat.beq (llen Y) d5) (u5 Y fun bW bX bY bZ b0 =>
 oNot bU fun b1 =>
 oIf b1 bS
 (fun b2 => .go d1 (w1 (.nd d1 (w2 (.nd d0 (w5 i0 i0 zs z3 z3)) (.bool false)))) b2)
 (fun b3 => oBSl d5 d1 (w5 bW bX bY bZ b0) b3 fun b4 b5 =>
 oApp d5 o b4 b5 fun Z b6 =>
 oOne Z (.go d3 (w9 c j l m n Z p e d) b6)))))
 (fun b7 => oAdd d i1 fun b8 =>
 oCall k (nat_lit 376) (w3 (.nd d0 (w5 r s t u v)) e z3) b7 fun f b9 =>
 oLen f fun ca =>
 oEqI ca i0 fun cb =>
 oIf cb b9
 (fun cc => .go d1 (w1 (.nd d1 (w2 (.nd d0 (w5 i0 i0 zs z3 z3)) (.bool false)))) cc)
 (fun x => oIdx d1 f i0 fun cd =>
 oLd cd x fun ce =>
 oIdx d12 e ce fun cf =>
 oFld d11 cf fun cg =>
 oLd cg x fun ch =>
 oLen ch fun ci =>
 oLen f fun cj =>
 rThen (fun ck cl => u16 ck fun cm cn co cp cq cr cs ct cu cv cw cx cy cz cA cB =>
 rThen (fun cC cD => u9 cC fun cE cF cG cH cI cJ cK cL cM =>
 .go d0 (w9 cE cF cG cH cI cJ cK cL cM) cD)
 (rBlk d6 (cLoop (fun cN cO => u17 cN fun aa ab ac ad ae af cP cQ cR cS cT ag y ah z ai aj =>
 oLt aj ai fun cU =>
 oIf cU cO
 (fun cV => rThen (fun cW cX => u17 cW fun cY cZ c0 c1 c2 c3 c4 c5 c6 c7 c8 c9 da db dc dd de =>
 oAdd de i1 fun df =>
 .go d0 (w17 cY cZ c0 c1 c2 c3 c4 c5 c6 c7 c8 c9 da db dc dd df) cX)
 (rBlk d7 (oApp d12 z3 y cV fun dg dh =>
 oLen z fun di =>
 rThen (fun dj dk => u18 dj fun dl dm dn dp dq dr ak al am an ao ap ds dt du dv dw dx =>
 oCall k (nat_lit 371) (w3 ap (.nd d0 (w5 ak al am an ao)) dx) dk fun aq dy =>
 oExt d0 aq fun dz =>
 oExt d1 aq fun dA =>
 oNd dz fun dB ar =>
 oCk (Nat.beq dB d0) (oCk (Nat.beq (llen ar) d5) (u5 ar fun dC dD dE dF dG =>
 oNot dA fun dH =>
 oIf dH dy
 (fun dI => .go d1 (w1 (.nd d1 (w2 (.nd d0 (w5 i0 i0 zs z3 z3)) (.bool false)))) dI)
 (fun dJ => oBSl d5 d1 (w5 dC dD dE dF dG) dJ fun dK dL =>
 oApp d5 dr dK dL fun au dM =>
 oOne au (.go d0 (w17 dl dm dn dp dq au ak al am an ao ap ds dt du dv dw) dM)))))
 (rBlk d8 (cLoop (fun dN dO => u21 dN fun av aw ax ay az aA aB aC aD aE aF aG B aH aI aJ C D aK aL E =>
 oLt E aL fun dP =>
 oIf dP dO
 (fun g => rThen (fun dQ dR => u21 dQ fun dS dT dU dV dW dX dY dZ ea eb ec ed ee ef eg eh ei ej ek el em =>
 oAdd em i1 fun en =>
 .go d0 (w21 dS dT dU dV dW dX dY dZ ea eb ec ed ee ef eg eh ei ej ek el en) dR)
 (rBlk d9 (oIdx d1 aK E fun eo =>
 oLd eo g fun aM =>
 oIdx d12 B aM fun ep =>
 oFld d11 ep fun eq =>
 oLd eq g fun er =>
 oIdx d12 er C fun es =>
 oLdN d12 es g fun et =>
 oIdx d12 D aM fun eu =>
 oStN d12 eu et g fun ev =>
 .go d0 (w21 av aw ax ay az aA aB aC aD aE aF aG B aH aI aJ C D aK aL E) ev)))
 (fun ew => .go d8 (w18 av aw ax ay az aA aB aC aD aE aF aG B aH aI aJ C D) ew)) (nat_lit 100000) (w21 aa ab ac ad ae af cP cQ cR cS cT ag y ah z ai aj dg z di i0) dh)))))
 (fun ex => .go d6 (w9 aa ab ac ad ae af ag y ah) ex)) (nat_lit 100000) (w17 cm cn co cp cq cr cs ct cu cv cw cx cy cz cA cB i0) cl)))
 (rBlk d4 (cLoop (fun ey ez => u19 ey fun aN aO aP aQ aR aS aT aU aV aW aX aY F aZ a0 G a1 a2 I =>
 oLt I a2 fun eA =>
 oIf eA ez
 (fun J => rThen (fun eB eC => u19 eB fun eD eE eF eG eH eI eJ eK eL eM eN eO eP eQ eR eS eT eU eV =>
 oAdd eV i1 fun eW =>
 .go d0 (w19 eD eE eF eG eH eI eJ eK eL eM eN eO eP eQ eR eS eT eU eW) eC)
 (rBlk d5 (oIdx d1 a1 I fun eX =>
 oLd eX J fun eY =>
 oIdx d12 F eY fun eZ =>
 oFld d11 eZ fun e0 =>
 oLd e0 J fun e1 =>
 oLen e1 fun e2 =>
 oNeI e2 G fun e3 =>
 oIf e3 J
 (fun e4 => .go d1 (w1 (.nd d1 (w2 (.nd d0 (w5 i0 i0 zs z3 z3)) (.bool false)))) e4)
 (fun e5 => .go d0 (w19 aN aO aP aQ aR aS aT aU aV aW aX aY F aZ a0 G a1 a2 I) e5))))
 (fun e6 => .go d4 (w16 aN aO aP aQ aR aS aT aU aV aW aX aY F aZ a0 G) e6)) (nat_lit 100000) (w19 c j l m n o r s t u v p e b8 f ci f cj i0) x)))))))))
 (fun e7 => .go d2 (w5 j l m n o) e7)) (nat_lit 100000) (w9 a4 v9 N O bd z3 i M i0) fU)))))))))
noncomputable def f372 (k : K) (a : A) (h : H) : R :=
 u2 a fun j P =>
 oLen j fun Q =>
 rThen (fun S T => u1 S fun U =>
 .go d1 (w1 U) T)
 (rBlk d2 (cLoop (fun l m => u5 l fun c d e f b =>
 oLt b f fun n =>
 oIf n m
 (fun i => rThen (fun o p => u5 o fun q r s t u =>
 oAdd u i1 fun v =>
 .go d0 (w5 q r s t v) p)
 (rBlk d3 (oIdx d1 e b fun w =>
 oLd w i fun g =>
 oNeI g c fun x =>
 rThen (fun y z => u5 y fun B C D E F =>
 .go d0 (w5 B C D E F) z)
 (oIf x i
 (fun G => oOne g (oBSl d1 d1 (w1 g) G fun I J =>
 oApp d1 d I J fun L M =>
 .go d0 (w5 c L e f b) M))
 (fun N => .go d0 (w5 c d e f b) N)))))
 (fun O => .go d2 (w1 d) O)) (nat_lit 100000) (w5 P z3 j Q i0) h))
noncomputable def f376 (k : K) (a : A) (h : H) : R :=
 u3 a fun v1 i w =>
 oNd v1 fun g7 l8 =>
 oCk (Nat.beq g7 d0) (u5 l8 fun v9 I J L e =>
 oCallP k (nat_lit 367) (w2 i (.nd d0 (w5 v9 I J L e))) h fun c j =>
 oLe i0 c fun b =>
 oGrd b true j (fun M => oIdx d12 (gsel b true i) (gsel b true c) fun N =>
 M N j) fun O l =>
 oGrd b true l (fun P => oFld d5 O fun Q =>
 P Q l) fun S f =>
 oGrd b true f (fun T => oLd S f fun U =>
 T U f) fun V m =>
 oGrd b true m (fun W => oLt i0 V fun X =>
 W X m) fun Y n =>
 oPick b Y (.bool false) fun d =>
 oGrd d true n (fun Z => oCallP k (nat_lit 200) (w2 (gsel d true w) (gsel d true c)) n fun aa ab =>
 Z aa ab) fun ac o =>
 oGrd d true o (fun ad => oNot ac fun ae =>
 ad ae o) fun af ag =>
 oPick d af (.bool false) fun ah =>
 rThen (fun ai aj => u3 ai fun p ak al =>
 oLen p fun am =>
 rThen (fun an ao => u1 an fun ap =>
 .go d1 (w1 ap) ao)
 (rBlk d2 (cLoop (fun aq ar => u5 aq fun q r s t g =>
 oLt g t fun au =>
 oIf au ar
 (fun u => rThen (fun av aw => u5 av fun ax ay az aA aB =>
 oAdd aB i1 fun aC =>
 .go d0 (w5 ax ay az aA aC) aw)
 (rBlk d3 (oIdx d5 s g fun aD =>
 oLdN d5 aD u fun aE =>
 oNd aE fun aF v =>
 oCk (Nat.beq aF d0) (oCk (Nat.beq (llen v) d5) (u5 v fun aG aH x y z =>
 oCall k (nat_lit 376) (w3 (.nd d0 (w5 aG aH x y z)) q r) u fun B C =>
 .go d0 (w5 q B s t g) C)))))
 (fun aI => .go d2 (w1 r) aI)) (nat_lit 100000) (w5 ak al p am i0) aj)))
 (oIf ah ag
 (fun aJ => oOne c (oBSl d1 d1 (w1 c) aJ fun D E =>
 oApp d1 w D E fun F G =>
 .go d0 (w3 e i F) G))
 (fun aK => .go d0 (w3 e i w) aK)))
end Go.X1
