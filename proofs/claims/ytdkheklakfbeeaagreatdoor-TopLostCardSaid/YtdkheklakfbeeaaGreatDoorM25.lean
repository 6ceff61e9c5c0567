/- Part 25 of the proof. -/
import Derived.Test.YtdkheklakfbeeaaGreatDoorM24
set_option linter.all false
set_option maxRecDepth 100000
set_option maxHeartbeats 16000000
namespace Go.Proofs.YtdkheklakfbeeaaGreatDoor
open Go.RowKit Tryz
theorem ones3 (a:Int) (x y:ByteArray):∀u∈[Value.int .i64 a,.string x,.string y],u.oneCell'=true:=by
 intro u hu;simp at hu;rcases hu with rfl|rfl|rfl<;>rfl
theorem z_W {w:World} {base e size k g t:Nat} {v:Value} {xs:List Value} {cs:Array Value} (h:w.ownsRow base e size v k xs) (hb:Blk w g t cs) (aA:e≠t):∀q,v.ownBlock=some q->¬q=g:=fun q hq e2=>by
 subst e2;exact z_s h hb aA hq
theorem z_7 {w:World} {base e size k g t:Nat} {v:Value} {xs:List Value} {cs:Array Value} (h:w.ownsRow base e size v k xs) (hb:Blk w g t cs) (aA:e≠t):¬some g=v.ownBlock:=fun e2=>z_s h hb aA e2.symm
theorem v_F {w:World} {base e size k base' e' size' k':Nat} {v v':Value} {xs Qe:List Value} (h:w.ownsRow base e size v k xs) (h':w.ownsRow base' e' size' v' k' Qe) (aA:e≠e'):∀q,v'.ownBlock=some q->¬some q=v.ownBlock:=fun q hq e2=>by
 obtain ⟨cs,hb⟩:=z_i h' hq;exact z_7 h hb aA e2
section
variable {w:World} {b n an:Nat} {key:List UInt8} {F:Nat->Prop}
theorem format_any (hL:Lay w) (h:Bk w b n (fun _=>dk0) F) (hw:10<=w.heap.size) (ha:Blk w an 180 #[.int .u64 0,.string (bs [])]) (hk:key.length=32) (d s:Nat) (h2:2<=d) (h4:d<=4) (hs:sl s) (hn:d+2<=n) :
  Cl 54 #[.pointer (some ⟨b,0,none⟩),.pointer (some ⟨an,0,none⟩),.string (bs key),.int .i64 d,.int .i64 s] w fun e w'=>e=.returned (.int .i64 0)/\Blk w' an 180 #[.int .u64 1,.string (bs (z_Z (z_t (y_g d s n))))]/\∃F',Gr w F F'/\Bk w' b n (z_R (z_V d s n) 1 (bs (z_t (y_g d s n))) n) F'/\Kp (fun q=>F q\/q=an) w w':=by
 have dy:n<=12:=by obtain ⟨G,c,st,A,Φ,h0,_⟩:=h;exact h0.n12
 have bI:=sup0_ok h2 h4 hs hn dy;have tL:=Zz (fun W (k:Kp NoB w W)=>mmay_any (h.no k) an hk);have nA:=Zz (fun W (hL:Lay W)=>w_B W hL d s ⟨h2,by omega,hs⟩);have b6:=Zz (fun W σ' F' (hb:Bk W b n σ' F')=>v_J hb);have y9:=Zz (fun W (ha:Blk W an 180 #[.int .u64 0,.string (bs [])])=>aget_any W an 0 [] ha);have Ml:=Zz repeatZ;have Nz:=Zz (fun W (hL:Lay W) (bE:10<=W.heap.size)=>v_6 W hL bE);have fx:=Zz (fun W i=>w_j W b an i s key);have dE:=Zz (fun W σ' F' (hb:Bk W b n σ' F') (hL:Lay W) (bE:10<=W.heap.size) i (hi:i<n)=>blank_any y_R hL hb bE hi hs hk);have ph:=Zz (fun W σ' F' (hb:Bk W b n σ' F') (hL:Lay W) (bE:10<=W.heap.size) i (hi:i<n) v (hv:∀W',Kp F' W W'->z_Q W' v 2 (y_N s).length (wrC (y_N s))) (fy:(σ' i).wait=0) (hd:(σ' i).dead=false)=>v_U y_R hL hb bE hi hs hk v (y_N s) hv (by rw[show y_N s=y_8 s (s-1) s from rfl,blkW_len];rcases hs with rfl|rfl<;>decide) (blankW_ok hs) (by omega) hd);have ml:=Zz (fun W σ' F' (hb:Bk W b n σ' F') (hL:Lay W) (bE:10<=W.heap.size) (ha:Blk W an 180 #[.int .u64 0,.string (bs [])]) vs vm hR fy jb=>v_V (key:=key) hL hb bE 0 [] ha (y_g d s n) vs vm bI hR (by show 0<1;decide) fy jb);have fG:=Zz (fun q (hq:F q)=>h.lt hq);have cy:=Zz (h.off ha (by unfold tyB;decide));have iX:=Zz bI;have tM:=Zz (mem0_take d s n);have I9:=Zz (x_R d s n);have fI:Hid (∀vs vm,z_N (y_g d s n) vs vm=#[.int .u64 1,.int .u64 1,.int .i64 d,.int .i64 s,.int .i64 0,.int .i64 0,.bool false,vs,vm]):=Zz fun _ _=>rfl
 have Ja:Hid (∀W base vs vm,Own W base 3 vs (zv (List.range (d+2)))->W.ownsRow base 108 3 vm n (z_x (y_4 d s n))->y_P W (y_g d s n) vs vm):=Zz fun W base vs vm h1 h2=>⟨h1.reads,by
  have e:(y_g d s n).mem.length=n:=x_R d s n;rw[e]
  exact y_x h2⟩
 have eS:=Zz h;have vU:=Zz ha;have bj:=Zz hL
 have pX:(0:Int)<=(d:Int):=by omega
 have oY:¬((n:Int)<(d:Int)+2):=by omega
 have pH:IntKind.i64.wrap ((d:Int)+2)=(d:Int)+2:=by rw[q_r];omega
 have hsp:0<s/\s<=4:=by rcases hs with rfl|rfl<;>decide
 have HB:=Zz (Blk.new w 113 (mdC b an key));have HK:=Zz ((Kp.refl NoB w).alloc (.cells (mdC b an key) 113));have fM:=Zz hw;have dD:=Zz hn;clear hL h ha bI hs;have Jb:Hid ((y_g d s n).count=1):=Zz rfl
 have kG:Hid (∀i j,(z_V d s i j).wait<=1000):=Zz fun i j=>by rw[fmt1_wait];decide
 generalize y_g d s n=S0 at *;generalize htt:z_L s ch0=TT at *;go_enter func54,ntmps54
 go_upto_region 2 with fail
 change Code.wp _ _ _ _ (w.alloc (.cells (mdC b an key) 113));generalize w.alloc (.cells (mdC b an key) 113)=w1 at *;obtain ⟨G,hG⟩:∃G,w.heap.size=G:=⟨_,rfl⟩;rw[hG] at HB ⊢;have cR:=Zz hG;clear hG;have m0:=HB.o.c0;have m1:=HB.o.c1;have m2:=HB.o.c2;go_wp2_with fail;refine (tL.o _ HK.o).mono ?_;rintro e w2 ⟨rfl,ag⟩;have ak:=Zz (HB.o.kp ag fun h=>h);have al:=Zz (HK.o.trans ag);clear ag m0 m1 m2 HB HK tL
 go_upto_region 6 with fail
 have qN:=Zz (Blk.new w2 84 #[.int .i64 d,.int .i64 s,.int .i64 0,.bool false]);have NA:=Zz (al.o.alloc (.cells #[.int .i64 d,.int .i64 s,.int .i64 0,.bool false] 84));have Sn:=Zz (ak.o.alloc (.cells #[.int .i64 d,.int .i64 s,.int .i64 0,.bool false] 84));clear ak al;generalize w2.alloc (.cells #[.int .i64 d,.int .i64 s,.int .i64 0,.bool false] 84)=w3 at *;generalize w2.heap.size=Y at *;have y0:=qN.o.c0;have y1:=qN.o.c1;have y2:=qN.o.c2;have y3:=qN.o.c3;go_wp2_with fail;refine (nA.o _ (bj.o.no NA.o)).mono ?_;rintro e w4 ⟨rfl,aw⟩;have bR:=Zz (Sn.o.kp aw fun h=>h);have az:=Zz (NA.o.trans aw);clear aw y0 y1 y2 y3 qN NA Sn;go_wp2_with fail;refine (b6.o _ _ _ (eS.o.no az.o)).mono ?_;rintro e w4 ⟨rfl,rfl⟩;go_wp2_with fail;refine (y9.o _ (vU.o.kp az.o fun h=>h)).mono ?_;rintro e w5 ⟨rfl,aG⟩;have aY:=Zz (bR.o.kp aG fun h=>h);have ax:=Zz (az.o.trans aG);clear aG bR az
 go_upto_region 12 with fail
 have cM:=Zz (Blk.new w5 60 #[.int .u64 1,.int .u64 1,.int .i64 d,.int .i64 s,.int .i64 0,.int .i64 0,.bool false,.slice none 0 0,.slice none 0 0]);have nC:=Zz (ax.o.alloc (.cells #[.int .u64 1,.int .u64 1,.int .i64 d,.int .i64 s,.int .i64 0,.int .i64 0,.bool false,.slice none 0 0,.slice none 0 0] 60));have sm:=Zz (aY.o.alloc (.cells #[.int .u64 1,.int .u64 1,.int .i64 d,.int .i64 s,.int .i64 0,.int .i64 0,.bool false,.slice none 0 0,.slice none 0 0] 60));have kO:Hid (w.heap.size<=w5.heap.size/\w5.heap.size<(w5.alloc (.cells #[.int .u64 1,.int .u64 1,.int .i64 d,.int .i64 s,.int .i64 0,.int .i64 0,.bool false,.slice none 0 0,.slice none 0 0] 60)).heap.size):=Zz ⟨ax.o.size,by simp⟩;clear aY ax;generalize w5.alloc (.cells #[.int .u64 1,.int .u64 1,.int .i64 d,.int .i64 s,.int .i64 0,.int .i64 0,.bool false,.slice none 0 0,.slice none 0 0] 60)=w6 at *;generalize w5.heap.size=P at *;go_wp2_with fail;refine (b6.o _ _ _ (eS.o.no nC.o)).mono ?_;rintro e w6 ⟨rfl,rfl⟩;have BR:=Zz (bj.o.no nC.o);have mf:=Zz (vU.o.kp nC.o fun h=>h);have iK:Hid (∃F',Gr w6 F F'/\Bk w6 b n (z_V d s 0) F'):=Zz ⟨F,Gr.refl _ _,by rw[fmt1_zero];exact eS.o.no nC.o⟩;have bZ:=Zz (Kp.refl (fun q=>F q\/q=P) w6);have vW:Hid (∃v7 v8,Own w6 w6.heap.size 3 v7 (zv (List.range (min 0 (d+2))))/\w6.ownsRow w6.heap.size 108 3 v8 0 (z_x ((y_4 d s n).take 0))/\Blk w6 P 60 #[.int .u64 1,.int .u64 1,.int .i64 d,.int .i64 s,.int .i64 0,.int .i64 0,.bool false,v7,v8]):=Zz ⟨_,_,by rw[Nat.zero_min];exact Own.nil_ _ _ _,World.ownsRow_nil _ _ _ _,cM.o⟩;have ow:Hid (¬F G/\¬F P):=Zz ⟨fun hf=>by have:=(fG.o _ hf).2;have:=cR.o;omega,fun hf=>by have:=(fG.o _ hf).2;have:=kO.o.1;omega⟩;have v6:Hid (G<w6.heap.size/\G≠P):=Zz ⟨sm.o.lt,Blk.ne_ sm.o cM.o (by decide)⟩;have iq:Hid (10<=P):=Zz (by have:=kO.o.1;have:=fM.o;omega)
 go_upto_region 13 with fail
 go_loopw [17,18,19,20,21,22,57] (fun _ _ _ _ _ _ s57 wr=>∃i:Nat,i<=n/\s57=.int .i64 i/\Hid (∃v7 v8,Own wr w6.heap.size 3 v7 (zv (List.range (min i (d+2))))/\wr.ownsRow w6.heap.size 108 3 v8 i (z_x ((y_4 d s n).take i))/\Blk wr P 60 #[.int .u64 1,.int .u64 1,.int .i64 d,.int .i64 s,.int .i64 0,.int .i64 0,.bool false,v7,v8])/\Hid (∃F',Gr w6 F F'/\Bk wr b n (z_V d s i) F')/\Hid (Kp (fun q=>F q\/q=P) w6 wr)) (fun _ _ _ _ _ _ s57 _=>n-(intOf s57).toNat)
 case atStart=>exact ⟨0,by omega,rfl,vW,iK,bZ⟩
 case round =>
  clear vW iK bZ;obtain ⟨i,hi,rfl,we,HX,HK⟩:=hrel;obtain ⟨v7,v8,td,So,Sq⟩:=we.o;obtain ⟨F1,bu,ay⟩:=HX.o;have eM:=Zz td;have ia:=Zz So;have oA:=Zz Sq;have cC:=Zz bu;have bh:=Zz ay;have jg:=Zz (sm.o.kp HK.o fun h=>h.elim ow.o.1 v6.o.2);have kP:=Zz (BR.o.kp HK.o fun g hg hf=>by rcases hf with hf|hf;(have:=(fG.o g hf).1;omega);(have:=iq.o;omega));have oB:Hid (10<=wr.heap.size):=Zz (by have:=fM.o;have:=nC.o.size;have:=HK.o.size;omega);clear td So Sq bu ay we HX;by_cases af:i<n
  ·have bV:(i:Int)<(n:Int):=by omega
   go_wp2_with fail;refine (Ml.o wr).mono ?_;rintro e w7 ⟨rfl,aM⟩;have bC:=Zz aM;clear aM;go_wp2_with fail;refine (Nz.o _ (kP.o.no bC.o) (by have:=bC.o.size;have:=oB.o;omega)).mono ?_;rintro e w8 ⟨rfl,aL⟩;have bq:=Zz (bC.o.trans aL);clear aL bC;have eF:=Zz (Blk.new w8 108 #[.int .i64 0,.string zeB,.string z_C]);have bn:=Zz (bq.o.alloc (.cells #[.int .i64 0,.string zeB,.string z_C] 108));have jR:Hid (w6.heap.size<=w8.heap.size):=Zz (q_g HK.o.size bq.o.size)
   go_upto_region 16 with fail
   generalize w8.alloc (.cells #[.int .i64 0,.string zeB,.string z_C] 108)=w9 at *;obtain ⟨D,hD⟩:∃D,w8.heap.size=D:=⟨_,rfl⟩;rw[hD] at eF jR ⊢;have Ng:=Zz hD;clear hD;have fB:=Zz (HK.o.then bn.o fun _ _ h=>h.elim);have HP:=Zz (oA.o.kp bn.o fun h=>h);have jV:=Zz (eM.o.kp bn.o fun _ _ h=>h);have eT:=Zz (z_e ia.o bn.o fun _ _ h=>h);have fL:=Zz (bh.o.no bn.o);have gF:=Zz (jg.o.kp bn.o fun h=>h);have Jc:=Zz (kP.o.no bn.o);have EQ:Hid (10<=w9.heap.size):=Zz (by have:=oB.o;have:=bn.o.size;omega)
   have tN:Hid (∀q,v8.ownBlock=some q->q<D):=Zz fun q hq=>by have:=(z_u ia.o hq).2;have:=Ng.o;have:=bq.o.size;omega
   clear HK eM ia oA bh jg kP bq;have ND:Hid (P<w6.heap.size):=Zz kO.o.2;by_cases xK:i<d+2
   ·have nk:(i:Int)<(d:Int)+2:=by omega
    have iJ:min i (d+2)=i:=Nat.min_eq_left (by omega);have kM:min (i+1) (d+2)=i+1:=Nat.min_eq_left (by omega);rw[iJ] at jV;have m0:=gF.o.c0;have m1:=gF.o.c1;have m2:=gF.o.c2;go_wp2_with fail;refine (fx.o w9 i).mono ?_;rintro e bO ⟨rfl,cd⟩;have cU:=Zz cd;clear cd m0 m1 m2;go_wp2_with fail;refine (dE.o bO _ F1 (fL.o.no cU.o) (Jc.o.no cU.o) (by have:=EQ.o;have:=cU.o.size;omega) i af).mono ?_;rintro e fa ⟨u11,rfl,ER,bX⟩;have HU:=Zz ER;have cW:=Zz (cU.o.trans bX);have jh:=Zz (gF.o.kp cW.o fun h=>h);clear ER bX cU;have m0:=jh.o.c0;have m1:=jh.o.c1;have m2:=jh.o.c2;go_wp2_with fail;refine (fx.o fa i).mono ?_;rintro e fN ⟨rfl,bN⟩;have bp:=Zz (cW.o.trans bN);have ze:=Zz (z_e HU.o bN fun _ _ h=>h);clear bN m0 m1 m2 cW HU jh;have oC:=Zz (fL.o.no bp.o);go_wp2_with fail;refine (ph.o fN _ F1 oC.o (Jc.o.no bp.o) (by have:=EQ.o;have:=bp.o.size;omega) i af u11 (fun W' hk=>y_x (z_e ze.o hk (oC.o.offRow ze.o (by unfold tyB;decide)))) (fmt1_wait _ _ _ _) (w_z _ _ _ _)).mono ?_;rintro e eU ⟨rfl,F2,bJ,am,ag⟩;rw[fmt1_at,fmt1_yes d s i xK] at am;have ES:Hid (∃F',Gr w6 F F'/\Bk eU b n (z_V d s (i+1)) F'):=Zz ⟨F2,cC.o.then bJ (q_g fB.o.size bp.o.size),am⟩;have zf:Hid (∀g t cs,Blk w9 g t cs->¬tyB t->Blk eU g t cs):=Zz fun g t cs hb ht=>(hb.kp bp.o fun h=>h).kp ag (oC.o.off (hb.kp bp.o fun h=>h) ht);have ET:=Zz (zf.o _ _ _ HP.o (by unfold tyB;decide));have lF:=Zz (zf.o _ _ _ eF.o (by unfold tyB;decide));have qO:=Zz ((jV.o.kp bp.o fun _ _ h=>h).kp ag (oC.o.offRow (jV.o.kp bp.o fun _ _ h=>h) (by unfold tyB;decide)));have wh:=Zz (z_e (z_e eT.o bp.o fun _ _ h=>h) ag (oC.o.offRow (z_e eT.o bp.o fun _ _ h=>h) (by unfold tyB;decide)));have gG:Hid (Kp (fun q=>F q\/q=P) w6 eU):=Zz ((fB.o.then bp.o fun _ _ h=>h.elim).then ag fun q hq hf=>.inl (cC.o q hq hf));clear bJ am ag fB HP jV eT fL gF Jc bp ze oC zf eF cC;have q0:=lF.o.c0;have q1:=lF.o.c1;have g0:=lF.o.frozen 0;have g1:=lF.o.frozen 1;have bY:=((Kp.refl (fun q=>q=D) eU).setCell ⟨D,0,none⟩ (.int .i64 1) (.inl rfl)).setCell ⟨D,1,none⟩ (.string TT) (.inl rfl)
    have Sr:P≠D:=fun e=>by have:=ND.o;have:=jR.o;omega
    have HD:Hid (Blk ((eU.setCell ⟨D,0,none⟩ (.int .i64 1)).setCell ⟨D,1,none⟩ (.string TT)) D 108 #[.int .i64 1,.string TT,.string z_C]):=Zz ((lF.o.set_ 0 (.int .i64 1)).set_ 1 (.string TT));have HP:=Zz (ET.o.kp bY Sr);have jV:=Zz (qO.o.kp bY (z_W qO.o lF.o (by decide)))
    have EU:∀q,v8.ownBlock=some q->¬q=D:=fun q hq e=>by have:=tN.o q hq;omega
    have eT:=Zz (z_e wh.o bY EU);have fB:Hid (Kp (fun q=>F q\/q=P) w6 ((eU.setCell ⟨D,0,none⟩ (.int .i64 1)).setCell ⟨D,1,none⟩ (.string TT))):=Zz (gG.o.then bY fun q hq e=>by have e:q=D:=e;have:=jR.o;omega)
    have HF:Hid (∃F',Gr w6 F F'/\Bk ((eU.setCell ⟨D,0,none⟩ (.int .i64 1)).setCell ⟨D,1,none⟩ (.string TT)) b n (z_V d s (i+1)) F'):=Zz (by
     obtain ⟨F',h1,h2⟩:=ES.o
     exact ⟨F',h1,h2.kp bY fun q hq hf=>by
      have hq:q=D:=hq;subst hq
      exact h2.off lF.o (by unfold tyB;decide) hf⟩)
    clear bY EU ET qO wh gG ES
    go_upto_region 22 with fail
    clear q0 q1 g0 g1 lF;generalize (eU.setCell ⟨D,0,none⟩ (.int .i64 1)).setCell ⟨D,1,none⟩ (.string TT)=kQ at *;have p7:=HP.o.c7;have iW:=fB.o.size;have jW:Hid (Own kQ w6.heap.size 3 v7 (zv (List.range i))):=jV
    go_upto_region 23 with (at_builtin;refine x_d (w0:=kQ) w6.heap.size rfl (.tmp 89) (.tmp 91) 57 3 (.int .i64 0) 8 rfl underlying57 info3 rfl (by decide) v7 (zv (List.range i)) (.int .i64 i) rfl rfl rfl jW.o ((Below.refl _ _).mono iW) iW (by rw[z_w,q_H];omega) ?_;intro v1 nN hO hB hg br;obtain ⟨A7,c7,rfl⟩:∃A c,v1=.slice A (i+1) c:=(by obtain ⟨A,c,e⟩:=hO.shape;exact ⟨A,c,by rw[e,<-zv_take,z_w,q_H]⟩);have p7:nN.cell? ⟨P,7,none⟩=some v7:=(HP.o.grown hg (fun e=>z_7 jW.o HP.o (by decide) e)).cell 7;have f7:=(HP.o.grown hg (fun e=>z_7 jW.o HP.o (by decide) e)).frozen 7;have mJ:=Zz hO;have EV:=Zz hg;clear hO hg br hB)
    have aC:Kp (fun q=>some q=v7.ownBlock) kQ nN:=Kp.of_grown EV.o fun _ h=>h;have fO:=HP.o.kp aC (z_7 jW.o HP.o (by decide));have ap:=(Kp.refl (fun q=>q=P) nN).setCell ⟨P,7,none⟩ (.slice A7 (i+1) c7) (.inl rfl);have eB:Blk (nN.setCell ⟨P,7,none⟩ (.slice A7 (i+1) c7)) P 60 #[.int .u64 1,.int .u64 1,.int .i64 d,.int .i64 s,.int .i64 0,.int .i64 0,.bool false,.slice A7 (i+1) c7,v8]:=fO.set_ 7 (.slice A7 (i+1) c7);have pm:=mJ.o.kp ap (z_W mJ.o fO (by decide));rw[<-zv_take] at pm;have zg:=z_e eT.o aC (v_F jW.o eT.o (by decide));have oD:=z_e zg ap (z_W zg fO (by decide));have BS:=HD.o.kp aC (z_7 jW.o HD.o (by decide));have hd:=BS.kp ap fun e=>Sr (Eq.symm e)
    have Yt:Hid (∃F',Gr w6 F F'/\Bk (nN.setCell ⟨P,7,none⟩ (.slice A7 (i+1) c7)) b n (z_V d s (i+1)) F'):=Zz (by
     obtain ⟨F',h1,h2⟩:=HF.o;have h3:=h2.kp aC fun q hq hf=>h2.offRow jW.o (by unfold tyB;decide) q hq.symm hf
     exact ⟨F',h1,h3.kp ap fun q hq hf=>by
      have hq:q=P:=hq;subst hq
      exact h3.off fO (by unfold tyB;decide) hf⟩)
    have Yu:=Zz ((fB.o.then aC fun q hq h=>by have:=(z_u jW.o h.symm).1;omega).then ap fun q hq e=>.inr e);have Yv:=Zz eB;have NE:=Zz pm;have NF:=Zz oD;have Yw:=Zz hd;clear aC fO ap eB pm oD zg BS hd p7 f7 HP jV jW eT HD HF fB mJ EV;generalize nN.setCell ⟨P,7,none⟩ (.slice A7 (i+1) c7)=Ct at *;have HP:=Yv;have jV:=NE;have eT:=NF;have HD:=Yw;have HF:=Yt;have fB:=Yu;have p8:=HP.o.c8;have q0:=HD.o.c0;have q1:=HD.o.c1;have q2:=HD.o.c2;have b9:=Zz (ones3 1 TT z_C);have iW:=fB.o.size;have NG:=Zz (jV.o.alloc (.cells #[.int .i64 1,.string TT,.string z_C] 108));have jf:=Zz (HP.o.alloc (.cells #[.int .i64 1,.string TT,.string z_C] 108));have NH:=Zz (fB.o.alloc (.cells #[.int .i64 1,.string TT,.string z_C] 108))
    have EW:Hid (∃F',Gr w6 F F'/\Bk (Ct.alloc (.cells #[.int .i64 1,.string TT,.string z_C] 108)) b n (z_V d s (i+1)) F'):=Zz (by
     obtain ⟨F',h1,h2⟩:=HF.o
     exact ⟨F',h1,h2.no ((Kp.refl NoB Ct).alloc _)⟩)
    have NI:=Zz (World.ownsRow.alloc eT.o (.cells #[.int .i64 1,.string TT,.string z_C] 108))
    go_wp2_with (at_builtin;refine y_v w6.heap.size rfl (.tmp 95) (.tmp 97) 58 108 (.agg #[.int .i64 0,.string ⟨#[]⟩,.string ⟨#[]⟩]) 3 40 rfl underlying58 infoME rfl (by decide) (by decide) v8 i _ [Value.int .i64 1,.string TT,.string z_C] rfl rfl rfl b9.o eT.o iW (by omega) ?_;intro v1 jE hO hg br;obtain ⟨A8,c8,rfl⟩:=z_r hO;have p8:jE.cell? ⟨P,8,none⟩=some v8:=(HP.o.grown hg (fun e=>z_7 eT.o HP.o (by decide) e)).cell 8;have f8:=(HP.o.grown hg (fun e=>z_7 eT.o HP.o (by decide) e)).frozen 8;have qP:=Zz hO;have zh:=Zz hg;clear hO hg br)
    have aC:Kp (fun q=>some q=v8.ownBlock) Ct jE:=Kp.of_grown zh.o fun _ h=>h;have fw:=HP.o.kp aC (z_7 eT.o HP.o (by decide));have ap:=(Kp.refl (fun q=>q=P) jE).setCell ⟨P,8,none⟩ (.slice A8 (i+1) c8) (.inl rfl);have eB:Blk (jE.setCell ⟨P,8,none⟩ (.slice A8 (i+1) c8)) P 60 #[.int .u64 1,.int .u64 1,.int .i64 d,.int .i64 s,.int .i64 0,.int .i64 0,.bool false,.slice A7 (i+1) c7,.slice A8 (i+1) c8]:=fw.set_ 8 (.slice A8 (i+1) c8);have pm:=(jV.o.kp aC (v_F eT.o jV.o (by decide))).kp ap (z_W (jV.o.kp aC (v_F eT.o jV.o (by decide))) fw (by decide));have oD:=z_e qP.o ap (z_W qP.o fw (by decide))
    have wj:z_x ((y_4 d s n).take i)++[Value.int .i64 1,.string TT,.string z_C]=z_x ((y_4 d s n).take (i+1)):=by
     rw[tM.o i af,v_0,if_pos xK];rfl
    rw[wj] at oD;have mK:Hid (∃v7 v8,Own (jE.setCell ⟨P,8,none⟩ (.slice A8 (i+1) c8)) w6.heap.size 3 v7 (zv (List.range (min (i+1) (d+2))))/\(jE.setCell ⟨P,8,none⟩ (.slice A8 (i+1) c8)).ownsRow w6.heap.size 108 3 v8 (i+1) (z_x ((y_4 d s n).take (i+1)))/\Blk (jE.setCell ⟨P,8,none⟩ (.slice A8 (i+1) c8)) P 60 #[.int .u64 1,.int .u64 1,.int .i64 d,.int .i64 s,.int .i64 0,.int .i64 0,.bool false,v7,v8]):=Zz ⟨_,_,by rw[kM];exact pm,oD,eB⟩
    have zi:Hid (∃F',Gr w6 F F'/\Bk (jE.setCell ⟨P,8,none⟩ (.slice A8 (i+1) c8)) b n (z_V d s (i+1)) F'):=Zz (by
     obtain ⟨F',h1,h2⟩:=HF.o;have h3:=h2.kp aC fun q hq hf=>h2.offRow eT.o (by unfold tyB;decide) q hq.symm hf
     exact ⟨F',h1,h3.kp ap fun q hq hf=>by
      have hq:q=P:=hq;subst hq
      exact h3.off fw (by unfold tyB;decide) hf⟩)
    have aB:=Zz ((fB.o.then aC fun q hq h=>by have:=(z_u eT.o h.symm).1;omega).then ap fun q hq e=>by exact .inr e);clear aC fw ap eB pm oD wj;go_wp2;go_roundw
    case rel=>exact ⟨i+1,by omega,by go_num,mK,zi,aB⟩
    case measure=>simp[intOf];omega
   ·have nk:¬((i:Int)<(d:Int)+2):=by omega
    have iJ:min i (d+2)=d+2:=Nat.min_eq_right (by omega);have kM:min (i+1) (d+2)=d+2:=Nat.min_eq_right (by omega);rw[iJ] at jV;have HF:Hid (∃F',Gr w6 F F'/\Bk w9 b n (z_V d s (i+1)) F'):=Zz ⟨F1,cC.o,by rw[fmt1_no d s i xK];exact fL.o⟩;have HD:=eF;clear gF fL Jc cC bn eF;have p8:=HP.o.c8;have q0:=HD.o.c0;have q1:=HD.o.c1;have q2:=HD.o.c2;have b9:=Zz (ones3 0 zeB z_C);have iW:=fB.o.size;have NG:=Zz (jV.o.alloc (.cells #[.int .i64 0,.string zeB,.string z_C] 108));have jf:=Zz (HP.o.alloc (.cells #[.int .i64 0,.string zeB,.string z_C] 108));have NH:=Zz (fB.o.alloc (.cells #[.int .i64 0,.string zeB,.string z_C] 108))
    have EW:Hid (∃F',Gr w6 F F'/\Bk (w9.alloc (.cells #[.int .i64 0,.string zeB,.string z_C] 108)) b n (z_V d s (i+1)) F'):=Zz (by
     obtain ⟨F',h1,h2⟩:=HF.o
     exact ⟨F',h1,h2.no ((Kp.refl NoB w9).alloc _)⟩)
    have NI:=Zz (World.ownsRow.alloc eT.o (.cells #[.int .i64 0,.string zeB,.string z_C] 108))
    go_wp2_with (at_builtin;refine y_v w6.heap.size rfl (.tmp 95) (.tmp 97) 58 108 (.agg #[.int .i64 0,.string ⟨#[]⟩,.string ⟨#[]⟩]) 3 40 rfl underlying58 infoME rfl (by decide) (by decide) v8 i _ [Value.int .i64 0,.string zeB,.string z_C] rfl rfl rfl b9.o eT.o iW (by omega) ?_;intro v1 jE hO hg br;obtain ⟨A8,c8,rfl⟩:=z_r hO;have p8:jE.cell? ⟨P,8,none⟩=some v8:=(HP.o.grown hg (fun e=>z_7 eT.o HP.o (by decide) e)).cell 8;have f8:=(HP.o.grown hg (fun e=>z_7 eT.o HP.o (by decide) e)).frozen 8;have qP:=Zz hO;have zh:=Zz hg;clear hO hg br)
    have aC:Kp (fun q=>some q=v8.ownBlock) w9 jE:=Kp.of_grown zh.o fun _ h=>h;have fw:=HP.o.kp aC (z_7 eT.o HP.o (by decide));have ap:=(Kp.refl (fun q=>q=P) jE).setCell ⟨P,8,none⟩ (.slice A8 (i+1) c8) (.inl rfl);have eB:Blk (jE.setCell ⟨P,8,none⟩ (.slice A8 (i+1) c8)) P 60 #[.int .u64 1,.int .u64 1,.int .i64 d,.int .i64 s,.int .i64 0,.int .i64 0,.bool false,v7,.slice A8 (i+1) c8]:=fw.set_ 8 (.slice A8 (i+1) c8);have pm:=(jV.o.kp aC (v_F eT.o jV.o (by decide))).kp ap (z_W (jV.o.kp aC (v_F eT.o jV.o (by decide))) fw (by decide));have oD:=z_e qP.o ap (z_W qP.o fw (by decide))
    have wj:z_x ((y_4 d s n).take i)++[Value.int .i64 0,.string zeB,.string z_C]=z_x ((y_4 d s n).take (i+1)):=by
     rw[tM.o i af,v_0,if_neg xK];rfl
    rw[wj] at oD;have mK:Hid (∃v7 v8,Own (jE.setCell ⟨P,8,none⟩ (.slice A8 (i+1) c8)) w6.heap.size 3 v7 (zv (List.range (min (i+1) (d+2))))/\(jE.setCell ⟨P,8,none⟩ (.slice A8 (i+1) c8)).ownsRow w6.heap.size 108 3 v8 (i+1) (z_x ((y_4 d s n).take (i+1)))/\Blk (jE.setCell ⟨P,8,none⟩ (.slice A8 (i+1) c8)) P 60 #[.int .u64 1,.int .u64 1,.int .i64 d,.int .i64 s,.int .i64 0,.int .i64 0,.bool false,v7,v8]):=Zz ⟨_,_,by rw[kM];exact pm,oD,eB⟩
    have zi:Hid (∃F',Gr w6 F F'/\Bk (jE.setCell ⟨P,8,none⟩ (.slice A8 (i+1) c8)) b n (z_V d s (i+1)) F'):=Zz (by
     obtain ⟨F',h1,h2⟩:=HF.o;have h3:=h2.kp aC fun q hq hf=>h2.offRow eT.o (by unfold tyB;decide) q hq.symm hf
     exact ⟨F',h1,h3.kp ap fun q hq hf=>by
      have hq:q=P:=hq;subst hq
      exact h3.off fw (by unfold tyB;decide) hf⟩)
    have aB:=Zz ((fB.o.then aC fun q hq h=>by have:=(z_u eT.o h.symm).1;omega).then ap fun q hq e=>by exact .inr e);clear aC fw ap eB pm oD wj;go_wp2;go_roundw
    case rel=>exact ⟨i+1,by omega,by go_num,mK,zi,aB⟩
    case measure=>simp[intOf];omega
  ·obtain rfl:i=n:=by omega
   have eM:Hid (Own wr w6.heap.size 3 v7 (zv (List.range (d+2)))):=Zz (by have h1:=eM.o;rwa [Nat.min_eq_right dD.o] at h1);have ia:Hid (wr.ownsRow w6.heap.size 108 3 v8 i (z_x (y_4 d s i))):=Zz (by have h1:=ia.o;rwa [q_t (by rw[I9.o];exact q_e _)] at h1);obtain ⟨A8,c8,rfl⟩:=z_r ia.o
   obtain ⟨A7,c7,rfl⟩:∃A c,v7=.slice A (d+2) c:=by
    obtain ⟨A,c,e⟩:=eM.o.shape;exact ⟨A,c,by rw[e,z_w,q_H]⟩
   have gZ:=Zz (Ja.o wr _ _ _ eM.o ia.o);have EX:=Zz (mf.o.kp HK.o fun h=>h.elim cy.o fun e=>by have:=vU.o.lt;have:=kO.o.1;omega);have HX:=Zz (ml.o wr _ F1 bh.o kP.o oB.o EX.o _ _ gZ.o (fun j _=>kG.o _ _) ⟨0,by have:=dD.o;omega,w_z _ _ _ _⟩);rw[fI.o,Jb.o] at HX;have m0:=jg.o.c0;have m1:=jg.o.c1;have m2:=jg.o.c2;have p0:=oA.o.c0;have p1:=oA.o.c1;have p2:=oA.o.c2;have p3:=oA.o.c3;have p4:=oA.o.c4;have p5:=oA.o.c5;have p6:=oA.o.c6;have p7:=oA.o.c7;have p8:=oA.o.c8;go_wp2_with fail;refine HX.o.mono ?_;rintro e po ⟨rfl,EY,F3,eW,bW,au⟩
   have HR:Hid (Blk po an 180 #[.int .u64 1,.string (bs (z_Z (z_t S0)))]/\∃F',Gr w F F'/\Bk po b i (z_R (z_V d s i) 1 (bs (z_t S0)) i) F'/\Kp (fun q=>F q\/q=an) w po):=Zz (by
    refine ⟨EY,F3,fun q hq hf=>?_,bW,?_⟩
    ·have h6:q<w6.heap.size:=q_f hq nC.o.size
     exact cC.o q h6 (eW q (q_f h6 HK.o.size) hf)
    ·refine ((nC.o.mono fun _ _ h=>h.elim).then HK.o fun q hq h=>h.elim .inl fun e=>?_).then au fun q hq h=>h.elim (fun h=>.inl (cC.o q (q_f hq nC.o.size) h)) .inr
     have:=kO.o.1
     omega)
   clear EY eW bW au;go_wp2;go_ret;exact ⟨rfl,HR.o⟩
end
def nT (L:List Nat) (M:List Mem):List UInt8:=L.flatMap z_k++M.flatMap y_J
theorem w_7 (x:Nat) (L:List Nat) (M:List Mem):nT (x::L) M=z_k x++nT L M:=by simp[nT,List.append_assoc]
theorem nT_mem (m:Mem) (M:List Mem):nT [] (m::M)=y_J m++nT [] M:=by simp[nT]
theorem supB_nT (S:Sup):z_t S=z_k S.count++(z_k S.epoch++nT (numL S) S.mem):=by simp[z_t,nT,List.append_assoc]
theorem range_drop {m i:Nat} (h:i<m):(List.range m).drop i=i::(List.range m).drop (i+1):=by
 rw[List.drop_eq_getElem_cons (by simpa using h)];simp
theorem num_rd (W:World) (P x:Nat) (rest:List UInt8) (hx:x<18446744073709551616) (hr:rest.length<=900000) (hB:Blk W P 317 (Rd.cs (z_k x++rest,0))) :
  Cl 183 #[.pointer (some ⟨P,0,none⟩)] W fun e w'=>e=.returned (.int .u64 x)/\Blk w' P 317 (Rd.cs (rest,0))/\Kp (·=P) W w':=by
 have:=v_y W P (z_k x++rest,0) (by rw[q_b,z_m];omega) hB
 rwa [(Rd.num_ok hx rest).1,(Rd.num_ok hx rest).2.1] at this
theorem below_rd (W:World) (P x b:Nat) (rest:List UInt8) (hx:x<b) (hb:b<=1000) (hr:rest.length<=900000) (hB:Blk W P 317 (Rd.cs (z_k x++rest,0))) :
  Cl 179 #[.pointer (some ⟨P,0,none⟩),.int .i64 b] W fun e w'=>e=.returned (.int .i64 x)/\Blk w' P 317 (Rd.cs (rest,0))/\Kp (·=P) W w':=by
 have h1:=Rd.below_ok (n:=x) (b:=b) (by omega) hx rest;have:=w_2 W P (z_k x++rest,0) (by rw[q_b,z_m];omega) (by show 0<100;decide) b (by omega) (by omega) hB
 rwa [h1.1,h1.2] at this
end Go.Proofs.YtdkheklakfbeeaaGreatDoor
