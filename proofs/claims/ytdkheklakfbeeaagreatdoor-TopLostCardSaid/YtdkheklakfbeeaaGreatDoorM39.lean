/- Part 39 of the proof. -/
import Derived.Test.YtdkheklakfbeeaaGreatDoorM38
set_option linter.all false
set_option maxRecDepth 100000
set_option maxHeartbeats 16000000
namespace Go.Proofs.YtdkheklakfbeeaaGreatDoor
open Go.RowKit Go.Proofs.Tryz
structure StW (w0 W:World) (v b an st sp g P2 P3:Nat) (key:List UInt8) (S:Sup) (vs vm bU ct:Value) (f:Nat->Option ByteArray) (dom:List Nat):Prop where
 l:Lay W
 v:Blk W v 88 (vlC b an key (some ⟨st,0,none⟩) (some g))
 s:Blk W st 116 (stC b an key S vs vm sp)
 m:MapA KI W g (txM f) dom
 p:Blk W P3 60 (z_N S bU ct)
 r:Blk W P2 51 #[.bool false,.bool false,.int .i64 0,.int .i64 0,.int .i64 0,.int .i64 0,.int .i64 0,.bool false,.slice none 0 0]
 o:SupO W w0.heap.size S bU ct
 k:Kp NoB w0 W
 z:w0.heap.size<=P2
theorem StW.no {w0 W W':World} {v b an st sp g P2 P3:Nat} {key:List UInt8} {S:Sup} {vs vm bU ct:Value} {f:Nat->Option ByteArray} {dom:List Nat} (h:StW w0 W v b an st sp g P2 P3 key S vs vm bU ct f dom) (k:Kp NoB W W'):StW w0 W' v b an st sp g P2 P3 key S vs vm bU ct f dom :=
 ⟨h.l.no k,h.v.kp k fun h=>h,h.s.kp k fun h=>h,h.m.no k,h.p.kp k fun h=>h,h.r.kp k fun h=>h,h.o.no k,h.k.trans k,h.z⟩
theorem StW.kpN {w0 W W':World} {v b an st sp g P2 P3 P4:Nat} {key:List UInt8} {S:Sup} {vs vm bU ct:Value} {f:Nat->Option ByteArray} {dom:List Nat} {cs:Array Value} (h:StW w0 W v b an st sp g P2 P3 key S vs vm bU ct f dom) (hb:Blk W P4 51 cs) (h6:6<=P4) (aA:P4≠P2) (hw:w0.heap.size<=P4) (k:Kp (fun q=>q=P4) W W'):StW w0 W' v b an st sp g P2 P3 key S vs vm bU ct f dom:=by
 have ae:∀ {base e size n:Nat} {u:Value} {xs:List Value},W.ownsRow base e size u n xs->e≠51->∀q,u.ownBlock=some q->¬q=P4:=fun ho PF q hq e=>z_s ho hb PF (hq.trans (congrArg some e));refine ⟨h.l.kp k fun q hq e=>(by have e:q=P4:=e;omega),h.v.kp k fun e=>Blk.ne_ h.v hb (by decide) e,h.s.kp k fun e=>Blk.ne_ h.s hb (by decide) e,h.m.kp k fun e=>h.m.ne_blk hb e,h.p.kp k fun e=>Blk.ne_ h.p hb (by decide) e,h.r.kp k fun e=>aA e.symm,h.o.kp k (ae h.o.seats (by decide)) (ae h.o.mems (by decide)),h.k.then k fun q hq e=>(by have e:q=P4:=e;omega:False),h.z⟩
theorem infoST:(prog.info? 106).map (fun i=>(i.zero,i.size,i.bytes))=some (some (.int .i64 0),1,8):=by kernel_rfl
section
variable {w:World} {v b an st sp g base0:Nat} {key:List UInt8} {S:Sup} {vs vm:Value} {f:Nat->Option ByteArray} {dom:List Nat}
theorem vstatus_any (hL:Lay w) (hw:10<=w.heap.size) (hv:Blk w v 88 (vlC b an key (some ⟨st,0,none⟩) (some g))) (hs:Blk w st 116 (stC b an key S vs vm sp)) (hR:y_P w S vs vm) (hS:SupOk S) (hM:MapA KI w g (txM f) dom) :
  Cl 14 #[.pointer (some ⟨v,0,none⟩)] w fun e w'=>∃(A:Option Addr) (k c:Nat),e=.returned (.agg #[.bool true,.bool false,.int .i64 (S.slots*S.data:Nat),.int .i64 (dom.length:Nat),.int .i64 S.data,.int .i64 0,.int .i64 0,.bool false,.slice A k c])/\Kp NoB w w':=by
 have fP:lyOk S.data S.slots:=⟨hS.d2,by have:=hS.d8;omega,hS.sl⟩;have eS:=Zz (fun W (l:Lay W)=>lyblocks_any W l S.data S.slots fP);obtain ⟨q1,js⟩:∃q,S.slots*S.data=q:=⟨_,rfl⟩;rw[js] at eS ⊢;clear js;have aE:=(Kp.refl NoB w).alloc (.cells #[.bool false,.bool false,.int .i64 0,.int .i64 0,.int .i64 0,.int .i64 0,.int .i64 0,.bool false,.slice none 0 0] 51);have tF:=Zz (ssuper_any (hs.kp aE fun h=>h) (hR.no aE) hS);have vX:=Zz (hv.kp aE fun h=>h);have BL:=Zz (hs.kp aE fun h=>h);have dj:=Zz (hM.no aE);have fX:=Zz (hL.no aE);have mC:=Zz (Blk.new w 51 #[.bool false,.bool false,.int .i64 0,.int .i64 0,.int .i64 0,.int .i64 0,.int .i64 0,.bool false,.slice none 0 0]);have aW:=Zz aE;have dy:=hS.n12;have aH:=fun i h=>hS.st2 i h;have g9:Hid (0<S.mem.length):=Zz (by have:=hS.n1;omega);clear hL hv hs hR hS hM aE fP;go_enter func14,ntmps14
 go_upto_region 1 with fail
 generalize w.alloc (.cells #[.bool false,.bool false,.int .i64 0,.int .i64 0,.int .i64 0,.int .i64 0,.int .i64 0,.bool false,.slice none 0 0] 51)=w1 at *;have c3:=vX.o.c3;obtain ⟨P2,rT⟩:∃P2,w.heap.size=P2:=⟨_,rfl⟩;rw[rT] at mC hw ⊢;have ee:=Zz rT;clear rT;go_wp2_with fail;refine tF.o.mono ?_;rintro e w2 ⟨bU,ct,rfl,cP,ag⟩;obtain ⟨As,cs,Am,cm,cQ,cq⟩:=cP.reads.shape
 have mN:Hid (StW w (w2.alloc (.cells (z_N S bU ct) 60)) v b an st sp g P2 w2.heap.size key S vs vm bU ct f dom):=Zz (by
  have h1:=(Kp.refl NoB w2).alloc (.cells (z_N S bU ct) 60)
  exact ⟨(fX.o.no ag).no h1,(vX.o.kp ag fun h=>h).kp h1 fun h=>h,(BL.o.kp ag fun h=>h).kp h1 fun h=>h,(dj.o.no ag).no h1,Blk.new w2 60 (z_N S bU ct),(mC.o.kp ag fun h=>h).kp h1 fun h=>h,(cP.no h1).more (by have:=aW.o.size;omega),(aW.o.trans ag).trans h1,by have:=ee.o;omega⟩)
 have fh:Hid (P2<w2.heap.size):=Zz (mC.o.kp ag fun h=>h).lt;subst cQ cq;clear c3 tF vX BL dj fX mC aW ag cP;rw[show z_N S (.slice As (S.data+2) cs) (.slice Am S.mem.length cm)=#[.int .u64 S.count,.int .u64 S.epoch,.int .i64 S.data,.int .i64 S.slots,.int .i64 0,.int .i64 0,.bool false,.slice As (S.data+2) cs,.slice Am S.mem.length cm] from rfl]
 go_upto_region 4 with fail
 change Code.wp _ _ _ _ (w2.alloc (.cells (z_N S (.slice As (S.data+2) cs) (.slice Am S.mem.length cm)) 60));have b6:Hid (P2<(w2.alloc (.cells (z_N S (.slice As (S.data+2) cs) (.slice Am S.mem.length cm)) 60)).heap.size):=Zz (by have:=fh.o;simp;omega);generalize w2.alloc (.cells (z_N S (.slice As (S.data+2) cs) (.slice Am S.mem.length cm)) 60)=w4 at *;generalize w2.heap.size=P3 at *
 go_cut [4] (fun s4 wx=>∃P4,s4=.pointer (some ⟨P4,0,none⟩)/\Hid (Blk wx P4 51 #[.bool true,.bool false,.int .i64 q1,.int .i64 (dom.length:Nat),.int .i64 S.data,.int .i64 0,.int .i64 0,.bool false,.slice none 0 0]/\P4≠P2/\w.heap.size<=P4)/\Hid (StW w wx v b an st sp g P2 P3 key S vs vm (.slice As (S.data+2) cs) (.slice Am S.mem.length cm) f dom))
 case first =>
  have H0:=Zz (mN.o.no (Kp.refl NoB w4).drew);have wY:Hid (P2<w4.drew.heap.size):=b6;clear mN;refine fs ?_;generalize w4.drew=w5 at *;have c3:=H0.o.v.c3;have c4:=H0.o.v.c4;have p2:=H0.o.p.c2;have p4:=H0.o.p.c4;have p5:=H0.o.p.c5;have p6:=H0.o.p.c6;refine fp 0 ?_;refine fp 1 ?_;refine fp 2 ?_;refine f_c 3 c3 ?_;refine fp 5 ?_;refine fp 6 ?_;refine fp 7 ?_;refine f_c 8 c3 ?_;refine fp 11 ?_;refine fp 12 ?_;refine fp 13 ?_;refine f_c 14 c4 ?_;refine fp 16 ?_;refine f_c 17 p2 ?_;refine fp 18 ?_;refine f_c 19 p4 ?_;refine fp 20 ?_;refine f_c 21 p5 ?_;refine fp 22 ?_;refine f_c 23 p6 ?_;clear c3 c4 p2 p4 p5 p6;refine w_4 4 25 (by kernel_rfl) ?_ ?_
  ·refine y_a 4 rfl (fun K Qx hK=>?_)
   go_simp;refine (sdead_any H0.o.s).mono ?_;rintro e w6 ⟨rfl,bF⟩;have bF:=bF.symm;subst bF;have gN:=H0;refine hK _ _ (oK (gN.o.p.cell 6) (oK (gN.o.p.cell 5) (oK (gN.o.p.cell 4) (oK (gN.o.p.cell 2) (oK (gN.o.v.cell 4) (oK (gN.o.v.cell 3) (oK (gN.o.v.cell 3) oN))))))) ?_;clear hK K;refine w_4 9 25 (by kernel_rfl) ?_ ?_
   ·refine y_a 9 rfl (fun K Qx hK=>?_)
    go_simp;refine (y_Y gN.o.s).mono ?_;rintro e w7 ⟨rfl,kT⟩;have gO:=Zz (gN.o.no kT);refine hK _ _ (oK (gO.o.p.cell 6) (oK (gO.o.p.cell 5) (oK (gO.o.p.cell 4) (oK (gO.o.p.cell 2) (oK (gO.o.v.cell 4) (oK (gO.o.v.cell 3) (oK (gO.o.v.cell 3) oN))))))) ?_;clear hK K;refine w_4 10 25 (by kernel_rfl) ?_ ?_
    ·refine y_a 10 rfl (fun K Qx hK=>?_)
     go_simp;refine (eS.o _ gO.o.l).mono ?_;rintro e w8 ⟨rfl,kT⟩;have gP:=Zz (gO.o.no kT);refine hK _ _ (oK (gP.o.p.cell 6) (oK (gP.o.p.cell 5) (oK (gP.o.p.cell 4) (oK (gP.o.p.cell 2) (oK (gP.o.v.cell 4) (oK (gP.o.v.cell 3) (oK (gP.o.v.cell 3) oN))))))) ?_;clear hK K;have aq:=fun ty=>gP.o.m.len y_7 ty;refine w_k 15 (fun W=>MapA KI W g (txM f) dom) rfl rfl (by kernel_rfl) (by kernel_rfl) gP.o.m (fun K hK=>?_);go_simp;refine hK _ (fun W hW=>by have aq:=fun ty=>hW.len y_7 ty;go_simp) ?_;clear hK K aq;refine fp 24 ?_;refine fd 25 fun K Qx hK=>?_;go_simp;have uE:=Zz (gP.o.no ((Kp.refl NoB w8).alloc (.cells #[.bool false,.bool false,.int .i64 0,.int .i64 0,.int .i64 0,.int .i64 0,.int .i64 0,.bool false,.slice none 0 0] 51)));have HN:=Zz (Blk.new w8 51 #[.bool false,.bool false,.int .i64 0,.int .i64 0,.int .i64 0,.int .i64 0,.int .i64 0,.bool false,.slice none 0 0]);have fV:Hid (w8.heap.size≠P2/\w.heap.size<=w8.heap.size):=Zz ⟨by have:=(gP.o.r).lt;omega,gP.o.k.size⟩;refine hK _ _ (oK uE.o.m (oK (uE.o.p.cell 6) (oK (uE.o.p.cell 5) (oK (uE.o.p.cell 4) (oK (uE.o.p.cell 2) (oK (uE.o.v.cell 4) (oK (uE.o.v.cell 3) (oK (uE.o.v.cell 3) oN)))))))) ?_;clear hK K;generalize w8.alloc (.cells #[.bool false,.bool false,.int .i64 0,.int .i64 0,.int .i64 0,.int .i64 0,.int .i64 0,.bool false,.slice none 0 0] 51)=wz at *;generalize w8.heap.size=P4 at *;refine x_P 26 rfl rfl (by kernel_rfl) 51 (.tmp 4) (.tmp 46) rfl P4 #[.bool true,.bool false,.int .i64 q1,.int .i64 (dom.length:Nat),.int .i64 S.data,.int .i64 0,.int .i64 0,.bool false,.slice none 0 0] rfl rfl 51 _ HN.o (by kernel_rfl) rfl (by simp[Value.oneCell']) ⟨(oW (oW (oW (oW (oW (oW (oW (oW oN)))))))),?_⟩;refine fe ?_;have kn:=Zz (HN.o.setRow (cs':=#[.bool true,.bool false,.int .i64 q1,.int .i64 (dom.length:Nat),.int .i64 S.data,.int .i64 0,.int .i64 0,.bool false,.slice none 0 0]));have ms:=Zz (uE.o.kpN HN.o (by have:=fV.o.2;have:=ee.o;omega) fV.o.1 fV.o.2 ((Kp.refl (fun q=>q=P4) _).setRow P4 #[.bool true,.bool false,.int .i64 q1,.int .i64 (dom.length:Nat),.int .i64 S.data,.int .i64 0,.int .i64 0,.bool false,.slice none 0 0] (.inl rfl)));go_wp2_with fail
     go_meet
     exact ⟨P4,rfl,Zz ⟨kn.o,fV.o.1,fV.o.2⟩,ms⟩
    ·refine y_a 25 rfl (fun K Qx hK=>?_)
     go_simp;have kr:=Zz (gO.o.no ((Kp.refl NoB w7).alloc (.cells #[.bool false,.bool false,.int .i64 0,.int .i64 0,.int .i64 0,.int .i64 0,.int .i64 0,.bool false,.slice none 0 0] 51)));have HN:=Zz (Blk.new w7 51 #[.bool false,.bool false,.int .i64 0,.int .i64 0,.int .i64 0,.int .i64 0,.int .i64 0,.bool false,.slice none 0 0]);have fV:Hid (w7.heap.size≠P2/\w.heap.size<=w7.heap.size):=Zz ⟨by have:=(gO.o.r).lt;omega,gO.o.k.size⟩;refine hK _ _ (oK (kr.o.p.cell 6) (oK (kr.o.p.cell 5) (oK (kr.o.p.cell 4) (oK (kr.o.p.cell 2) (oK (kr.o.v.cell 4) (oK (kr.o.v.cell 3) (oK (kr.o.v.cell 3) oN))))))) ?_;clear hK K;generalize w7.alloc (.cells #[.bool false,.bool false,.int .i64 0,.int .i64 0,.int .i64 0,.int .i64 0,.int .i64 0,.bool false,.slice none 0 0] 51)=w8 at *;generalize w7.heap.size=P4 at *;refine fd 10 fun K Qx hK=>?_;go_simp;refine (eS.o _ kr.o.l).mono ?_;rintro e w9 ⟨rfl,kT⟩;have bB:=Zz (kr.o.no kT);have HN:=Zz (HN.o.kp kT fun h=>h);refine hK _ _ (oK (bB.o.p.cell 6) (oK (bB.o.p.cell 5) (oK (bB.o.p.cell 4) (oK (bB.o.p.cell 2) (oK (bB.o.v.cell 4) (oK (bB.o.v.cell 3) (oK (bB.o.v.cell 3) oN))))))) ?_;clear hK K;have aq:=fun ty=>bB.o.m.len y_7 ty;refine w_k 15 (fun W=>MapA KI W g (txM f) dom) rfl rfl (by kernel_rfl) (by kernel_rfl) bB.o.m (fun K hK=>?_);go_simp;refine hK _ (fun W hW=>by have aq:=fun ty=>hW.len y_7 ty;go_simp) ?_;clear hK K aq;refine fp 24 ?_;refine x_P 26 rfl rfl (by kernel_rfl) 51 (.tmp 4) (.tmp 46) rfl P4 #[.bool true,.bool false,.int .i64 q1,.int .i64 (dom.length:Nat),.int .i64 S.data,.int .i64 0,.int .i64 0,.bool false,.slice none 0 0] rfl rfl 51 _ HN.o (by kernel_rfl) rfl (by simp[Value.oneCell']) ⟨(oW (oW (oW (oW (oW (oW (oW (oW oN)))))))),?_⟩;refine fe ?_;have kn:=Zz (HN.o.setRow (cs':=#[.bool true,.bool false,.int .i64 q1,.int .i64 (dom.length:Nat),.int .i64 S.data,.int .i64 0,.int .i64 0,.bool false,.slice none 0 0]));have ms:=Zz (bB.o.kpN HN.o (by have:=fV.o.2;have:=ee.o;omega) fV.o.1 fV.o.2 ((Kp.refl (fun q=>q=P4) _).setRow P4 #[.bool true,.bool false,.int .i64 q1,.int .i64 (dom.length:Nat),.int .i64 S.data,.int .i64 0,.int .i64 0,.bool false,.slice none 0 0] (.inl rfl)));go_wp2_with fail
     go_meet
     exact ⟨P4,rfl,Zz ⟨kn.o,fV.o.1,fV.o.2⟩,ms⟩
   ·refine y_a 25 rfl (fun K Qx hK=>?_)
    go_simp;have kt:=Zz (gN.o.no ((Kp.refl NoB w5).alloc (.cells #[.bool false,.bool false,.int .i64 0,.int .i64 0,.int .i64 0,.int .i64 0,.int .i64 0,.bool false,.slice none 0 0] 51)));have HN:=Zz (Blk.new w5 51 #[.bool false,.bool false,.int .i64 0,.int .i64 0,.int .i64 0,.int .i64 0,.int .i64 0,.bool false,.slice none 0 0]);have fV:Hid (w5.heap.size≠P2/\w.heap.size<=w5.heap.size):=Zz ⟨by have:=(gN.o.r).lt;omega,gN.o.k.size⟩;refine hK _ _ (oK (kt.o.p.cell 6) (oK (kt.o.p.cell 5) (oK (kt.o.p.cell 4) (oK (kt.o.p.cell 2) (oK (kt.o.v.cell 4) (oK (kt.o.v.cell 3) (oK (kt.o.v.cell 3) oN))))))) ?_;clear hK K;generalize w5.alloc (.cells #[.bool false,.bool false,.int .i64 0,.int .i64 0,.int .i64 0,.int .i64 0,.int .i64 0,.bool false,.slice none 0 0] 51)=w7 at *;generalize w5.heap.size=P4 at *;refine fd 9 fun K Qx hK=>?_;go_simp;refine (y_Y kt.o.s).mono ?_;rintro e w8 ⟨rfl,kT⟩;have cz:=Zz (kt.o.no kT);have HN:=Zz (HN.o.kp kT fun h=>h);refine hK _ _ (oK (cz.o.p.cell 6) (oK (cz.o.p.cell 5) (oK (cz.o.p.cell 4) (oK (cz.o.p.cell 2) (oK (cz.o.v.cell 4) (oK (cz.o.v.cell 3) (oK (cz.o.v.cell 3) oN))))))) ?_;clear hK K;refine fd 10 fun K Qx hK=>?_;go_simp;refine (eS.o _ cz.o.l).mono ?_;rintro e w9 ⟨rfl,kT⟩;have bB:=Zz (cz.o.no kT);have HN:=Zz (HN.o.kp kT fun h=>h);refine hK _ _ (oK (bB.o.p.cell 6) (oK (bB.o.p.cell 5) (oK (bB.o.p.cell 4) (oK (bB.o.p.cell 2) (oK (bB.o.v.cell 4) (oK (bB.o.v.cell 3) (oK (bB.o.v.cell 3) oN))))))) ?_;clear hK K;have aq:=fun ty=>bB.o.m.len y_7 ty;refine w_k 15 (fun W=>MapA KI W g (txM f) dom) rfl rfl (by kernel_rfl) (by kernel_rfl) bB.o.m (fun K hK=>?_);go_simp;refine hK _ (fun W hW=>by have aq:=fun ty=>hW.len y_7 ty;go_simp) ?_;clear hK K aq;refine fp 24 ?_;refine x_P 26 rfl rfl (by kernel_rfl) 51 (.tmp 4) (.tmp 46) rfl P4 #[.bool true,.bool false,.int .i64 q1,.int .i64 (dom.length:Nat),.int .i64 S.data,.int .i64 0,.int .i64 0,.bool false,.slice none 0 0] rfl rfl 51 _ HN.o (by kernel_rfl) rfl (by simp[Value.oneCell']) ⟨(oW (oW (oW (oW (oW (oW (oW (oW oN)))))))),?_⟩;refine fe ?_;have kn:=Zz (HN.o.setRow (cs':=#[.bool true,.bool false,.int .i64 q1,.int .i64 (dom.length:Nat),.int .i64 S.data,.int .i64 0,.int .i64 0,.bool false,.slice none 0 0]));have ms:=Zz (bB.o.kpN HN.o (by have:=fV.o.2;have:=ee.o;omega) fV.o.1 fV.o.2 ((Kp.refl (fun q=>q=P4) _).setRow P4 #[.bool true,.bool false,.int .i64 q1,.int .i64 (dom.length:Nat),.int .i64 S.data,.int .i64 0,.int .i64 0,.bool false,.slice none 0 0] (.inl rfl)))
    go_wp2_with fail
    go_meet
    exact ⟨P4,rfl,Zz ⟨kn.o,fV.o.1,fV.o.2⟩,ms⟩
  ·refine y_a 25 rfl (fun K Qx hK=>?_)
   go_simp;have ku:=Zz (H0.o.no ((Kp.refl NoB w5).alloc (.cells #[.bool false,.bool false,.int .i64 0,.int .i64 0,.int .i64 0,.int .i64 0,.int .i64 0,.bool false,.slice none 0 0] 51)));have HN:=Zz (Blk.new w5 51 #[.bool false,.bool false,.int .i64 0,.int .i64 0,.int .i64 0,.int .i64 0,.int .i64 0,.bool false,.slice none 0 0]);have fV:Hid (w5.heap.size≠P2/\w.heap.size<=w5.heap.size):=Zz ⟨by have:=(H0.o.r).lt;omega,H0.o.k.size⟩;refine hK _ _ (oK (ku.o.p.cell 6) (oK (ku.o.p.cell 5) (oK (ku.o.p.cell 4) (oK (ku.o.p.cell 2) (oK (ku.o.v.cell 4) (oK (ku.o.v.cell 3) (oK (ku.o.v.cell 3) oN))))))) ?_;clear hK K;generalize w5.alloc (.cells #[.bool false,.bool false,.int .i64 0,.int .i64 0,.int .i64 0,.int .i64 0,.int .i64 0,.bool false,.slice none 0 0] 51)=w6 at *;generalize w5.heap.size=P4 at *;refine fd 4 fun K Qx hK=>?_;go_simp;refine (sdead_any ku.o.s).mono ?_;rintro e w7 ⟨rfl,bF⟩;have bF:=bF.symm;subst bF;have kw:=ku;refine hK _ _ (oK (kw.o.p.cell 6) (oK (kw.o.p.cell 5) (oK (kw.o.p.cell 4) (oK (kw.o.p.cell 2) (oK (kw.o.v.cell 4) (oK (kw.o.v.cell 3) (oK (kw.o.v.cell 3) oN))))))) ?_;clear hK K;refine fd 9 fun K Qx hK=>?_;go_simp;refine (y_Y kw.o.s).mono ?_;rintro e w8 ⟨rfl,kT⟩;have cz:=Zz (kw.o.no kT);have HN:=Zz (HN.o.kp kT fun h=>h);refine hK _ _ (oK (cz.o.p.cell 6) (oK (cz.o.p.cell 5) (oK (cz.o.p.cell 4) (oK (cz.o.p.cell 2) (oK (cz.o.v.cell 4) (oK (cz.o.v.cell 3) (oK (cz.o.v.cell 3) oN))))))) ?_;clear hK K;refine fd 10 fun K Qx hK=>?_;go_simp;refine (eS.o _ cz.o.l).mono ?_;rintro e w9 ⟨rfl,kT⟩;have bB:=Zz (cz.o.no kT);have HN:=Zz (HN.o.kp kT fun h=>h);refine hK _ _ (oK (bB.o.p.cell 6) (oK (bB.o.p.cell 5) (oK (bB.o.p.cell 4) (oK (bB.o.p.cell 2) (oK (bB.o.v.cell 4) (oK (bB.o.v.cell 3) (oK (bB.o.v.cell 3) oN))))))) ?_;clear hK K;have aq:=fun ty=>bB.o.m.len y_7 ty;refine w_k 15 (fun W=>MapA KI W g (txM f) dom) rfl rfl (by kernel_rfl) (by kernel_rfl) bB.o.m (fun K hK=>?_);go_simp;refine hK _ (fun W hW=>by have aq:=fun ty=>hW.len y_7 ty;go_simp) ?_;clear hK K aq;refine fp 24 ?_;refine x_P 26 rfl rfl (by kernel_rfl) 51 (.tmp 4) (.tmp 46) rfl P4 #[.bool true,.bool false,.int .i64 q1,.int .i64 (dom.length:Nat),.int .i64 S.data,.int .i64 0,.int .i64 0,.bool false,.slice none 0 0] rfl rfl 51 _ HN.o (by kernel_rfl) rfl (by simp[Value.oneCell']) ⟨(oW (oW (oW (oW (oW (oW (oW (oW oN)))))))),?_⟩
   refine fe ?_;have kn:=Zz (HN.o.setRow (cs':=#[.bool true,.bool false,.int .i64 q1,.int .i64 (dom.length:Nat),.int .i64 S.data,.int .i64 0,.int .i64 0,.bool false,.slice none 0 0]));have ms:=Zz (bB.o.kpN HN.o (by have:=fV.o.2;have:=ee.o;omega) fV.o.1 fV.o.2 ((Kp.refl (fun q=>q=P4) _).setRow P4 #[.bool true,.bool false,.int .i64 q1,.int .i64 (dom.length:Nat),.int .i64 S.data,.int .i64 0,.int .i64 0,.bool false,.slice none 0 0] (.inl rfl)));go_wp2_with fail
   go_meet
   exact ⟨P4,rfl,Zz ⟨kn.o,fV.o.1,fV.o.2⟩,ms⟩
 case rest =>
  obtain ⟨P4,rfl,HN,HX⟩:=hcut;obtain ⟨rb,lJ,lB,_,_⟩:=y_u HX.o.o.mems g9.o;injection lB with mE lu DO;subst mE DO;have sa:Hid (Kp (fun q=>q=P4) wc wc):=Zz (Kp.refl _ _);have dD:Hid (P4≠P2/\w.heap.size<=P4/\6<=P4):=Zz ⟨HN.o.2.1,HN.o.2.2,by have:=HN.o.2.2;have:=ee.o;omega⟩
  have sf:Hid (rb<wc.heap.size/\rb≠P4):=Zz (by
   obtain ⟨dq,am⟩:=z_i HX.o.o.mems (q:=rb) rfl
   exact ⟨am.lt,Blk.ne_ am HN.o.1 (by decide)⟩)
  have GH:Hid (∀i (h:i<S.mem.length),wc.cell? ⟨rb,i*3,none⟩=some (.int .i64 ((S.mem[i]'h).st:Int))/\wc.cell? ⟨rb,i*3+1,none⟩=some (.string (S.mem[i]'h).top)/\wc.cell? ⟨rb,i*3+2,none⟩=some (.string (S.mem[i]'h).log)):=Zz fun i h=>by
   have h1:=x_p S.mem i h;exact ⟨(z_O HX.o.o.mems (i*3) (by omega)).trans h1.1,(z_O HX.o.o.mems (i*3+1) (by omega)).trans h1.2.1,(z_O HX.o.o.mems (i*3+2) (by omega)).trans h1.2.2⟩
  have p8:=HX.o.p.c8;have kL:Hid (Own wc wc.heap.size 106 (.slice none 0 0) []):=Zz (Own.nil_ wc wc.heap.size 106);have qG:=Zz HN.o.1;have iL:=Zz HN.o.1.lt;obtain ⟨m,hm⟩:∃m,S.mem.length=m:=⟨_,rfl⟩;have HM:=Zz hm;rw[hm] at p8 dy;clear HN hm
  go_upto_region 6 with fail
  clear p8
  go_loopw [6,50] (fun _ s50 wr=>∃(i:Nat) (u:Value) (xs:List Value),i<=m/\s50=.int .i64 i/\Hid (Blk wr P4 51 #[.bool true,.bool false,.int .i64 q1,.int .i64 (dom.length:Nat),.int .i64 S.data,.int .i64 0,.int .i64 0,.bool false,u])/\Hid (Own wr wc.heap.size 106 u xs)/\Hid (xs.length=i)/\Hid (Kp (fun q=>q=P4) wc wr)) (fun _ s50 _=>m-(intOf s50).toNat)
  case atStart=>exact ⟨0,_,[],by omega,rfl,qG,kL,Zz rfl,sa⟩
  case round =>
   clear qG kL sa;obtain ⟨i,u,xs,hi,rfl,HN,HO,JH,HK⟩:=hrel;by_cases af:i<m
   ·have bV:(i:Int)<(m:Int):=by omega
    have Z4:i<S.mem.length:=by rw[HM.o];exact af
    obtain ⟨z0,z1,z2⟩:=GH.o i Z4;have sE:∀a:Addr,a.block=rb->wr.cell? a=wc.cell? a:=fun a ha=>x_b (by rw[ha];exact HK.o.block rb sf.o.1 sf.o.2);have k0:=(sE ⟨rb,i*3,none⟩ rfl).trans z0;have k1:=(sE ⟨rb,i*3+1,none⟩ rfl).trans z1;have k2:=(sE ⟨rb,i*3+2,none⟩ rfl).trans z2;generalize (S.mem[i]'Z4).st=a at *;generalize (S.mem[i]'Z4).top=tp at *;generalize (S.mem[i]'Z4).log=lg at *;have cN:=Zz (Blk.new wr 108 #[.int .i64 a,.string tp,.string lg]);have aE:=(Kp.refl NoB wr).alloc (.cells #[.int .i64 a,.string tp,.string lg] 108);have od:=Zz (HN.o.kp aE fun h=>h);have iY:=Zz (HO.o.kp aE fun _ _ h=>h);have bn:=Zz (HK.o.trans (aE.mono fun _ _ h=>h.elim));clear z0 z1 z2 sE aE HN HO HK
    go_upto_region 8 with fail
    clear k0 k1 k2;generalize wr.alloc (.cells #[.int .i64 a,.string tp,.string lg] 108)=w6 at *;generalize wr.heap.size=D at *;have d0:=cN.o.c0;have n8:=od.o.c8;have aP:wc.heap.size<=w6.heap.size:=bn.o.size;have ii:=JH.o
    go_upto_region 9 with (at_builtin;refine x_d (w0:=w6) wc.heap.size rfl (.tmp 55) (.tmp 58) 49 106 (.int .i64 0) 8 rfl underlying49 infoST rfl (by decide) u xs (.int .i64 a) rfl rfl rfl iY.o ((Below.refl _ _).mono aP) aP (by omega) ?_;intro v1 w9 hO hB hg br;obtain ⟨A7,c7,rfl⟩:∃A c,v1=.slice A (i+1) c:=(by obtain ⟨A,c,e⟩:=hO.shape;exact ⟨A,c,by rw[e,q_b,q_x,ii]⟩);have p7:w9.cell? ⟨P4,8,none⟩=some u:=(od.o.grown hg (fun e=>z_7 iY.o od.o (by decide) e)).cell 8;have f7:=(od.o.grown hg (fun e=>z_7 iY.o od.o (by decide) e)).frozen 8;have cT:=Zz hO;have eE:=Zz hg;clear hO hg br hB)
    have aC:Kp (fun q=>some q=u.ownBlock) w6 w9:=Kp.of_grown eE.o fun _ h=>h;have PG:=od.o.kp aC (z_7 iY.o od.o (by decide));have dS:=(Kp.refl (fun q=>q=P4) w9).setCell ⟨P4,8,none⟩ (.slice A7 (i+1) c7) (.inl rfl);have kn:=Zz (PG.set_ 8 (.slice A7 (i+1) c7));have jD:=Zz (cT.o.kp dS (z_W cT.o PG (by decide)));have eY:=Zz ((bn.o.then aC fun q hq h=>by have:=(z_u iY.o h.symm).1;omega).trans dS);have Nw:Hid ((xs++[(.int .i64 a:Value)]).length=i+1):=Zz (by rw[q_b,q_x,ii]);clear aC PG dS d0 n8 p7 f7 cT eE ii;generalize w9.setCell ⟨P4,8,none⟩ (.slice A7 (i+1) c7)=bO at *;go_wp2;go_roundw
    case rel=>exact ⟨i+1,_,_,by omega,by go_num,kn,jD,Nw,eY⟩
    case measure=>simp[intOf];omega
   ·obtain rfl:i=m:=by omega
    obtain ⟨A8,c8,rfl⟩:=z_r HO.o;have HR:=Zz (HX.o.r.kp HK.o fun e=>dD.o.1 e.symm);have fB:Hid (Kp NoB w wr):=Zz (HX.o.k.then HK.o fun q hq e=>by have e:q=P4:=e;have:=dD.o.2.1;omega);have n0:=HN.o.c0;have n1:=HN.o.c1;have n2:=HN.o.c2;have n3:=HN.o.c3;have n4:=HN.o.c4;have n5:=HN.o.c5;have n6:=HN.o.c6;have n7:=HN.o.c7;have n8:=HN.o.c8
    go_wp2_with (refine wpList_store_row rfl 51 (.tmp 2) (.tmp 62) rfl P2 _ rfl rfl 51 _ HR.o (by kernel_rfl) rfl (by simp[Value.oneCell']) ?_)
    have hZ:=HR.o.setRow (cs':=#[.bool true,.bool false,.int .i64 q1,.int .i64 (dom.length:Nat),.int .i64 S.data,.int .i64 0,.int .i64 0,.bool false,.slice A8 xs.length c8]);have hk:=(Kp.refl (fun q=>q=P2) wr).setRow P2 #[.bool true,.bool false,.int .i64 q1,.int .i64 (dom.length:Nat),.int .i64 S.data,.int .i64 0,.int .i64 0,.bool false,.slice A8 xs.length c8] (.inl rfl);refine bodyPost_ret (x_f rfl rfl hZ underlying51 rfl (by kernel_rfl)) rfl ?_;exact ⟨_,_,_,rfl,fB.o.then hk fun q hq e=>(by have e:q=P2:=e;have:=ee.o;omega:False)⟩
end
def mcC (b v g:Nat) (kept:Value):Array Value:=#[.pointer (some ⟨b,0,none⟩),.pointer (some ⟨v,0,none⟩),kept,.map (some g)]
section
variable {w:World} {p b v g:Nat} {kept:Value}
theorem mvolume_any (h:Blk w p 81 (mcC b v g kept)) :
  Cl 10 #[.pointer (some ⟨p,0,none⟩)] w fun e w'=>e=.returned (.pointer (some ⟨v,0,none⟩))/\w'=w:=by
 have c1:=h.c1;clear h;go_enter func10,ntmps10;go_wp2;go_ret;exact ⟨rfl,rfl⟩
end
section
variable {w:World} {p b n v g G c:Nat} {st:Int} {kept:Value} {σ:Nat->DkS} {A:Nat->Nat} {Φ:Nat->Nat->Prop} {F:Nat->Prop} {f:Nat->Option Value} {dom:List Nat}
theorem mdisk_any (h:Blk w p 81 (mcC b v g kept)) (h0:Bk0 w b n σ G c st A Φ) (i:Nat) (hi:i<n) :
  Cl 31 #[.pointer (some ⟨p,0,none⟩),.int .i64 i] w fun e w'=>e=.returned (.tuple #[.pointer (some ⟨A i,0,none⟩),.int .i64 0])/\w'=w:=by
 have c0:=h.c0;have HD:=Zz (v_f h0 i hi);clear h h0;go_enter func31,ntmps31;go_wp2_with fail;refine HD.o.mono ?_;rintro e w2 ⟨rfl,rfl⟩;go_wp2;go_ret2;exact ⟨rfl,rfl⟩
theorem mkill_any (h:Blk w p 81 (mcC b v g kept)) (hb:Bk w b n σ F) (i:Nat) (hi:i<n) (sD:i<=1000) (hM:MapA KI w g f dom) (hd:dom.length<1000) :
  Cl 9 #[.pointer (some ⟨p,0,none⟩),.int .i64 i] w fun e w'=>e=.returned (.int .i64 0)/\MapA KI w' g (y_Q f i (.bool true)) (z_J dom i)/\∃F',Gr w F F'/\Bk w' b n (z_A σ i (σ i).fail) F'/\Kp (fun q=>F q\/q=g) w w':=by
 have C3:=Zz (hb.off h (by unfold tyB;decide));have BK:=Zz (hb.offMap hM);obtain ⟨G,c,st,A,Φ,h0,hF⟩:=hb;have HD:=Zz (mdisk_any h h0 i hi);have HF:=Zz hF;have HX:=Zz (dkfail_any (h0.dk i hi));have H1:=Zz h0;have HP:=Zz h;have HM:=Zz hM;have oV:=Zz hd;clear h h0 hF hM hd;go_enter func9,ntmps9;go_wp2_with fail;refine HD.o.mono ?_;rintro e w2 ⟨rfl,rfl⟩;go_wp2_with fail;refine HX.o.mono ?_;rintro e w3 ⟨rfl,Φ',hg,o6,hk⟩;have JK:Kp F w2 w3:=hk.mono fun q _ hq=>(HF.o q).2 (Bk0.sub hi q hq)
 have bm:∃F',Gr w2 F F'/\Bk w3 b n (z_A σ i (σ i).fail) F' :=
  ⟨_,fun q hq hf=>(HF.o q).2 (H1.o.gr hi hg q hq hf),⟨G,c,st,A,_,H1.o.step hi hg o6 hk,fun _=>Iff.rfl⟩⟩
 have pd:=HM.o.kp JK BK.o;have Dz:=HP.o.kp JK C3.o;have c3:=Dz.c3;obtain ⟨w4,gS,Bv,aw⟩:=pd.put kd3 mapIB (by have:=oV.o;simp only[maxLen];omega) (a:=i) (show i<=100000 by omega) (.bool true);replace gS:(Instr.mapUpdate 35 (.map (some g)) (.int .i64 i) (.bool true)).run prog w3=.ok () w4:=gS
 have HR:Hid (MapA KI w4 g (y_Q f i (.bool true)) (z_J dom i)/\∃F',Gr w2 F F'/\Bk w4 b n (z_A σ i (σ i).fail) F'/\Kp (fun q=>F q\/q=g) w2 w4):=Zz (by
  obtain ⟨F',h1,h2⟩:=bm;refine ⟨Bv,F',h1,h2.kp aw fun q hq hf=>?_,(JK.mono fun _ _ h=>.inl h).trans (aw.mono fun _ _ h=>.inr h)⟩;have e:q=g:=hq;subst e
  exact h2.offMap pd hf)
 clear hg o6 hk JK bm pd Dz Bv aw;go_wp2;go_ret;exact ⟨rfl,HR.o⟩
end
theorem mnew_any (w:World) (n:Nat) (key:List UInt8) (hw:10<=w.heap.size) (hn:1<=n/\n<=12) :
  Cl 26 #[.int .i64 n,.string (bs key)] w fun e w'=>∃p b an v g F,e=.returned (.pointer (some ⟨p,0,none⟩))/\Blk w' p 81 (mcC b v g (.slice none 0 0))/\Blk w' v 88 (vlC b an key none none)/\Blk w' an 180 #[.int .u64 0,.string (bs [])]/\MapA KI w' g (fun _=>none) []/\Bk w' b n (fun _=>dk0) F/\(∀q,F q->w.heap.size<=q)/\w.heap.size<=p/\w.heap.size<=an/\w.heap.size<=v/\w.heap.size<=g/\Kp NoB w w':=by
 have HB:=Zz (bnew_any w n hw hn);have HA:=Zz anew_any;have HV:=Zz vnew_any;have lB:=@run_makeMap prog;clear hw;go_enter func26,ntmps26;go_wp2_with fail;refine HB.o.mono ?_;rintro e w1 ⟨b,F,rfl,hb,hF,aX⟩;have bh:=Zz hb;have HF:=Zz hF;have aW:=Zz aX;clear hb hF aX;go_wp2_with fail;refine (HA.o w1).mono ?_;rintro e w2 ⟨rfl,ha,ag⟩;have nY:=Zz ha;have al:=Zz ag;clear ha ag;go_wp2_with fail;refine (HV.o w2 b w1.heap.size key).mono ?_;rintro e w3 ⟨rfl,hv,au⟩;have aG:=((Kp.refl NoB w3).alloc (.map #[] 0)).alloc (.cells (mcC b w2.heap.size w3.heap.size (.slice none 0 0)) 81)
 have ey:Blk ((w3.alloc (.map #[] 0)).alloc (.cells (mcC b w2.heap.size w3.heap.size (.slice none 0 0)) 81)) (w3.heap.size+1) 81 (mcC b w2.heap.size w3.heap.size (.slice none 0 0)):=by
  have:=Blk.new (w3.alloc (.map #[] 0)) 81 (mcC b w2.heap.size w3.heap.size (.slice none 0 0))
  rwa [World.size_alloc] at this
 have z1:=aW.o.size;have z2:=al.o.size;have z3:=au.size
 have HR:Hid (Blk ((w3.alloc (.map #[] 0)).alloc (.cells (mcC b w2.heap.size w3.heap.size (.slice none 0 0)) 81)) (w3.heap.size+1) 81 (mcC b w2.heap.size w3.heap.size (.slice none 0 0))/\Blk ((w3.alloc (.map #[] 0)).alloc (.cells (mcC b w2.heap.size w3.heap.size (.slice none 0 0)) 81)) w2.heap.size 88 (vlC b w1.heap.size key none none)/\Blk ((w3.alloc (.map #[] 0)).alloc (.cells (mcC b w2.heap.size w3.heap.size (.slice none 0 0)) 81)) w1.heap.size 180 #[.int .u64 0,.string (bs [])]/\MapA KI ((w3.alloc (.map #[] 0)).alloc (.cells (mcC b w2.heap.size w3.heap.size (.slice none 0 0)) 81)) w3.heap.size (fun _=>none) []/\Bk ((w3.alloc (.map #[] 0)).alloc (.cells (mcC b w2.heap.size w3.heap.size (.slice none 0 0)) 81)) b n (fun _=>dk0) F/\(∀q,F q->w.heap.size<=q)/\w.heap.size<=w3.heap.size+1/\w.heap.size<=w1.heap.size/\w.heap.size<=w2.heap.size/\w.heap.size<=w3.heap.size/\Kp NoB w ((w3.alloc (.map #[] 0)).alloc (.cells (mcC b w2.heap.size w3.heap.size (.slice none 0 0)) 81))):=Zz
  ⟨ey,hv.kp aG fun h=>h,(nY.o.kp au fun h=>h).kp aG fun h=>h,(MapA.made w3).alloc _,((bh.o.no al.o).no au).no aG,HF.o,by omega,by omega,by omega,by omega,((aW.o.trans al.o).trans au).trans aG⟩
 clear hv au aG ey z1 z2 z3;go_wp2;go_ret;exact ⟨_,b,_,_,_,F,rfl,HR.o⟩
end Go.Proofs.YtdkheklakfbeeaaGreatDoor
section
open Go.Proofs.Tryz
namespace Go.Proofs
open Go.RowKit Go.Maps Go.Sort Go.Shelf
theorem Tryz.susp0 {H:Type} (p b nn:Nat) (D0:DataW H) (R:Value->Option (DataW H × List MemPlace)) (w:World) (hown:w.ownsMap prog 3 R b nn D0) (hmax:Maps.size D0<=maxLen) (hbytes:Maps.size D0*8<=140737488355328) (c3:w.cell? ⟨p,3,none⟩=some (.map (some b))) :
  Calls prog 30 #[.pointer (some ⟨p,0,none⟩)] w fun e w'=>∃(v:Value) (ss:List Int),e=.returned v/\ss.Perm (intKeys D0) /\
   w'.ownsRow w.heap.size 3 1 v ss.length ((ss.mergeSort (fun x y=>decide (x<=y))).map encZ)/\(v=.slice none 0 0↔ss=[])/\Below w.heap.size w w':=by
 refine (callsIn_wide (n:=6)).1 ?_;have hbl:=hown.lt
 have hseq:SeqGives Fence.wide 2 prog 98 #[.pointer (some ⟨w.heap.size,0,none⟩)] encZ (fun ss=>ss.Perm (intKeys D0)) (Maps.size D0) (w.alloc (.cells #[.map (some b)] 35)) :=
  AnyZI.keys_gives (ρ:=Tryz.keysB_ren) { Tryz.keysB with } Fence.wide _ trivial rfl (by omega) w.heap.size b nn D0 _ (by simp) (by simp) (by
   obtain ⟨es,clock,hb,Ft,hs,hD⟩:=hown
   exact ⟨es,clock,(Below.heap_alloc _ _ b hbl).trans hb,Ft,hs,hD⟩)
 have cK:∀mb W,CallsIn Fence.wide 5 prog 57 #[.map mb] W fun e w'=>e=.returned (.func (.func 98) #[] #[.pointer (some ⟨W.heap.size,0,none⟩)])/\w'=W.alloc (.cells #[.map mb] 35):=fun mb W=>AnyZI.keys_in Tryz.keysB Fence.wide 5 trivial rfl mb W;have cS:=AnyZI.sorted_in Tryz.sortedA Fence.wide 5 trivial trivial trivial trivial rfl (by omega) (Tryz.sortsA _) (enters_of func97 (by kernel_rfl) rfl) 98 #[.pointer (some ⟨w.heap.size,0,none⟩)] trivial (enters_of func98 (by kernel_rfl) rfl) _ _ hmax hbytes _ hseq;change CallsIn _ _ prog 56 _ _ _ at cS;have hfK:Fence.wide.fn 57:=trivial;have hfS:Fence.wide.fn 56:=trivial;refine callsIn_of_wp func30 rfl trivial ?_ rfl;simp only[ntmps30,List.size_toArray,List.length_cons,List.length_nil,Nat.reduceAdd,Nat.reduceSub,Array.replicate_succ,Array.replicate_zero,List.push_toArray,List.append_toArray,List.nil_append,List.cons_append]
 gi_wp2_with (first
  | (gi_at_call 57;refine (cK _ _).mono ?_;rintro e w' ⟨rfl,rfl⟩)
  | (gi_at_call 56;refine cS.mono ?_;rintro e w' ⟨v,ss,rfl,hS,hrow,hnil,hb⟩))
 go_ret;exact ⟨v,ss,rfl,hS,ownsRow_base_a hrow (by simp),hnil,((Below.refl _ w).alloc (Nat.le_refl _) _).trans (hb.mono (by simp))⟩
end Go.Proofs
end
namespace Go.Proofs.YtdkheklakfbeeaaGreatDoor
open Go.RowKit Go.Proofs.Tryz
section
variable {w:World} {p b v g:Nat} {kept:Value} {f:Nat->Option Value} {dom:List Nat}
theorem msuspects_any (h:Blk w p 81 (mcC b v g kept)) (hM:MapA KI w g f dom) (hl:dom.length<=1000) :
  Cl 30 #[.pointer (some ⟨p,0,none⟩)] w fun e w'=>∃u,e=.returned u/\Own w' w.heap.size 3 u (zv (srt dom))/\Kp NoB w w':=by
 obtain ⟨D,h1,h2,h3⟩:=hM.keys;refine (Tryz.susp0 p g _ D HR w h1 (by rw[h2];simp only[maxLen];omega) (by rw[h2];omega) (h.cell 3)).mono ?_;rintro e w' ⟨u,ss,rfl,hp,ae,_,hb⟩;have hs:=srt_int dom ss (hp.trans h3)
 have cY:ss.length=(zv (srt dom)).length:=by rw[z_w,w_P,(hp.trans h3).length_eq,q_i]
 refine ⟨u,rfl,?_,Kp.of_below hb NoB⟩;rw[hs,List.map_map,cY] at ae;exact ae
end
theorem tl_rep (n k:Nat):tl (List.replicate n ByteArray.empty) k=ByteArray.empty:=by
 unfold tl;rw[q_a,List.getElem?_replicate];split<;>rfl
theorem v_4 (s:Nat) (x:Wr) (h:x∈y_N s):(∃q,q<s-1/\x.at'=101+q/\x.cell=prT s ch0 (q+1))\/∃t,t<s/\x.at'=120+t/\x.cell=bs []:=by
 unfold y_N y_8 at h;rcases List.mem_append.1 h with h|h
 ·obtain ⟨q,hq,rfl⟩:=List.mem_map.1 h
  exact .inl ⟨q,List.mem_range.1 hq,rfl,rfl⟩
 ·obtain ⟨q,hq,rfl⟩:=List.mem_map.1 h
  exact .inr ⟨q,List.mem_range.1 hq,rfl,rfl⟩
theorem zero_par:∀d∈[2,3,4],pp (List.replicate d (bs z_M)) 32 d=z_M/\qq (List.replicate d (bs z_M)) 32 d=z_M:=by decide +kernel
theorem stp_zero (d t:Nat):stp d (fun _=>bs z_M) t=List.replicate d (bs z_M):=by
 unfold stp;rw[List.map_const',q_H]
theorem allC_zero {d:Nat} (h2:2<=d) (h4:d<=4) (t c:Nat) (hc:c<d+2):tl (z_z (stp d (fun _=>bs z_M) t)) c=bs z_M:=by
 have hs:Siz (stp d (fun _=>bs z_M) t) 32:=fun j hj=>by
  rw[w_o] at hj;rw[stp_at _ _ _ _ hj];rfl
 have hl:=w_o d (fun _=>bs z_M) t;have hP:=hs.enP (by omega) (by omega) (by omega);have hQ:=hs.enQ (by omega) (by omega) (by omega);rw[hl,stp_zero] at hP hQ;obtain ⟨z1,z2⟩:=zero_par d (by simp;omega);unfold z_z;rw[v_S,hl];by_cases h:c<d
 ·rw[if_pos h,stp_at _ _ _ _ h]
 ·rw[if_neg h,stp_zero,hP,hQ,z1,z2]
  rcases (show c-d=0\/c-d=1 by omega) with e|e<;>rw[e]<;>rfl
theorem sup0_stA (d s n i:Nat):stA (y_g d s n) i=if i<n/\i<d+2 then 1 else 0:=by
 unfold stA y_g y_4;rw[q_j];by_cases h:i<n
 ·rw[q_n h]
  by_cases h2:i<d+2
  ·simp[h,h2]
  ·simp[h2]
 ·rw[q_q (by rw[q_H];omega)]
  simp[h]
theorem VOk.format {d s n:Nat} (key:List UInt8) (h2:2<=d) (h4:d<=4) (hs:sl s) (hn:d+2<=n) (kM:n<=12) :
  VOk n key (y_g d s n) (z_R (z_V d s n) 1 (bs (z_t (y_g d s n))) n) (fun _=>ch0) (fun _=>bs z_M)/\LOk (y_g d s n) (z_R (z_V d s n) 1 (bs (z_t (y_g d s n))) n) (fun _=>none)/\(∀i,(z_R (z_V d s n) 1 (bs (z_t (y_g d s n))) n i).dead=false)/\∀i,i<n->tl (z_R (z_V d s n) 1 (bs (z_t (y_g d s n))) n i).now 0=bs []:=by
 have jw:s<=4:=by rcases hs with rfl|rfl<;>decide
 have cV:∀i,(z_R (z_V d s n) 1 (bs (z_t (y_g d s n))) n i).dead=false:=fun i=>by rw[w_l];exact w_z d s n i
 have ay:∀i,bad (y_g d s n) (z_R (z_V d s n) 1 (bs (z_t (y_g d s n))) n) i=false->i<n/\i<d+2:=fun i hb=>by
  have h1:=(bad_no.1 hb).1;rw[sup0_stA] at h1;split at h1
  ·rename_i h;exact h
  ·cases h1
 generalize rQ:bs (z_t (y_g d s n))=rc at *;have e1:∀i,i<n->z_R (z_V d s n) 1 rc n i=((z_V d s n i).write 1 rc).flush:=fun i hi=>if_pos hi;have e2:∀i,i<n->i<d+2->z_V d s n i=(dk0.wrs (y_N s)).flush:=fun i hi hd=>if_pos ⟨hi,hd⟩
 have aq:∀i,(z_V d s n i).now.length=140:=fun i=>by
  unfold z_V;split
  ·rw[DkS.flush_now,DkS.wrs_len];rfl
  ·rfl
 have aa:∀i,i<n->∀k,k≠1->tl (z_R (z_V d s n) 1 rc n i).now k=tl (z_V d s n i).now k:=fun i hi k hk=>by
  rw[e1 i hi,DkS.flush_now,DkS.write_off _ _ _ _ (Ne.symm hk)]
 have g8:∀i,i<n->∀k,k<100->tl (z_V d s n i).now k=bs []:=fun i hi k hk=>by
  unfold z_V;split
  ·rw[DkS.flush_now,DkS.wrs_off]
   ·exact tl_rep 140 k
   ·intro x hx
    rcases v_4 s x hx with ⟨q,_,e,_⟩|⟨q,_,e,_⟩<;>omega
  ·exact tl_rep 140 k
 have bI:=sup0_ok h2 h4 hs hn kM;refine ⟨⟨bI,x_R d s n,fun i hi=>?_,fun i hb=>?_,fun i hb q js jt=>?_,fun i hb t ht=>?_,fun j t=>?_,fun t ht c hc hb=>?_,fun k _=>rfl,fun i hi _=>?_⟩,fun i hb=>?_,cV,fun i hi=>?_⟩
 ·rw[e1 i hi]
  refine DkS.Whole.flush (by rw[DkS.write_len];exact aq i) fun hd=>?_;rw[DkS.write_dead,w_z] at hd;cases hd
 ·obtain ⟨h1,h3⟩:=ay i hb
  have hm:i<(y_g d s n).mem.length:=by rw[show (y_g d s n).mem.length=n from x_R d s n];exact h1
  rw[topA_at hm];show ((y_4 d s n)[i]'hm).top=_;simp[y_4,h3];rfl
 ·obtain ⟨h1,h3⟩:=ay i hb
  have jt:q<s:=jt;rw[aa i h1 _ (by omega),e2 i h1 h3,DkS.flush_now];refine DkS.wrs_at (·=prT s ch0 q) _ _ _ rfl (by show 100+q<140;omega) (fun x hx e=>?_) (.inr ⟨⟨101+(q-1),prT s ch0 (q-1+1)⟩,?_,by show 101+(q-1)=100+q;omega⟩)
  ·rcases v_4 s x hx with ⟨q',_,e',h'⟩|⟨q',_,e',_⟩
   ·rw[h',show q'+1=q by omega]
   ·omega
  ·unfold y_N y_8
   exact List.mem_append_left _ (List.mem_map.2 ⟨q-1,List.mem_range.2 (by omega),rfl⟩)
 ·obtain ⟨h1,h3⟩:=ay i hb
  have ht:t<s:=ht;rw[aa i h1 _ (by omega),e2 i h1 h3,DkS.flush_now];refine DkS.wrs_at (·=ch0 t) _ _ _ rfl (by show 120+t<140;omega) (fun x hx e=>?_) (.inr ⟨⟨120+t,bs []⟩,?_,rfl⟩)
  ·rcases v_4 s x hx with ⟨q',_,e',h'⟩|⟨q',_,e',h'⟩
   ·omega
   ·exact h'
  ·unfold y_N y_8
   exact List.mem_append_right _ (List.mem_map.2 ⟨t,List.mem_range.2 ht,rfl⟩)
 ·show (bs []:ByteArray).size<=2032
  decide
 ·show ChkIs key _ t (bs []) (tl (z_z (stp d (fun _=>bs z_M) t)) c).data.toList
  rw[allC_zero h2 h4 t c hc];exact ⟨rfl,.inl ⟨rfl,rfl⟩⟩
 ·show tl (z_R (z_V d s n) 1 rc n i).now 1=_
  rw[e1 i hi,DkS.flush_now,DkS.write_on _ _ _ (w_z d s n i) (by rw[aq];decide),rQ]
 ·obtain ⟨h1,_⟩:=ay i hb
  refine ⟨?_,fun l h=>by cases h⟩;show tl (z_R (z_V d s n) 1 rc n i).now 2=bs [];rw[aa i h1 _ (by decide)];exact g8 i h1 2 (by decide)
 ·rw[aa i hi _ (by decide)]
  exact g8 i hi 0 (by decide)
section
variable {n:Nat} {key:List UInt8} {S:Sup} {σ:Nat->DkS} {ch:Nat->Nat->ByteArray} {B:Nat->ByteArray} {L:Nat->Option (List Wr)}
theorem opnS_stA (S:Sup) (i:Nat):stA (z_S S) i=stA S i:=by
 unfold stA z_S;rw[q_j];cases S.mem[i]?<;>rfl
theorem opnS_topA (S:Sup) (i:Nat):x_0 (z_S S) i=x_0 S i:=by
 unfold x_0 z_S;rw[q_j];cases S.mem[i]?<;>rfl
theorem rep_same (h:VOk n key S σ ch B) (hL:LOk S σ L) (i:Nat) (hi:i<n):(z_2 σ S L n i).now=(σ i).now/\(z_2 σ S L n i).Whole:=by
 unfold z_2;rw[if_pos hi];unfold w_b;by_cases hb:stA S i=1/\(σ i).dead=false
 ·rw[if_pos hb]
  obtain ⟨h1,h2⟩:=hL i (bad_no.2 hb)
  cases hl:L i with
  | none=>exact ⟨rfl,h.dk i hi⟩
  | some l =>
   rw[hl] at h1;have h3:((σ i).wrs l).now=(σ i).now:=DkS.wrs_same l (σ i) (h.dk i hi).len fun x hx=>⟨(h1.2.2.1 x hx).2.1,h2 l hl x hx⟩;refine ⟨by show ((σ i).wrs l).flush.now=_;rw[DkS.flush_now];exact h3,DkS.Whole.flush (by rw[DkS.wrs_len];exact (h.dk i hi).len) fun hd=>?_⟩;rw[DkS.wrs_dead,hb.2] at hd;cases hd
 ·rw[if_neg hb];exact ⟨rfl,h.dk i hi⟩
theorem VOk.opened (h:VOk n key S σ ch B) (hL:LOk S σ L) (hc:S.count<1000) (he:S.epoch<1000) :
  VOk n key (z_S S) (z_R (z_2 σ S L n) ((S.count+1) % 2) (bs (z_t (z_S S))) n) ch B/\(∀i,bad (z_S S) (z_R (z_2 σ S L n) ((S.count+1) % 2) (bs (z_t (z_S S))) n) i=bad S σ i)/\∀i,i<n->(σ i).dead=false->∀k,k≠(S.count+1) % 2->tl (z_R (z_2 σ S L n) ((S.count+1) % 2) (bs (z_t (z_S S))) n i).now k=tl (σ i).now k:=by
 obtain ⟨rc,rQ⟩:∃rc,bs (z_t (z_S S))=rc:=⟨_,rfl⟩
 have du:∀i,bad (z_S S) (z_R (z_2 σ S L n) ((S.count+1) % 2) (bs (z_t (z_S S))) n) i=bad S σ i:=fun i=>by
  unfold bad;rw[opnS_stA,w_l,w_3]
 have af:∀i,bad S σ i=false->i<n:=fun i hb=>(h.goodLt hb).1;rw[rQ] at du ⊢
 have aa:∀i,i<n->∀k,k≠(S.count+1) % 2->tl (z_R (z_2 σ S L n) ((S.count+1) % 2) rc n i).now k=tl (σ i).now k:=fun i hi k hk=>by
  unfold z_R;rw[if_pos hi,DkS.flush_now,DkS.write_off _ _ _ _ (Ne.symm hk),(rep_same h hL i hi).1]
 refine ⟨⟨opnS_ok h.ok hc he,?_,fun i hi=>?_,fun i hb=>?_,fun i hb q h1 h2=>?_,fun i hb t ht=>?_,h.csz,fun t ht c bf hb=>h.chk t ht c bf (by rw[du] at hb;exact hb),h.bsz,fun i hi hd=>?_⟩,du,fun i hi _ k hk=>aa i hi k hk⟩
 ·show (S.mem.map nlog).length=n
  rw[q_i];exact h.len
 ·obtain ⟨z1,z2⟩:=rep_same h hL i hi
  unfold z_R;rw[if_pos hi];by_cases hd:(z_2 σ S L n i).dead=true
  ·rw[DkS.write_of_dead hd,DkS.flush_of_dead hd];exact z2
  ·exact DkS.Whole.flush (by rw[DkS.write_len];exact z2.len) fun db=>by rw[DkS.write_dead] at db;exact absurd db hd
 ·rw[du] at hb;rw[opnS_topA];exact h.top i hb
 ·rw[du] at hb
  have h2:q<S.slots:=h2;rw[aa i (af i hb) _ (by omega)];exact h.tree i hb q h1 h2
 ·rw[du] at hb
  rw[aa i (af i hb) _ (by omega)];exact h.cell i hb t ht
 ·rw[w_l,w_3] at hd
  show tl (z_R (z_2 σ S L n) ((S.count+1) % 2) rc n i).now ((S.count+1) % 2)=_;unfold z_R;rw[if_pos hi,DkS.flush_now,DkS.write_on _ _ _ (by rw[w_3];exact hd) (by rw[(rep_same h hL i hi).2.len];omega),rQ]
theorem LOk.opened (h:VOk n key S σ ch B) (hL:LOk S σ fun _=>none) (hc:S.count<1000) (he:S.epoch<1000):LOk (z_S S) (z_R (z_2 σ S (fun _=>none) n) ((S.count+1) % 2) (bs (z_t (z_S S))) n) fun _=>none:=fun i hb=>by
 obtain ⟨_,z2,z3⟩:=h.opened hL hc he;rw[z2] at hb;refine ⟨?_,fun l h=>by cases h⟩;show tl _ 2=bs [];rw[z3 i (h.goodLt hb).1 (bad_no.1 hb).2 2 (by omega)];exact (hL i hb).1
end
end Go.Proofs.YtdkheklakfbeeaaGreatDoor
