/- Part 34 of the proof. -/
import Derived.Deep.MidRow
import Derived.Test.YtdkheklakfbeeaaGreatDoorM33
set_option linter.all false
set_option maxRecDepth 100000
set_option maxHeartbeats 16000000
namespace Go.Proofs.YtdkheklakfbeeaaGreatDoor
open Go.RowKit Go.Proofs.Tryz
section
variable {w:World} {wk m1 m2 base st b n an sp:Nat} {key:List UInt8} {σ:Nat->DkS} {F:Nat->Prop} {S S0:Sup} {vs vm pz pA:Value}
theorem logs_any (hL:Lay w) (hb:Bk w b n σ F) (hw:10<=w.heap.size) (aH:Blk w st 116 (stC b an key S0 pz pA sp)) (dJ:Blk w wk 163 (wkC S vs vm m1 m2)) (hR:SupO w base S vs vm) (hS:SupOk S) (gi:S.mem.length=n) (oP:10<=base)
  (U:Nat->Value) (dom:List Nat) (X:Nat->List Wr) (tf:Nat->ByteArray) (B0:Nat) (cZ:MapA KI w m1 (vD U dom) dom) (ae:Rows w B0 U dom X) (ez:MapA KI w m2 (txM (atD tf dom)) dom)
  (hX:∀j∈dom,(X j).length<96/\(∀x∈X j,x.ok)/\(σ j).dead=false/\(σ j).wait<=500) (Jw:∀j∈dom,(tf j).size=32) (hg:y_l S (S.data+2)<=2) :
  Cl 72 #[.pointer (some ⟨st,0,none⟩),.pointer (some ⟨wk,0,none⟩)] w fun e w'=>e=.returned (.int .i64 0)/\SupO w' base (lgS S (lgG dom tf X) n) vs vm /\
   (∃F',Gr w F F'/\Bk w' b n (lgD σ dom (fun j=>lgW (z_o (X j))) n) F')/\∃g,vm.ownBlock=some g/\Kp (fun q=>F q\/q=g) w w':=by
 have iJ:=hS.n1;have dy:=hS.n12;have zG:=hS.d8;obtain ⟨g,cg,mP,bu,bJ⟩:=y_u hR.mems (by omega);subst mP;obtain ⟨zA,dW⟩:=z_i hR.mems (q:=g) rfl;have Tl:¬F g:=hb.offRow hR.mems (by unfold tyB;decide) _ rfl;have Gz:=Zz Tl
 have uV:Hid (∀q t cs,Blk w q t cs->t≠108->¬tyB t->¬(F q\/q=g)):=Zz fun q t cs hB ht iN hq=>by
  rcases hq with hq|rfl
  ·exact hb.off hB iN hq
  ·exact Blk.ne_ hB dW ht rfl
 have kn:=Zz (uV.o st _ _ aH (by decide) (by unfold tyB;decide));have eu:=Zz (uV.o wk _ _ dJ (by decide) (by unfold tyB;decide));have g9:Hid (¬(F m1\/m1=g)):=Zz fun h=>h.elim (hb.offMap cZ) fun e=>cZ.ne_blk dW e;have qt:Hid (¬(F m2\/m2=g)):=Zz fun h=>h.elim (hb.offMap ez) fun e=>ez.ne_blk dW e;have sA:Hid (∀q,(F q\/q=g)->∀cs,¬Blk w q 240 cs):=Zz fun q hq cs hB=>uV.o q _ cs hB (by decide) (by unfold tyB;decide) hq
 have nr:Hid (∀q,q<6->¬(F q\/q=g)):=Zz fun q h6 hq=>by
  rcases hq with hq|rfl
  ·have:=(hb.lt hq).1;omega
  ·omega
 have bj:=Zz hL;have iB:=Zz hb;have aR:=Zz aH;have jH:=Zz dJ;have dj:=Zz cZ;have dV:=Zz ez;have uw:=Zz ae;have FQ:=Zz hX;have fM:=Zz hw;have dD:=Zz gi
 have Aj:Hid (SupOk (lgS S (lgG dom tf X) S.mem.length)):=Zz (lgS_ok hS _ (fun j t d h=>by
  unfold lgG at h;split at h
  ·rename_i hm
   injection h with h
   injection h with h1 h2
   subst h1 h2;exact ⟨Jw j hm,v_P _⟩
  ·cases h) _)
 have Zu:Hid (y_l (lgS S (lgG dom tf X) S.mem.length) (S.data+2)<=2):=Zz (by rw[goneN_congr (fun j=>lgS_stA S _ _ j)];exact hg);have kJ:Hid (SupO w base (lgS S (lgG dom tf X) 0) vs (.slice (some ⟨g,0,none⟩) S.mem.length cg)):=Zz (by rw[lgS_zero];exact hR);have iK:Hid (∃F',Gr w F F'/\Bk w b n (lgD σ dom (fun j=>lgW (z_o (X j))) 0) F'):=Zz ⟨F,Gr.refl _ _,by rw[lgD_zero];exact hb⟩;have bZ:=Zz (Kp.refl (fun q=>F q\/q=g) w);have jr:=Zz (w_R S (lgG dom tf X));have tU:=Zz (lgM_at S.mem (lgG dom tf X));have Zv:=Zz (lgM_none S.mem (lgG dom tf X));have lX:=Zz (lgM_some S.mem (lgG dom tf X));have tO:=Zz (fun i (h:i<S.mem.length)=>x_p (lgM S.mem (lgG dom tf X) i) i (by rw[v_k];exact h));have vT:=Zz (lgD_in σ dom (fun j=>lgW (z_o (X j))));have zj:=Zz (lgD_out σ dom (fun j=>lgW (z_o (X j))));have B7:=Zz (lgD_at σ dom (fun j=>lgW (z_o (X j))));have k8:=dJ.c8;clear hL hb hw aH dJ hR hS cZ ez ae hX Jw hg dW Tl;have Ti:S.mem.length<=12:=dy;go_enter func72,ntmps72
 go_upto_region 2 with fail
 clear k8
 go_loopw [5,6,7,8,9,10,17] (fun _ _ _ _ _ _ s17 wr=>∃i:Nat,i<=S.mem.length/\s17=.int .i64 i/\Hid (SupO wr base (lgS S (lgG dom tf X) i) vs (.slice (some ⟨g,0,none⟩) S.mem.length cg))/\Hid (∃F',Gr w F F'/\Bk wr b n (lgD σ dom (fun j=>lgW (z_o (X j))) i) F')/\Hid (Kp (fun q=>F q\/q=g) w wr)) (fun _ _ _ _ _ _ s17 _=>S.mem.length-(intOf s17).toNat)
 case atStart=>exact ⟨0,by omega,rfl,kJ,iK,bZ⟩
 case round =>
  clear kJ iK bZ;obtain ⟨i,hi,rfl,HR,HX,HK⟩:=hrel;by_cases af:i<S.mem.length
  ·have bV:(i:Int)<(S.mem.length:Int):=by omega
   obtain ⟨q0,q1,q2⟩:=tO.o i af;have un:=HR.o.mems;rw[jr.o] at un;have bY:Kp NoB wr wr.drew:=(Kp.refl NoB wr).drew;have fJ:=Zz (HR.o.seats.kp bY fun _ _ h=>h);have yf:Hid (wr.drew.ownsRow base 108 3 (.slice (some ⟨g,0,none⟩) S.mem.length cg) S.mem.length (z_x (lgM S.mem (lgG dom tf X) i))):=Zz (z_e un bY fun _ _ h=>h);have wl:Hid (∃F',Gr w F F'/\Bk wr.drew b n (lgD σ dom (fun j=>lgW (z_o (X j))) i) F'):=Zz (by obtain ⟨F1,h1,h2⟩:=HX.o;exact ⟨F1,h1,h2.no bY⟩);have ar:=Zz HK.o.drew;rw[tU.o i af] at q1 q2;have GK:=Zz (Zv.o i af);have GL:=Zz (lX.o i af);have Zw:Hid ((z_x (lgM S.mem (lgG dom tf X) i)).length=S.mem.length*3):=Zz (by rw[memC_length,v_k]);clear bY un HR HX HK q0
   go_upto_region 4 with fail
   refine fs ?_;generalize wr.drew=w3 at *;generalize z_x (lgM S.mem (lgG dom tf X) i)=xs at *;obtain ⟨⟨kg,tp,lg⟩,hx⟩:∃x,S.mem[i]'af=x:=⟨_,rfl⟩;rw[hx] at q1 q2
   dsimp only at q1 q2
   have Dj:=Zz q1;have Eg:=Zz q2;clear hx q1 q2;have Tm:Hid (∀W,Lay W->10<=W.heap.size->Cl 89 #[] W fun e w'=>e=.returned (.string z_C)/\Kp NoB W w'):=Zz fun W h1 h2=>v_6 W h1 h2;obtain ⟨nb,Tn⟩:∃nb,z_C=nb:=⟨_,rfl⟩;rw[Tn] at GK GL Tm;clear Tn;have Ca:=Zz (jH.o.kp ar.o eu.o);have GM:=Zz (bj.o.kp ar.o nr.o);have ru:Hid (10<=w3.heap.size):=Zz (by have:=fM.o;have:=ar.o.size;omega);have k8:=Ca.o.c8;refine fp 0 ?_;refine fp 1 ?_;refine fp 2 ?_;refine fp 3 ?_;refine f_c 4 k8 ?_;refine fp 5 ?_;refine fd 6 fun K Qx hK=>?_;go_simp;refine (Tm.o w3 GM.o ru.o).mono ?_;rintro e w4 ⟨rfl,aw⟩;have rx:=Zz (z_e yf.o aw fun _ _ h=>h);have BX:=Zz (fJ.o.kp aw fun _ _ h=>h);have BO:Hid (∃F',Gr w F F'/\Bk w4 b n (lgD σ dom (fun j=>lgW (z_o (X j))) i) F'):=Zz (by obtain ⟨F1,h1,h2⟩:=wl.o;exact ⟨F1,h1,h2.no aw⟩);have az:=Zz (ar.o.then aw fun _ _ h=>h.elim);have mN:=Zz (Ca.o.kp aw fun h=>h);refine hK _ _ (oK (mN.o.cell 8) oN) ?_;clear hK K aw k8 yf fJ wl ar Ca GM ru
   have g2:w4.cell? ⟨g,i*3+2,none⟩=some (.string lg):=by rw[z_O rx.o _ (by omega)];exact Eg.o
   have FW:=y_o rx.o (i*3+2);refine fp 7 ?_;refine fp 8 ?_;refine fd 9 fun K Qx hK=>?_;go_simp;refine hK _ _ (oW oN) ?_;clear hK K g2 FW;refine fe ?_;have mD:Hid ((w4.setCell ⟨g,i*3+2,none⟩ (.string nb)).ownsRow base 108 3 (.slice (some ⟨g,0,none⟩) S.mem.length cg) S.mem.length (xs.set (i*3+2) (.string nb))):=Zz (x_i rx.o (i*3+2) (.string nb));have aC:=(Kp.refl (fun z=>z=g) w4).setCell ⟨g,i*3+2,none⟩ (.string nb) (.inl rfl)
   have o7:=Zz (BX.o.kp aC fun q hq e=>by
    obtain ⟨iz,ay⟩:=z_i BX.o hq;obtain ⟨dq,am⟩:=z_i rx.o (q:=g) rfl;have e:q=g:=e;subst e
    exact Blk.ne_ ay am (by decide) rfl)
   have qg:Hid (∃F',Gr w F F'/\Bk (w4.setCell ⟨g,i*3+2,none⟩ (.string nb)) b n (lgD σ dom (fun j=>lgW (z_o (X j))) i) F'):=Zz (by
    obtain ⟨F1,h1,h2⟩:=BO.o
    exact ⟨F1,h1,h2.kp aC fun q hq hf=>by have e:q=g:=hq;subst e;exact Gr.no h1 bJ Gz.o hf⟩)
   have ax:=Zz (az.o.trans (aC.mono fun q _ h=>Or.inr h));clear aC rx BX BO az mN;generalize w4.setCell ⟨g,i*3+2,none⟩ (.string nb)=w5 at *;have mB:=Zz (jH.o.kp ax.o eu.o);have k9:=mB.o.c9;have mY:=Zz (dj.o.kp ax.o g9.o);have bo:=(mY.o.look kd3 mapWS (zeroWS w5) (a:=i) (show i<=100000 by omega)).2;by_cases hid:i∈dom
   ·obtain ⟨ew,eN,jx,kH⟩:=FQ.o i hid
    have ae:=uw.o.kp ax.o sA.o i hid;obtain ⟨Au,cu,GN⟩:=z_r ae;rw[GN] at ae;rw[show vD U dom i=some (U i) from if_pos hid,GN] at bo;replace bo:(Instr.lookup 161 (.map (some m1)) (.int .i64 i) true).run prog w5=.ok (.tuple #[.slice Au (X i).length cu,.bool true]) w5:=bo;have lr:=Zz (bj.o.kp ax.o nr.o);have GO:Hid (10<=w5.heap.size):=Zz (by have:=fM.o;have:=ax.o.size;omega);have gS:=iput_any w5 lr.o GO.o (.slice Au (X i).length cu) (X i) (y_x ae) ew eN;have GP:Hid (z_x (lgM S.mem (lgG dom tf X) (i+1))=((xs.set (i*3+2) (.string nb)).set (i*3+1) (.string (tf i))).set (i*3+2) (.string (y_O (z_o (X i))))):=Zz (GL.o _ _ (if_pos hid));have oQ:=Zz (vT.o i hid);have Bo:Hid ((z_o (X i)).length<=97):=Zz (by rw[y_5];omega);have Js:=Zz (logC_size (X i) eN);have mZ:=Zz (B7.o i);have Ao:=Zz jx;have Aq:=Zz kH;generalize y_O (z_o (X i))=dg at *;have GQ:Hid (z_A (lgD σ dom (fun j=>lgW (z_o (X j))) i) i ((σ i).wrs (lgW (z_o (X i)))).flush=lgD σ dom (fun j=>lgW (z_o (X j))) (i+1)):=oQ;obtain ⟨T,hT⟩:∃T,z_o (X i)=T:=⟨_,rfl⟩;rw[hT] at GQ Bo Js gS;have yl:=Zz gS;clear gS hT oQ ae ew eN jx kH;go_wp2_with fail;refine yl.o.mono ?_;rintro e w6 ⟨u6,rfl,BY,ap⟩;obtain ⟨F1,bu,ay⟩:=qg.o;have cC:=Zz bu
    have sg:Hid (∀W,Kp F1 w6 W->z_g W u6 (sv T)):=Zz fun W k=>(BY.kp k fun q hq hf=>by
     have h1:=(z_u BY hq).1;have h2:=(ay.lt hf).2
     omega).reads
    have bk:=Zz (ay.no ap);have Ar:=Zz (z_e mD.o ap fun _ _ h=>h);have dH:=Zz (o7.o.kp ap fun _ _ h=>h);have aB:=Zz (ax.o.then ap fun _ _ h=>h.elim);have GR:=Zz (aR.o.kp aB.o kn.o);have Fl:=Zz (logged_any bk.o GR.o (show i<n by rw[<-dD.o];exact af) (by rw[mZ.o];exact Ao.o) (by rw[mZ.o];exact Aq.o) u6 T sg.o Bo.o Js.o);rw[mZ.o,GQ.o] at Fl;clear bu ay ap BY qg mD o7 ax mB mY lr GO yl k9 bo;go_wp2_with fail;refine Fl.o.mono ?_;rintro e w7 ⟨rfl,F2,ko,am,aM⟩;have BT:=Zz ko;have GS:Hid (¬F1 g):=Zz (Gr.no cC.o bJ Gz.o);have dM:=Zz am
    have vV:=Zz (z_e Ar.o aM fun q hq hf=>by
     have e:q=g:=by injection hq with e;exact e.symm
     subst e
     exact GS.o hf)
    have io:=Zz (dH.o.kp aM fun q hq hf=>bk.o.offRow dH.o (by unfold tyB;decide) q hq hf);have rn:Hid (Gr w F F2):=Zz (cC.o.then BT.o aB.o.size);have bC:=Zz (aB.o.then aM fun q hq hf=>.inl (cC.o q hq hf));clear ko am aM sg bk Ar dH aB GR Fl cC BT GS;have bY:Kp NoB w7 w7.drew:=(Kp.refl NoB w7).drew;have jn:=Zz (z_e vV.o bY fun _ _ h=>h);have mH:=Zz (io.o.kp bY fun _ _ h=>h);have ef:=Zz (dM.o.no bY);have bq:=Zz bC.o.drew;clear bY vV io dM bC
    go_upto_region 13 with fail
    refine fs ?_;generalize w7.drew=w8 at *;have jR:=Zz (jH.o.kp bq.o eu.o);have rj:=Zz (dV.o.kp bq.o qt.o);have fU:=(rj.o.look kd3 y_7 (zero9 w8) (a:=i) (show i<=100000 by omega)).1;rw[show txM (atD tf dom) i=some (.string (tf i)) by unfold txM atD;rw[if_pos hid];rfl] at fU;replace fU:(Instr.lookup 86 (.map (some m2)) (.int .i64 i) false).run prog w8=.ok (.string (tf i)) w8:=fU;obtain ⟨tq,To⟩:∃tq,tf i=tq:=⟨_,rfl⟩;rw[To] at fU GP;clear To;have k8:=jR.o.c8;have GI:=jR.o.c10
    have g1:w8.cell? ⟨g,i*3+1,none⟩=some (.string tp):=by rw[z_O jn.o _ (by omega),List.getElem?_set_ne (by omega)];exact Dj.o
    have Oh:=y_o jn.o (i*3+1);have gF:Hid ((w8.setCell ⟨g,i*3+1,none⟩ (.string tq)).ownsRow base 108 3 (.slice (some ⟨g,0,none⟩) S.mem.length cg) S.mem.length ((xs.set (i*3+2) (.string nb)).set (i*3+1) (.string tq))):=Zz (x_i jn.o (i*3+1) (.string tq));have eL:Hid (((w8.setCell ⟨g,i*3+1,none⟩ (.string tq)).setCell ⟨g,i*3+2,none⟩ (.string dg)).ownsRow base 108 3 (.slice (some ⟨g,0,none⟩) S.mem.length cg) S.mem.length (((xs.set (i*3+2) (.string nb)).set (i*3+1) (.string tq)).set (i*3+2) (.string dg))):=Zz (x_i gF.o (i*3+2) (.string dg));have At:Hid (Kp (fun z=>z=g) w8 ((w8.setCell ⟨g,i*3+1,none⟩ (.string tq)).setCell ⟨g,i*3+2,none⟩ (.string dg))):=Zz (((Kp.refl (fun z=>z=g) w8).setCell ⟨g,i*3+1,none⟩ (.string tq) (.inl rfl)).setCell ⟨g,i*3+2,none⟩ (.string dg) (.inl rfl));refine fp 0 ?_;refine fp 1 ?_;refine fp 2 ?_;refine fp 3 ?_;refine f_c 4 k8 ?_;refine fp 5 ?_;refine fp 6 ?_;refine fp 7 ?_;refine fp 8 ?_;refine fp 9 ?_;refine f_c 10 k8 ?_;refine fp 11 ?_;refine fp 12 ?_;refine fp 13 ?_;refine fp 14 ?_;refine f_c 15 GI ?_;refine fp 16 ?_;refine fp 18 ?_;refine fd 17 fun K Qx hK=>?_;go_simp;refine hK _ _ (oW (oK k8 (oK k8 oN))) ?_;clear hK K fU;refine fp 19 ?_;refine fp 20 ?_;refine fd 21 fun K Qx hK=>?_;go_simp;refine hK _ _ (oW (oW (oW oN))) ?_;clear hK K g1 Oh k8 GI
    have g2:(w8.setCell ⟨g,i*3+1,none⟩ (.string tq)).cell? ⟨g,i*3+2,none⟩=some (.string nb):=by
     rw[z_O gF.o _ (by omega),List.getElem?_set_ne (by omega),List.getElem?_set_self (by rw[Zw.o];omega)]
    have FW:=y_o gF.o (i*3+2);refine fp 22 ?_;refine fp 23 ?_;refine fd 24 fun K Qx hK=>?_;go_simp;refine hK _ _ (oW (oW (oW oN))) ?_;clear hK K g2 FW;refine fe ?_
    have GT:=Zz (mH.o.kp At.o fun q hq e=>by
     obtain ⟨iz,ay⟩:=z_i mH.o hq;obtain ⟨dq,am⟩:=z_i jn.o (q:=g) rfl;have e:q=g:=e;subst e
     exact Blk.ne_ ay am (by decide) rfl)
    have O5:Hid (∃F',Gr w F F'/\Bk ((w8.setCell ⟨g,i*3+1,none⟩ (.string tq)).setCell ⟨g,i*3+2,none⟩ (.string dg)) b n (lgD σ dom (fun j=>lgW (z_o (X j))) (i+1)) F'):=Zz ⟨F2,rn.o,ef.o.kp At.o fun q hq hf=>by
     have e:q=g:=hq;subst e
     exact Gr.no rn.o bJ Gz.o hf⟩
    have cU:=Zz (bq.o.trans (At.o.mono fun q _ h=>Or.inr h))
    have mT:Hid (SupO ((w8.setCell ⟨g,i*3+1,none⟩ (.string tq)).setCell ⟨g,i*3+2,none⟩ (.string dg)) base (lgS S (lgG dom tf X) (i+1)) vs (.slice (some ⟨g,0,none⟩) S.mem.length cg)):=Zz ⟨GT.o,by
     rw[jr.o];have e3:z_x (lgS S (lgG dom tf X) (i+1)).mem=((xs.set (i*3+2) (.string nb)).set (i*3+1) (.string tq)).set (i*3+2) (.string dg):=GP.o;rw[e3]
     exact eL.o⟩
    clear jn gF eL mH GT ef bq At jR rj rn;generalize (w8.setCell ⟨g,i*3+1,none⟩ (.string tq)).setCell ⟨g,i*3+2,none⟩ (.string dg)=bO at *;go_wp2;go_roundw
    case rel=>exact ⟨i+1,by omega,by go_num,mT,O5,cU⟩
    case measure=>simp[intOf];omega
   ·rw[show vD U dom i=none from if_neg hid] at bo
    replace bo:(Instr.lookup 161 (.map (some m1)) (.int .i64 i) true).run prog w5=.ok (.tuple #[.slice none 0 0,.bool false]) w5:=bo
    have ns:Hid (SupO w5 base (lgS S (lgG dom tf X) (i+1)) vs (.slice (some ⟨g,0,none⟩) S.mem.length cg)):=Zz ⟨o7.o,by
     rw[jr.o];have e3:z_x (lgS S (lgG dom tf X) (i+1)).mem=xs.set (i*3+2) (.string nb):=GK.o (if_neg hid);rw[e3]
     exact mD.o⟩
    have zi:Hid (∃F',Gr w F F'/\Bk w5 b n (lgD σ dom (fun j=>lgW (z_o (X j))) (i+1)) F'):=Zz (by rw[zj.o i hid];exact qg.o);clear mD o7 qg mY mB;go_wp2;go_roundw
    case rel=>exact ⟨i+1,by omega,by go_num,ns,zi,ax⟩
    case measure=>simp[intOf];omega
  ·obtain rfl:i=S.mem.length:=by omega
   have FX:=Zz (jH.o.kp HK.o eu.o);have kF:=Zz (stands_any (S:=lgS S (lgG dom tf X) S.mem.length) FX.o HR.o Aj.o);go_wp2_with fail;refine kF.o.mono ?_;rintro e w2 ⟨rfl,rfl⟩;have Ak:(lgS S (lgG dom tf X) S.mem.length).data=S.data:=rfl;rw[Ak,decide_eq_true Zu.o]
   have de:Hid (SupO w2 base (lgS S (lgG dom tf X) n) vs (.slice (some ⟨g,0,none⟩) S.mem.length cg) /\
   (∃F',Gr w F F'/\Bk w2 b n (lgD σ dom (fun j=>lgW (z_o (X j))) n) F')/\∃q,(Value.slice (some ⟨g,0,none⟩) S.mem.length cg).ownBlock=some q/\Kp (fun z=>F z\/z=q) w w2):=Zz (by
    have h1:=HR.o;have h2:=HX.o;rw[show lgS S (lgG dom tf X) S.mem.length=lgS S (lgG dom tf X) n by rw[dD.o]] at h1;rw[show lgD σ dom (fun j=>lgW (z_o (X j))) S.mem.length=lgD σ dom (fun j=>lgW (z_o (X j))) n by rw[dD.o]] at h2
    exact ⟨h1,h2,g,rfl,HK.o⟩)
   clear kF FX HR HX HK;go_wp2;go_ret;exact ⟨rfl,de.o⟩
end
section
variable {w:World} {wk m1 m2 base st b n an sp:Nat} {key:List UInt8} {σ:Nat->DkS} {F:Nat->Prop} {S S0:Sup} {vs vm pz pA:Value}
theorem capply_any (hL:Lay w) (hb:Bk w b n σ F) (hw:10<=w.heap.size) (hk:key.length=32) (aH:Blk w st 116 (stC b an key S0 pz pA sp)) (dJ:Blk w wk 163 (wkC S vs vm m1 m2)) (hR:SupO w base S vs vm) (hS:SupOk S) (gi:S.mem.length=n)
  (U:Nat->Value) (dom:List Nat) (X:Nat->List Wr) (B0:Nat) (cZ:MapA KI w m1 (vD U dom) dom) (ae:Rows w B0 U dom X)
  (hX:∀j∈dom,(X j).length<=1000/\(∀x∈X j,x.ok)/\(σ j).dead=false/\(σ j).wait<=500) :
  Cl 76 #[.pointer (some ⟨st,0,none⟩),.pointer (some ⟨wk,0,none⟩)] w fun e w'=>e=.returned (.int .i64 0)/\∃F',Gr w F F'/\Bk w' b n (lgD σ dom X n) F'/\Kp F w w':=by
 have dy:=hS.n12;obtain ⟨As,cs,Am,cm,cQ,cq⟩:=hR.reads.shape;subst cq;have kn:=Zz (hb.off aH (by unfold tyB;decide));have eu:=Zz (hb.off dJ (by unfold tyB;decide));have g9:=Zz (hb.offMap cZ);have sA:Hid (∀q,F q->∀cs,¬Blk w q 240 cs):=Zz fun q hq cs hB=>hb.off hB (by unfold tyB;decide) hq
 have nr:Hid (∀q,q<6->¬F q):=Zz fun q h6 hq=>by have:=(hb.lt hq).1;omega
 have bj:=Zz hL;have aR:=Zz aH;have jH:=Zz dJ;have dj:=Zz cZ;have uw:=Zz ae;have FQ:=Zz hX;have fM:=Zz hw;have dD:=Zz gi;have OO:=Zz hk;have fx:=Zz hS.sl;have iK:Hid (∃F',Gr w F F'/\Bk w b n (lgD σ dom X 0) F'):=Zz ⟨F,Gr.refl _ _,by rw[lgD_zero];exact hb⟩;have bZ:=Zz (Kp.refl F w);have vT:=Zz (lgD_in σ dom X);have zj:=Zz (lgD_out σ dom X);have B7:=Zz (lgD_at σ dom X);have k8:=dJ.c8;clear hL hb hw aH dJ hR hS cZ ae hX hk;have Ti:S.mem.length<=12:=dy;go_enter func76,ntmps76
 go_upto_region 2 with fail
 clear k8
 go_loopw [5,6,7,8,15] (fun _ _ _ _ s15 wr=>∃i:Nat,i<=S.mem.length/\s15=.int .i64 i/\Hid (∃F',Gr w F F'/\Bk wr b n (lgD σ dom X i) F')/\Hid (Kp F w wr)) (fun _ _ _ _ s15 _=>S.mem.length-(intOf s15).toNat)
 case atStart=>exact ⟨0,by omega,rfl,iK,bZ⟩
 case round =>
  clear iK bZ;obtain ⟨i,hi,rfl,HX,HK⟩:=hrel;by_cases af:i<S.mem.length
  ·have bV:(i:Int)<(S.mem.length:Int):=by omega
   have mB:=Zz (jH.o.kp HK.o eu.o);have k9:=mB.o.c9;have mY:=Zz (dj.o.kp HK.o g9.o);have bo:=(mY.o.look kd3 mapWS (zeroWS wr) (a:=i) (show i<=100000 by omega)).2;by_cases hid:i∈dom
   ·obtain ⟨ew,eN,jx,kH⟩:=FQ.o i hid
    have ae:=uw.o.kp HK.o sA.o i hid;obtain ⟨Au,cu,GN⟩:=z_r ae;rw[GN] at ae;rw[show vD U dom i=some (U i) from if_pos hid,GN] at bo;replace bo:(Instr.lookup 161 (.map (some m1)) (.int .i64 i) true).run prog wr=.ok (.tuple #[.slice Au (X i).length cu,.bool true]) wr:=bo;have bY:Kp NoB wr wr.drew:=(Kp.refl NoB wr).drew;have Ad:=Zz (z_e ae bY fun _ _ h=>h);have wl:Hid (∃F',Gr w F F'/\Bk wr.drew b n (lgD σ dom X i) F'):=Zz (by obtain ⟨F1,h1,h2⟩:=HX.o;exact ⟨F1,h1,h2.no bY⟩);have ar:=Zz HK.o.drew;have oQ:=Zz (vT.o i hid);have mZ:=Zz (B7.o i);have O6:=Zz ew;have O7:=Zz eN;have Ao:=Zz jx;have Aq:=Zz kH;clear bY ae ew eN jx kH HX HK mB mY;generalize X i=Xi at *
    go_upto_region 6 with fail
    clear bo k9;refine fs ?_;generalize wr.drew=w3 at *;obtain ⟨F1,bu,ay⟩:=wl.o;have cC:=Zz bu;have bh:=Zz ay;clear bu ay wl;have Ca:=Zz (jH.o.kp ar.o eu.o);have fJ:=Zz (aR.o.kp ar.o kn.o);have GM:=Zz (bj.o.kp ar.o nr.o);have ru:Hid (10<=w3.heap.size):=Zz (by have:=fM.o;have:=ar.o.size;omega);have c0:=fJ.o.c0;have c1:=fJ.o.c1;have c2:=fJ.o.c2;have k3:=Ca.o.c3;refine fp 0 ?_;refine fp 1 ?_;refine fp 2 ?_;refine fq 3 (fun W=>W.cell? ⟨st,0,none⟩=some (.pointer (some ⟨b,0,none⟩))/\W.cell? ⟨st,1,none⟩=some (.pointer (some ⟨an,0,none⟩))/\W.cell? ⟨st,2,none⟩=some (.string (bs key))) ⟨c0,c1,c2⟩ ?_;refine fp 4 ?_;refine fp 5 ?_;refine fp 6 ?_;refine fp 7 ?_;refine fp 8 ?_;refine f_c 9 k3 ?_;refine fp 11 ?_;refine fd 10 fun K Qx hK=>?_;go_simp;refine (w_j w3 b an i S.slots key).mono ?_;rintro e w4 ⟨rfl,aw⟩;have az:=Zz aw;refine hK _ _ (oW (oW oN)) ?_;clear hK K aw c0 c1 c2 k3;have Ax:=Zz (z_e Ad.o az.o fun _ _ h=>h);have bR:=Zz (bh.o.no az.o);have GU:Hid (∀q,(Value.slice Au Xi.length cu).ownBlock=some q->¬F1 q):=Zz (bR.o.offRow Ax.o (by unfold tyB;decide));have ph:=Zz (v_U y_R (GM.o.no az.o) bR.o (by have:=ru.o;have:=az.o.size;omega) (show i<n by rw[<-dD.o];exact af) fx.o OO.o (.slice Au Xi.length cu) Xi (fun W k=>y_x (z_e Ax.o k GU.o)) O6.o O7.o (by rw[mZ.o];have:=Aq.o;omega) (by rw[mZ.o];exact Ao.o))
    rw[mZ.o,oQ.o] at ph;refine fd 12 fun K Qx hK=>?_;go_simp;refine ph.o.mono ?_;rintro e w5 ⟨rfl,F2,ko,am,aG⟩;have qg:Hid (∃F',Gr w F F'/\Bk w5 b n (lgD σ dom X (i+1)) F'):=Zz ⟨F2,cC.o.then ko (q_g ar.o.size az.o.size),am⟩;have ax:=Zz ((ar.o.then az.o fun _ _ h=>h.elim).then aG fun q hq hf=>cC.o q hq hf);refine hK _ _ (oW (oW oN)) ?_;clear hK K aG ko am;refine fp 13 ?_;refine fe ?_;clear Ad Ax bh bR GU ph ar az Ca fJ GM ru cC;go_wp2;go_roundw
    case rel=>exact ⟨i+1,by omega,by go_num,qg,ax⟩
    case measure=>simp[intOf];omega
   ·rw[show vD U dom i=none from if_neg hid] at bo
    replace bo:(Instr.lookup 161 (.map (some m1)) (.int .i64 i) true).run prog wr=.ok (.tuple #[.slice none 0 0,.bool false]) wr:=bo;have zi:Hid (∃F',Gr w F F'/\Bk wr b n (lgD σ dom X (i+1)) F'):=Zz (by rw[zj.o i hid];exact HX.o);clear HX mB mY;go_wp2;go_roundw
    case rel=>exact ⟨i+1,by omega,by go_num,zi,HK⟩
    case measure=>simp[intOf];omega
  ·obtain rfl:i=S.mem.length:=by omega
   have de:Hid (∃F',Gr w F F'/\Bk wr b n (lgD σ dom X n) F'/\Kp F w wr):=Zz (by
    obtain ⟨F1,h1,h2⟩:=HX.o;rw[show lgD σ dom X S.mem.length=lgD σ dom X n by rw[dD.o]] at h2
    exact ⟨F1,h1,h2,HK.o⟩)
   clear HX HK;go_wp2;go_ret;exact ⟨rfl,de.o⟩
end
section
variable {w:World} {B2 B3 B6 st wk b an sp m1 m2:Nat} {key:List UInt8} {S S0 S4:Sup} {R:World->Prop}
theorem cm1_any (h2:Blk w B2 61 #[.pointer (some ⟨st,0,none⟩)]) (h6:Blk w B6 155 #[.pointer (some ⟨wk,0,none⟩)]) (As Am Ac:Option Addr) (cs cm nc cc:Nat) (h3:Blk w B3 97 (plC S (.slice As (S.data+2) cs) (.slice Am S.mem.length cm) (.slice Ac nc cc)))
  (h:Cl 70 #[.pointer (some ⟨st,0,none⟩),.pointer (some ⟨wk,0,none⟩),.agg (plC S (.slice As (S.data+2) cs) (.slice Am S.mem.length cm) (.slice Ac nc cc))] w fun e w'=>e=.returned (.int .i64 0)/\R w') :
  Cl 69 #[.pointer (some ⟨B2,0,none⟩),.pointer (some ⟨B6,0,none⟩),.pointer (some ⟨B3,0,none⟩)] w fun e w'=>e=.returned (.int .i64 0)/\R w':=by
 have HH:=Zz h;have t2:=h2.c0;have t6:=h6.c0;have p0:=h3.c0;have p1:=h3.c1;have p2:=h3.c2;have p3:=h3.c3;have p4:=h3.c4;have p5:=h3.c5;have p6:=h3.c6;have p7:=h3.c7;have p8:=h3.c8;have p9:=h3.c9;have px:=h3.c10;clear h h2 h6 h3;go_enter func69,ntmps69;go_wp2_with fail;refine HH.o.mono ?_;rintro e w2 ⟨rfl,hr⟩;go_wp2;go_ret;exact ⟨rfl,hr⟩
theorem cm2_any (h2:Blk w B2 61 #[.pointer (some ⟨st,0,none⟩)]) (h6:Blk w B6 155 #[.pointer (some ⟨wk,0,none⟩)])
  (h:Cl 72 #[.pointer (some ⟨st,0,none⟩),.pointer (some ⟨wk,0,none⟩)] w fun e w'=>e=.returned (.int .i64 0)/\R w') :
  Cl 71 #[.pointer (some ⟨B2,0,none⟩),.pointer (some ⟨B6,0,none⟩)] w fun e w'=>e=.returned (.int .i64 0)/\R w':=by
 have HH:=Zz h;have t2:=h2.c0;have t6:=h6.c0;clear h h2 h6;go_enter func71,ntmps71;go_wp2_with fail;refine HH.o.mono ?_;rintro e w2 ⟨rfl,hr⟩;go_wp2;go_ret;exact ⟨rfl,hr⟩
end
section
variable {P:Program} {ah:Array Oper} {R:Act->World->Prop} {H:Held} {fuel:Nat} {listed:Array Bool} {a:Act} {w:World}
theorem fr_store_mid (i:Nat) {o:Oper} (ho:ah[i]?=some o) (hg:o.guard=none) (hr:Region.ready .any ah listed=[i]) (ty:TypeId) (x y:Operand) (NZ:o.op=.store ty x y) (g of:Nat) (cells:Array Value) (hx:a.eval x=.pointer (some ⟨g,of,none⟩)) (hy:a.eval y=.agg cells)
  (ht:w.there g of cells.size) (hi:(P.info? ty).map (·.size)=some cells.size) (h1:cells.all (·.oneCell')=true)
  (h:ObH .any ah H i w (w.setCells g of cells.toList)/\Fr P ah R H fuel (listed.setIfInBounds i true) (a.put o.dst undef) (w.setCells g of cells.toList)):Fr P ah R H (fuel+1) listed a w :=
 fr_do i ho hr fun K Qx hK=>by
  rw[if_pos (by unfold Region.wanted;rw[hg])];exact wp_store_mid ty x y NZ g of cells hx hy ht hi h1 (hK _ _ h.1 h.2)
end
theorem Blk.setCells {w:World} {g t:Nat}:∀(vs:List Value) (o:Nat) (cs:Array Value) (w:World),Blk w g t cs->∃cs',Blk (w.setCells g o vs) g t cs'/\Kp (fun q=>q=g) w (w.setCells g o vs):=fun vs=>by
 induction vs with
 | nil=>intro o cs w h;exact ⟨cs,h,Kp.refl _ _⟩
 | cons v vs ih =>
  intro o cs w h;obtain ⟨cs',h1,h2⟩:=ih (o+1) _ _ (h.set_ o v);exact ⟨cs',h1,((Kp.refl (fun q=>q=g) w).setCell ⟨g,o,none⟩ v (.inl rfl)).trans h2⟩
def setL (cs:Array Value):Nat->List Value->Array Value
 | _,[]=>cs
 | o,v::vs=>setL (cs.setIfInBounds o v) (o+1) vs
theorem Blk.setCellsL {g t:Nat}:∀(vs:List Value) (o:Nat) (cs:Array Value) (w:World),Blk w g t cs->Blk (w.setCells g o vs) g t (setL cs o vs):=fun vs=>by
 induction vs with
 | nil=>intro o cs w h;exact h
 | cons v vs ih=>intro o cs w h;exact ih (o+1) _ _ (h.set_ o v)
theorem setL_st (b an:Nat) (key:List UInt8) (S0 S:Sup) (pz pA vs vm:Value) (sp:Nat):setL (stC b an key S0 pz pA sp) 3 [.int .u64 S.count,.int .u64 S.epoch,.int .i64 S.data,.int .i64 S.slots,.int .i64 0,.int .i64 0,.bool false,vs,vm]=stC b an key S vs vm sp:=by
 simp[setL,stC]
section
variable {w:World} {B2 B3 B6 st wk b an sp m1 m2:Nat} {key:List UInt8} {S S0 S4:Sup} {R:World->Prop} {pz pA:Value}
theorem cm3_any (h2:Blk w B2 61 #[.pointer (some ⟨st,0,none⟩)]) (h6:Blk w B6 155 #[.pointer (some ⟨wk,0,none⟩)]) (aH:Blk w st 116 (stC b an key S0 pz pA sp)) (As Am:Option Addr) (cs cm:Nat) (dJ:Blk w wk 163 (wkC S (.slice As (S.data+2) cs) (.slice Am S.mem.length cm) m1 m2))
  (h:∀W,Kp NoB w W->Cl 74 #[.agg (mdC b an key),.agg (z_N S (.slice As (S.data+2) cs) (.slice Am S.mem.length cm))] W fun e w'=>e=.returned (.int .i64 0)/\R w') :
  Cl 73 #[.pointer (some ⟨B2,0,none⟩),.pointer (some ⟨B6,0,none⟩)] w fun e w'=>e=.returned (.int .i64 0)/\R w':=by
 have HH:=Zz (h w.drew (Kp.refl NoB w).drew);have H2:=Zz h2.drew;have H6:=Zz h6.drew;have HS:=Zz aH.drew;have HW:=Zz dJ.drew;clear h h2 h6 aH dJ;go_enter func73,ntmps73
 go_upto_region 1 with fail
 refine fs ?_;generalize w.drew=w1 at *;have t2:=H2.o.c0;have t6:=H6.o.c0;have c0:=HS.o.c0;have c1:=HS.o.c1;have c2:=HS.o.c2;have k0:=HW.o.c0;have k1:=HW.o.c1;have k2:=HW.o.c2;have k3:=HW.o.c3;have k4:=HW.o.c4;have k5:=HW.o.c5;have k6:=HW.o.c6;have k7:=HW.o.c7;have k8:=HW.o.c8;refine f_c 0 t2 ?_;refine fp 1 ?_;refine fp 2 ?_;refine fq 3 (fun W=>W.cell? ⟨st,0,none⟩=some (.pointer (some ⟨b,0,none⟩))/\W.cell? ⟨st,1,none⟩=some (.pointer (some ⟨an,0,none⟩))/\W.cell? ⟨st,2,none⟩=some (.string (bs key))) ⟨c0,c1,c2⟩ ?_;refine f_c 4 t6 ?_;refine fp 5 ?_;refine fp 6 ?_;refine fq 7 (fun W=>W.cell? ⟨wk,0,none⟩=some (.int .u64 S.count)/\W.cell? ⟨wk,1,none⟩=some (.int .u64 S.epoch)/\W.cell? ⟨wk,2,none⟩=some (.int .i64 S.data)/\W.cell? ⟨wk,3,none⟩=some (.int .i64 S.slots)/\W.cell? ⟨wk,4,none⟩=some (.int .i64 0)/\W.cell? ⟨wk,5,none⟩=some (.int .i64 0)/\W.cell? ⟨wk,6,none⟩=some (.bool false)/\W.cell? ⟨wk,7,none⟩=some (.slice As (S.data+2) cs)/\W.cell? ⟨wk,8,none⟩=some (.slice Am S.mem.length cm)) ⟨k0,k1,k2,k3,k4,k5,k6,k7,k8⟩ ?_;refine fd 8 fun K Qx hK=>?_;go_simp;refine HH.o.mono ?_;rintro e w2 ⟨rfl,hr⟩
 refine hK _ _ (oW (oW (oW (oW oN)))) ?_;clear hK K t2 t6 c0 c1 c2 k0 k1 k2 k3 k4 k5 k6 k7 k8;refine fp 9 ?_;refine fe ?_;go_wp2;go_ret;exact ⟨rfl,hr⟩
theorem cm4_any (h2:Blk w B2 61 #[.pointer (some ⟨st,0,none⟩)]) (h6:Blk w B6 155 #[.pointer (some ⟨wk,0,none⟩)]) (aH:Blk w st 116 (stC b an key S0 pz pA sp)) (As Am:Option Addr) (cs cm:Nat) (dJ:Blk w wk 163 (wkC S (.slice As (S.data+2) cs) (.slice Am S.mem.length cm) m1 m2))
  (h:∀W,Kp (fun q=>q=st) w W->Blk W st 116 (stC b an key S (.slice As (S.data+2) cs) (.slice Am S.mem.length cm) sp)->Cl 76 #[.pointer (some ⟨st,0,none⟩),.pointer (some ⟨wk,0,none⟩)] W fun e w'=>e=.returned (.int .i64 0)/\R w') :
  Cl 75 #[.pointer (some ⟨B6,0,none⟩),.pointer (some ⟨B2,0,none⟩)] w fun e w'=>e=.returned (.int .i64 0)/\R w':=by
 have HH:=Zz (fun W k=>h W ((Kp.refl (fun q=>q=st) w).drew.trans k));have H2:=Zz h2.drew;have H6:=Zz h6.drew;have HS:=Zz aH.drew;have HW:=Zz dJ.drew;clear h h2 h6 aH dJ;go_enter func75,ntmps75
 go_upto_region 1 with fail
 refine fs ?_;generalize w.drew=w1 at *;have t2:=H2.o.c0;have t6:=H6.o.c0;have k0:=HW.o.c0;have k1:=HW.o.c1;have k2:=HW.o.c2;have k3:=HW.o.c3;have k4:=HW.o.c4;have k5:=HW.o.c5;have k6:=HW.o.c6;have k7:=HW.o.c7;have k8:=HW.o.c8
 have Tp:Hid (w1.there st 3 9):=Zz (fun j hj=>by
  refine ⟨?_,HS.o.frozen _⟩;rw[HS.o.cell (3+j)];unfold stC;have hj:j<9:=hj
  rcases j with _|_|_|_|_|_|_|_|_|j<;>first|rfl|omega)
 have fh:Hid (Blk (w1.setCells st 3 [.int .u64 S.count,.int .u64 S.epoch,.int .i64 S.data,.int .i64 S.slots,.int .i64 0,.int .i64 0,.bool false,.slice As (S.data+2) cs,.slice Am S.mem.length cm]) st 116 (stC b an key S (.slice As (S.data+2) cs) (.slice Am S.mem.length cm) sp)):=Zz (by
  have h1:=Blk.setCellsL [.int .u64 S.count,.int .u64 S.epoch,.int .i64 S.data,.int .i64 S.slots,.int .i64 0,.int .i64 0,.bool false,.slice As (S.data+2) cs,.slice Am S.mem.length cm] 3 _ w1 HS.o;rw[setL_st] at h1
  exact h1)
 have eY:=Zz (Blk.setCells (w:=w1) [.int .u64 S.count,.int .u64 S.epoch,.int .i64 S.data,.int .i64 S.slots,.int .i64 0,.int .i64 0,.bool false,.slice As (S.data+2) cs,.slice Am S.mem.length cm] 3 _ w1 HS.o);refine f_c 0 t2 ?_;refine f_c 1 t6 ?_;refine fp 2 ?_;refine fp 3 ?_;refine fq 4 (fun W=>W.cell? ⟨wk,0,none⟩=some (.int .u64 S.count)/\W.cell? ⟨wk,1,none⟩=some (.int .u64 S.epoch)/\W.cell? ⟨wk,2,none⟩=some (.int .i64 S.data)/\W.cell? ⟨wk,3,none⟩=some (.int .i64 S.slots)/\W.cell? ⟨wk,4,none⟩=some (.int .i64 0)/\W.cell? ⟨wk,5,none⟩=some (.int .i64 0)/\W.cell? ⟨wk,6,none⟩=some (.bool false)/\W.cell? ⟨wk,7,none⟩=some (.slice As (S.data+2) cs)/\W.cell? ⟨wk,8,none⟩=some (.slice Am S.mem.length cm)) ⟨k0,k1,k2,k3,k4,k5,k6,k7,k8⟩ ?_;refine fp 5 ?_;refine fp 6 ?_;refine fr_store_mid 7 rfl rfl (by kernel_rfl) 60 _ _ rfl st 3 #[.int .u64 S.count,.int .u64 S.epoch,.int .i64 S.data,.int .i64 S.slots,.int .i64 0,.int .i64 0,.bool false,.slice As (S.data+2) cs,.slice Am S.mem.length cm] rfl rfl Tp.o (by kernel_rfl) (by simp[Value.oneCell']) ?_;refine ⟨oW (oW (oW oN)),?_⟩;clear k0 k1 k2 k3 k4 k5 k6 k7 k8 t2 t6;refine fe ?_;obtain ⟨cs',fm,mW⟩:=eY.o;have bn:=Zz mW;clear fm mW eY Tp;generalize w1.setCells st 3 [.int .u64 S.count,.int .u64 S.epoch,.int .i64 S.data,.int .i64 S.slots,.int .i64 0,.int .i64 0,.bool false,.slice As (S.data+2) cs,.slice Am S.mem.length cm]=w2 at *;have vS:Hid (Blk w2 B2 61 #[.pointer (some ⟨st,0,none⟩)]):=Zz (H2.o.kp bn.o fun e=>Blk.ne_ H2.o HS.o (by decide) e);have O8:Hid (Blk w2 B6 155 #[.pointer (some ⟨wk,0,none⟩)]):=Zz (H6.o.kp bn.o fun e=>Blk.ne_ H6.o HS.o (by decide) e);have t2:=vS.o.c0;have t6:=O8.o.c0;have ph:=Zz (HH.o w2 bn.o fh.o);go_wp2_with fail;refine ph.o.mono ?_
 rintro e w3 ⟨rfl,hr⟩;go_wp2;go_ret;exact ⟨rfl,hr⟩
end
end Go.Proofs.YtdkheklakfbeeaaGreatDoor
