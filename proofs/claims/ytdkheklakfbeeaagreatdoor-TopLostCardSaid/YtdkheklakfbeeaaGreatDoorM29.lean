/- Part 29 of the proof. -/
import Derived.Test.YtdkheklakfbeeaaGreatDoorM28
set_option linter.all false
set_option maxRecDepth 100000
set_option maxHeartbeats 16000000
namespace Go.Proofs.YtdkheklakfbeeaaGreatDoor
open Go.RowKit Go.Proofs.Tryz
def nlog (m:Mem):Mem:={ m with log:=z_C }
def x_G (L:List Mem) (i:Nat):List Mem:=(L.take i).map nlog++L.drop i
theorem logI_len (L:List Mem) (i:Nat):(x_G L i).length=L.length:=by
 simp[x_G];omega
theorem logI_all (L:List Mem):x_G L L.length=L.map nlog:=by simp[x_G]
theorem logI_set (L:List Mem) (i:Nat) (h:i<L.length):(x_G L i).set i { (x_G L i)[i]'(by rw[logI_len];exact h) with log:=z_C }=x_G L (i+1):=by
 have e1:(x_G L i)[i]'(by rw[logI_len];exact h)=L[i]'h:=by
  unfold x_G;rw[List.getElem_append_right (by simp;omega)];simp[Nat.min_eq_left (Nat.le_of_lt h)]
 rw[e1];unfold x_G
 have hl:((L.take i).map nlog).length=i:=by simp;omega
 rw[List.set_append_right _ _ (by rw[hl];exact q_e _),hl,Nat.sub_self,List.drop_eq_getElem_cons h,List.set_cons_zero,q_h h,List.map_append,List.append_assoc];rfl
def z_S (S:Sup):Sup:={ S with count:=S.count+1,epoch:=S.epoch+1,mem:=S.mem.map nlog }
theorem opnS_ok {S:Sup} (hS:SupOk S) (hc:S.count<1000) (he:S.epoch<1000):SupOk (z_S S) where
 d2:=hS.d2
 d8:=hS.d8
 sl:=hS.sl
 n1:=by show S.data+2<=(S.mem.map nlog).length;rw[q_i];exact hS.n1
 n12:=by show (S.mem.map nlog).length<=12;rw[q_i];exact hS.n12
 mem i h:=by
  have hl:i<S.mem.length:=by have:i<(S.mem.map nlog).length:=h;rwa [q_i] at this
  obtain ⟨h1,h2,h3,h4⟩:=hS.mem i hl
  have e:(z_S S).mem[i]'h=nlog (S.mem[i]'hl):=by simp[z_S]
  rw[e];exact ⟨h1,v_h,h3,h4⟩
 c:=hc
 e:=he
def stC (b an:Nat) (key:List UInt8) (S:Sup) (vs vm:Value) (sp:Nat):Array Value:=#[.pointer (some ⟨b,0,none⟩),.pointer (some ⟨an,0,none⟩),.string (bs key),.int .u64 S.count,.int .u64 S.epoch,.int .i64 S.data,.int .i64 S.slots,.int .i64 0,.int .i64 0,.bool false,vs,vm,.pointer (some ⟨sp,0,none⟩),.bool false]
theorem rep1_dead (σ:DkS) (st:Nat) (L:Option (List Wr)):(w_b σ st L).dead=σ.dead:=by
 unfold w_b;split
 ·rename_i h
  split
  ·unfold DkS.flush
   rw[DkS.wrs_dead,h.2];rfl
  ·rfl
 ·rfl
theorem w_3 (σ:Nat->DkS) (S:Sup) (L:Nat->Option (List Wr)) (k j:Nat):(z_2 σ S L k j).dead=(σ j).dead:=by
 unfold z_2;split
 ·exact rep1_dead _ _ _
 ·rfl
theorem repD_wait (σ:Nat->DkS) (S:Sup) (L:Nat->Option (List Wr)) (k j:Nat) (h:(σ j).wait<=500):(z_2 σ S L k j).wait<=500:=by
 unfold z_2;split
 ·unfold w_b
  split
  ·rename_i hh
   split
   ·unfold DkS.flush
    rw[DkS.wrs_dead,hh.2];exact Nat.zero_le _
   ·exact h
  ·exact h
 ·exact h
section
variable {w:World} {b n an:Nat} {key:List UInt8} {σ:Nat->DkS} {F:Nat->Prop}
theorem copen_any (hL:Lay w) (h:Bk w b n σ F) (hw:10<=w.heap.size) (hk:key.length=32) (S:Sup) (hS:SupOk S) (gi:S.mem.length=n) (aK:0<S.count) (bf:S.count<1000) (kD:S.epoch<1000) (ha:Blk w an 180 #[.int .u64 S.count,.string (bs (z_Z (z_t S)))])
  (k oF:Nat) (ra:k<n) (cV:∀i,i<k->(σ i).dead=true) (jb:(σ k).dead=false) (br:oF<2) (hc:tl (σ k).now oF=bs (z_t S)) (c0:List UInt8) (h0:oF=1->tl (σ k).now 0=bs c0/\c0.length<=2048/\(c0=[]\/z_Z c0≠z_Z (z_t S)))
  (L:Nat->Option (List Wr)) (mO:∀j (h:j<S.mem.length),(S.mem[j]'h).st=1->(σ j).dead=false->LogOk (σ j) (S.mem[j]'h).log (L j)) (fy:∀j,j<n->(σ j).wait<=500) :
  Cl 50 #[.pointer (some ⟨b,0,none⟩),.pointer (some ⟨an,0,none⟩),.string (bs key)] w fun e w'=>∃st sp vs vm,e=.returned (.tuple #[.pointer (some ⟨st,0,none⟩),.int .i64 0])/\w.heap.size<=st/\w.heap.size<=sp/\Blk w' st 116 (stC b an key (z_S S) vs vm sp)/\Blk w' sp 226 #[.int .u64 (S.epoch+1:Nat),.int .u64 0]/\SupO w' w.heap.size (z_S S) vs vm /\
   Blk w' an 180 #[.int .u64 (S.count+1:Nat),.string (bs (z_Z (z_t (z_S S))))]/\∃F',Gr w F F'/\Bk w' b n (z_R (z_2 σ S L n) ((S.count+1) % 2) (bs (z_t (z_S S))) n) F'/\Kp (fun q=>F q\/q=an) w w':=by
 have bI:=opnS_ok hS bf kD;have tL:=Zz (fun W (k:Kp NoB w W)=>mmay_any (h.no k) an hk);have y9:=Zz (fun W (k:Kp NoB w W)=>aget_any W an _ _ (ha.kp k fun h=>h));have vB:=Zz (fun W (kk:Kp NoB w W)=>mfind_any (key:=key) (hL.no kk) (h.no kk) (by have:=kk.size;omega) S.count S hS gi (ha.kp kk fun h=>h) k oF ra cV jb br hc c0 h0);have yV:=Zz (fun W (kk:Kp NoB w W) vs vm (hR:SupO W 10 S vs vm)=>replay_any (key:=key) (hL.no kk) (h.no kk) (by have:=kk.size;omega) an hk S vs vm hS gi hR L mO fy);have Nz:=Zz (fun W (hL:Lay W) (bE:10<=W.heap.size)=>v_6 W hL bE);have ml:=Zz (fun W F' (hb:Bk W b n (z_2 σ S L n) F') (hL:Lay W) (bE:10<=W.heap.size) (ha:Blk W an 180 #[.int .u64 S.count,.string (bs (z_Z (z_t S)))]) vs vm hR=>v_V (key:=key) hL hb bE S.count (z_Z (z_t S)) ha (z_S S) vs vm bI hR (Nat.lt_succ_self _) (fun i hi=>q_g (repD_wait σ S L n i (fy i hi)) (by decide)) ⟨k,ra,by rw[w_3];exact jb⟩);have dD:=Zz (fun W=>nnew_any W (S.epoch+1) (by omega) (by omega));have fG:=Zz (fun q (hq:F q)=>h.lt hq);have cy:=Zz (h.off ha (by unfold tyB;decide));have eS:=Zz h;have vU:=Zz ha;have bj:=Zz hL;have fM:=Zz hw;have iC:=Zz (fun W base vs vm (hr:SupO W base S vs vm)=>hr.reads.shape)
 have zr:0<n:=by omega
 have q9:=Zz gi
 have dy:n<=12:=by rw[<-gi];exact hS.n12
 have mx:((S.count:Int)==0)=false:=by rw[q_o];omega
 have oX:=Zz aK;have mp:=Zz bf;have HE2:=Zz kD
 have NT:¬((4294967295:Int)<=(S.epoch:Int)):=by omega
 have YR:=Zz (q_v NT);clear NT
 have nW:IntKind.u64.wrap ((S.count:Int)+1)=((S.count+1:Nat):Int):=by rw[q_s];omega
 have Jk:IntKind.u64.wrap ((S.epoch:Int)+1)=((S.epoch+1:Nat):Int):=by rw[q_s];omega
 have HB:=Zz (Blk.new w 113 (mdC b an key));have HK:=Zz ((Kp.refl NoB w).alloc (.cells (mdC b an key) 113));have fK:Hid (∀vs vm,z_N S vs vm=#[.int .u64 S.count,.int .u64 S.epoch,.int .i64 S.data,.int .i64 S.slots,.int .i64 0,.int .i64 0,.bool false,vs,vm]):=Zz fun _ _=>rfl;have NU:Hid (∀vs vm,z_N (z_S S) vs vm=#[.int .u64 (S.count+1:Nat),.int .u64 (S.epoch+1:Nat),.int .i64 S.data,.int .i64 S.slots,.int .i64 0,.int .i64 0,.bool false,vs,vm]):=Zz fun _ _=>rfl;have tA:=Zz nW;have YS:=Zz Jk;clear nW Jk;clear hL h hw ha hS cV jb br hc h0 mO fy bI gi aK bf kD;go_enter func50,ntmps50
 go_upto_region 2 with fail
 change Code.wp _ _ _ _ (w.alloc (.cells (mdC b an key) 113));generalize w.alloc (.cells (mdC b an key) 113)=w1 at *;obtain ⟨G,hG⟩:∃G,w.heap.size=G:=⟨_,rfl⟩;rw[hG] at HB ⊢;have cR:=Zz hG;clear hG;have m0:=HB.o.c0;have m1:=HB.o.c1;have m2:=HB.o.c2;go_wp2_with fail;refine (tL.o _ HK.o).mono ?_;rintro e w2 ⟨rfl,ag⟩;have ak:=Zz (HB.o.kp ag fun h=>h);have al:=Zz (HK.o.trans ag);clear ag m0 m1 m2 HB HK tL;go_wp2_with fail;refine (y9.o _ al.o).mono ?_;rintro e w3 ⟨rfl,au⟩;have aJ:=Zz (ak.o.kp au fun h=>h);have ar:=Zz (al.o.trans au);clear au ak al y9;have m0:=aJ.o.c0;have m1:=aJ.o.c1;have m2:=aJ.o.c2;go_wp2_with fail;refine (vB.o _ ar.o).mono ?_;rintro e w4 ⟨vs,vm,rfl,cP,aw⟩;have bR:=Zz (aJ.o.kp aw fun h=>h);have az:=Zz (ar.o.trans aw);have tR:=Zz (cP.more ar.o.size);clear aw cP m0 m1 m2 aJ ar vB;obtain ⟨As,cs,Am,cm,cQ,cq⟩:=iC.o _ _ _ _ tR.o;obtain ⟨g,cg,mP,bu,bJ⟩:=y_u tR.o.mems (by rw[q9.o];exact zr);rw[q9.o] at cq mP;rw[mP] at cq;cases cq;subst cQ mP;have ou:Hid (w.heap.size<=g):=Zz bu;rw[fK.o];clear bu bJ
 go_upto_region 9 with fail
 have gH:=Zz (Blk.new w4 60 #[.int .u64 S.count,.int .u64 S.epoch,.int .i64 S.data,.int .i64 S.slots,.int .i64 0,.int .i64 0,.bool false,.slice As (S.data+2) cs,.slice (some ⟨g,0,none⟩) n cm]);have aY:=Zz (bR.o.alloc (.cells #[.int .u64 S.count,.int .u64 S.epoch,.int .i64 S.data,.int .i64 S.slots,.int .i64 0,.int .i64 0,.bool false,.slice As (S.data+2) cs,.slice (some ⟨g,0,none⟩) n cm] 60));have ax:=Zz (az.o.alloc (.cells #[.int .u64 S.count,.int .u64 S.epoch,.int .i64 S.data,.int .i64 S.slots,.int .i64 0,.int .i64 0,.bool false,.slice As (S.data+2) cs,.slice (some ⟨g,0,none⟩) n cm] 60));have j9:=Zz (tR.o.no ((Kp.refl NoB w4).alloc (.cells #[.int .u64 S.count,.int .u64 S.epoch,.int .i64 S.data,.int .i64 S.slots,.int .i64 0,.int .i64 0,.bool false,.slice As (S.data+2) cs,.slice (some ⟨g,0,none⟩) n cm] 60)));have kO:Hid (w.heap.size<=w4.heap.size):=Zz az.o.size;clear bR az tR;generalize w4.alloc (.cells #[.int .u64 S.count,.int .u64 S.epoch,.int .i64 S.data,.int .i64 S.slots,.int .i64 0,.int .i64 0,.bool false,.slice As (S.data+2) cs,.slice (some ⟨g,0,none⟩) n cm] 60)=w5 at *;obtain ⟨P,hP⟩:∃P,w4.heap.size=P:=⟨_,rfl⟩;rw[hP] at gH kO ⊢;clear hP;have s0:=gH.o.c0;have s1:=gH.o.c1;have s2:=gH.o.c2;have s3:=gH.o.c3;have s4:=gH.o.c4;have s5:=gH.o.c5;have s6:=gH.o.c6;have s7:=gH.o.c7;have s8:=gH.o.c8;have m0:=aY.o.c0;have m1:=aY.o.c1;have m2:=aY.o.c2;have mA:=Zz (yV.o w5 ax.o _ _ (j9.o.more fM.o));rw[fK.o] at mA;clear yV;have NT:=YR.o;go_wp2_with fail;refine mA.o.mono ?_;rintro e w6 ⟨rfl,F6,qm,eB,ap⟩;have v6:=Zz qm;have zx:=Zz eB;have aB:=Zz ap;clear qm eB ap mA m0 m1 m2 s0 s1 s2 s3 s4 s5 s6 s7 s8;have sU:Hid (¬F P/\¬F G):=Zz ⟨fun hf=>by have:=(fG.o _ hf).2;have:=kO.o;omega,fun hf=>by have:=(fG.o _ hf).2;have:=cR.o;omega⟩;have ju:=gH.o.kp aB.o sU.o.1;have bk:=Zz (aY.o.kp aB.o sU.o.2);have zy:=Zz (eS.o.no ax.o);have jm:=Zz (j9.o.kp aB.o (zy.o.offRow j9.o.seats (by unfold tyB;decide)) (zy.o.offRow j9.o.mems (by unfold tyB;decide)));have mf:=Zz ((vU.o.kp ax.o fun h=>h).kp aB.o cy.o)
 have BR:=Zz ((bj.o.no ax.o).kp aB.o fun g hg hf=>by have:=(fG.o g hf).1;omega);have nW:=tA.o;have Jk:=YS.o;have s0:=ju.cell 0;have s1:=ju.cell 1;have f0:=ju.frozen 0;have f1:=ju.frozen 1;have aM:=((Kp.refl (fun q=>q=P) w6).setCell ⟨P,0,none⟩ (.int .u64 (S.count+1:Nat)) (.inl rfl)).setCell ⟨P,1,none⟩ (.int .u64 (S.epoch+1:Nat)) (.inl rfl);have gE:Hid (Blk ((w6.setCell ⟨P,0,none⟩ (.int .u64 (S.count+1:Nat))).setCell ⟨P,1,none⟩ (.int .u64 (S.epoch+1:Nat))) P 60 #[.int .u64 (S.count+1:Nat),.int .u64 (S.epoch+1:Nat),.int .i64 S.data,.int .i64 S.slots,.int .i64 0,.int .i64 0,.bool false,.slice As (S.data+2) cs,.slice (some ⟨g,0,none⟩) n cm]):=Zz ((ju.set_ 0 (.int .u64 (S.count+1:Nat))).set_ 1 (.int .u64 (S.epoch+1:Nat)));have dM:=Zz (bk.o.kp aM fun e=>Blk.ne_ bk.o ju (by decide) e);have fE:=Zz (jm.o.kp aM (z_W jm.o.seats ju (by decide)) (z_W jm.o.mems ju (by decide)));have nu:=Zz (mf.o.kp aM fun e=>Blk.ne_ mf.o ju (by decide) e)
 have zz:=Zz (zx.o.kp aM fun q hq hf=>by
  have hq:q=P:=hq;subst hq
  exact zx.o.off ju (by unfold tyB;decide) hf)
 have A6:=Zz (BR.o.kp aM fun g hg e=>by have e:g=P:=e;have:=kO.o;have:=fM.o;omega);have bC:=Zz (((ax.o.mono (T:=NoB) (S:=F) fun _ _ h=>h.elim).trans aB.o).then aM fun q hq e=>(by have e:q=P:=e;have:=kO.o;omega:False).elim);clear ju aM bk jm mf BR gH aY j9 zy
 go_upto_region 18 with fail
 change Code.wp _ _ _ _ ((w6.setCell ⟨P,0,none⟩ (.int .u64 (S.count+1:Nat))).setCell ⟨P,1,none⟩ (.int .u64 (S.epoch+1:Nat)));clear s0 s1 f0 f1 nW Jk zx;generalize (w6.setCell ⟨P,0,none⟩ (.int .u64 (S.count+1:Nat))).setCell ⟨P,1,none⟩ (.int .u64 (S.epoch+1:Nat))=w7 at *;have s8:=gE.o.c8
 have nx:Hid (w7.ownsRow w.heap.size 108 3 (.slice (some ⟨g,0,none⟩) n cm) n (z_x (x_G S.mem 0))):=Zz (by
  have h1:=fE.o.mems;rw[q9.o] at h1
  exact h1)
 have Fp:=Zz (Kp.refl (fun q=>q=g) w7)
 have Fq:Hid (P≠g/\G≠g/\an≠g/\¬F6 g):=Zz (by
  obtain ⟨zA,dW⟩:=z_i nx.o (q:=g) rfl
  exact ⟨Blk.ne_ gE.o dW (by decide),Blk.ne_ dM.o dW (by decide),Blk.ne_ nu.o dW (by decide),zz.o.off dW (by unfold tyB;decide)⟩)
 go_upto_region 19 with fail
 clear s8
 go_loopw [15,65] (fun _ s65 wr=>∃i:Nat,i<=n/\s65=.int .i64 i/\Hid (wr.ownsRow w.heap.size 108 3 (.slice (some ⟨g,0,none⟩) n cm) n (z_x (x_G S.mem i)))/\Hid (Kp (fun q=>q=g) w7 wr)) (fun _ s65 _=>n-(intOf s65).toNat)
 case atStart=>exact ⟨0,by omega,rfl,nx,Fp⟩
 case round =>
  clear nx Fp;obtain ⟨i,hi,rfl,HM,bw⟩:=hrel;by_cases af:i<n
  ·have bV:(i:Int)<(n:Int):=by omega
   have bt:i<S.mem.length:=by rw[q9.o];exact af
   have Fs:i<(x_G S.mem i).length:=by rw[logI_len];exact bt
   have fk:=Zz (gE.o.kp bw.o Fq.o.1).drew;have tN:=Zz ((A6.o.kp bw.o fun q hq e=>by have e:q=g:=e;have:=ou.o;have:=fM.o;omega).no (Kp.refl NoB wr).drew);have jn:Hid (wr.drew.ownsRow w.heap.size 108 3 (.slice (some ⟨g,0,none⟩) n cm) n (z_x (x_G S.mem i))):=HM;have bq:=Zz bw.o.drew;have tS:Hid (10<=wr.drew.heap.size):=Zz (by have:=fM.o;have:=bC.o.size;have:=bq.o.size;omega);have tT:=Zz (v_H (x_G S.mem i) i Fs z_C);have bl:=Zz (logI_set S.mem i bt);have tU:=Zz (x_p (x_G S.mem i) i Fs);clear HM
   go_upto_region 21 with fail
   refine fs ?_;generalize wr.drew=w8 at *;have s8:=fk.o.c8;refine fp 0 ?_;refine f_c 1 s8 ?_;refine fp 2 ?_;refine fd 3 fun K Qx hK=>?_;go_simp;refine (Nz.o _ tN.o tS.o).mono ?_;rintro e w9 ⟨rfl,bL⟩;have lG:=Zz (fk.o.kp bL fun h=>h);have gF:=Zz (z_e jn.o bL fun _ _ h=>h);have aT:=Zz (bq.o.then bL fun _ _ h=>h.elim);refine hK _ _ (oK (lG.o.cell 8) oN) ?_;clear hK K s8 bL fk jn bq tN;refine fp 4 ?_;refine fp 5 ?_
   have g2:w9.cell? ⟨g,i*3+2,none⟩=some (.string ((x_G S.mem i)[i]'Fs).log):=by
    rw[z_O gF.o _ (by omega)];exact tU.o.2.2
   have fg:=y_o gF.o (i*3+2);refine fd 6 fun K Qx hK=>?_;go_simp;refine hK _ _ (oW oN) ?_;clear hK K;refine fe ?_;have zB:=x_i gF.o (i*3+2) (.string z_C);rw[tT.o,bl.o] at zB;have eL:=Zz zB;have cU:=Zz (aT.o.setCell ⟨g,i*3+2,none⟩ (.string z_C) (.inl rfl));clear zB g2 fg lG gF aT;go_wp2;go_roundw
   case rel=>exact ⟨i+1,by omega,by go_num,eL,cU⟩
   case measure=>simp[intOf];omega
  ·obtain rfl:i=n:=by omega
   have fk:=Zz (gE.o.kp bw.o Fq.o.1);have ef:=Zz (dM.o.kp bw.o Fq.o.2.1);have lz:=Zz (nu.o.kp bw.o Fq.o.2.2.1);have lI:=Zz (zz.o.kp bw.o fun q hq hf=>by have hq:q=g:=hq;subst hq;exact Fq.o.2.2.2 hf);have tN:=Zz (A6.o.kp bw.o fun q hq e=>by have e:q=g:=e;have:=ou.o;have:=fM.o;omega)
   have Fu:=Zz (fE.o.seats.kp bw.o fun q hq e=>by
    obtain ⟨iz,ay⟩:=z_i fE.o.seats hq;obtain ⟨dq,am⟩:=z_i fE.o.mems (q:=g) rfl;have e:q=g:=e;subst e
    exact Blk.ne_ ay am (by decide) rfl)
   have mQ:Hid (SupO wr w.heap.size (z_S S) (.slice As (S.data+2) cs) (.slice (some ⟨g,0,none⟩) i cm)):=Zz ⟨Fu.o,by
    have h1:=HM.o
    have e1:x_G S.mem i=S.mem.map nlog:=by rw[<-q9.o];exact logI_all _
    have e2:(z_S S).mem.length=i:=by rw[<-q9.o];exact q_i _
    rw[e1] at h1;rw[e2]
    exact h1⟩
   have HX:=Zz (ml.o wr F6 lI.o tN.o (by have:=fM.o;have:=bC.o.size;have:=bw.o.size;omega) lz.o _ _ mQ.o.reads);rw[NU.o] at HX;have m0:=ef.o.c0;have m1:=ef.o.c1;have m2:=ef.o.c2;have s0:=fk.o.c0;have s1:=fk.o.c1;have s2:=fk.o.c2;have s3:=fk.o.c3;have s4:=fk.o.c4;have s5:=fk.o.c5;have s6:=fk.o.c6;have s7:=fk.o.c7;have s8:=fk.o.c8;have NW:Hid (Kp F w wr):=Zz (bC.o.then bw.o fun q hq e=>(by have e:q=g:=e;have:=ou.o;omega:False).elim);have zC:Hid (Gr w F F6):=Zz fun q hq hf=>v6.o q (q_f hq ax.o.size) hf;clear HM bw gE dM nu zz A6 fE Fu bC aB ax;go_wp2_with fail;refine HX.o.mono ?_;rintro e bO ⟨rfl,Fv,F3,eW,bW,au⟩;have aZ:∀ {g' t':Nat} {cs':Array Value},Blk wr g' t' cs'->¬tyB t'->g'≠an->¬(F6 g'\/g'=an):=fun hb ht aA h=>h.elim (lI.o.off hb ht) aA;have iq:=Zz (fk.o.kp au (aZ fk.o (by unfold tyB;decide) (Blk.ne_ fk.o lz.o (by decide))));have tV:=Zz (ef.o.kp au (aZ ef.o (by unfold tyB;decide) (Blk.ne_ ef.o lz.o (by decide))));have wH:=Zz (mQ.o.kp au (fun q hq h=>h.elim (lI.o.offRow mQ.o.seats (by unfold tyB;decide) q hq) (z_W mQ.o.seats lz.o (by decide) q hq)) (fun q hq h=>h.elim (lI.o.offRow mQ.o.mems (by unfold tyB;decide) q hq) (z_W mQ.o.mems lz.o (by decide) q hq)));have Fw:=Zz Fv;have wI:=Zz bW;have fF:Hid (Gr w F F3):=Zz (zC.o.then eW NW.o.size);have cU:Hid (Kp (fun q=>F q\/q=an) w bO):=Zz ((NW.o.mono fun q _ h=>Or.inl h).then au fun q hq h=>h.elim (fun h=>.inl (zC.o q hq h)) .inr);clear Fv eW bW au aZ HX fk ef mQ lz lI NW zC m0 m1 m2 s0 s1 s2 s3 s4 s5 s6 s7 s8;have s1:=iq.o.c1;go_wp2_with fail;refine (dD.o bO).mono ?_;rintro e fa ⟨rfl,hsp,bX⟩;have ff:=Zz hsp;have ke:=Zz (iq.o.kp bX fun h=>h);have zD:=Zz (tV.o.kp bX fun h=>h);have Fx:=Zz (wH.o.no bX);have NX:=Zz (Fw.o.kp bX fun h=>h);have Fy:=Zz (wI.o.no bX);have cW:=Zz (cU.o.then bX fun _ _ h=>h.elim);have NY:Hid (w.heap.size<=bO.heap.size):=Zz cU.o.size;clear hsp bX s1 iq tV wH Fw wI cU
   generalize bO.heap.size=sp at *;have m0:=zD.o.c0;have m1:=zD.o.c1;have m2:=zD.o.c2;have s0:=ke.o.c0;have s1:=ke.o.c1;have s2:=ke.o.c2;have s3:=ke.o.c3;have s4:=ke.o.c4;have s5:=ke.o.c5;have s6:=ke.o.c6;have s7:=ke.o.c7;have s8:=ke.o.c8
   have aO:∀cells:Array Value,cells=stC b an key (z_S S) (.slice As (S.data+2) cs) (.slice (some ⟨g,0,none⟩) i cm) sp->w.heap.size<=fa.heap.size/\w.heap.size<=sp/\Blk (fa.alloc (.cells cells 116)) fa.heap.size 116 (stC b an key (z_S S) (.slice As (S.data+2) cs) (.slice (some ⟨g,0,none⟩) i cm) sp)/\Blk (fa.alloc (.cells cells 116)) sp 226 #[.int .u64 (S.epoch+1:Nat),.int .u64 0]/\SupO (fa.alloc (.cells cells 116)) w.heap.size (z_S S) (.slice As (S.data+2) cs) (.slice (some ⟨g,0,none⟩) i cm) /\
     Blk (fa.alloc (.cells cells 116)) an 180 #[.int .u64 (S.count+1:Nat),.string (bs (z_Z (z_t (z_S S))))]/\∃F',Gr w F F'/\Bk (fa.alloc (.cells cells 116)) b i (z_R (z_2 σ S L i) ((S.count+1) % 2) (bs (z_t (z_S S))) i) F'/\Kp (fun q=>F q\/q=an) w (fa.alloc (.cells cells 116)):=fun cells hc=>by
    have hk:=(Kp.refl NoB fa).alloc (.cells cells 116);refine ⟨cW.o.size,NY.o,by rw[<-hc];exact Blk.new _ _ _,ff.o.kp hk fun h=>h,Fx.o.no hk,NX.o.kp hk fun h=>h,F3,fF.o,Fy.o.no hk,cW.o.alloc _⟩
   have bS:=Zz aO;clear aO;go_wp2;go_ret2;exact ⟨_,_,_,_,rfl,bS.o _ rfl⟩
end
section
variable {P:Program} {ah:Array Oper} {R:Act->World->Prop} {H:Held} {fuel:Nat} {listed:Array Bool} {a:Act} {w:World}
theorem x_P (i:Nat) {o:Oper} (ho:ah[i]?=some o) (hg:o.guard=none) (hr:Region.ready .any ah listed=[i]) (ty:TypeId) (x y:Operand) (NZ:o.op=.store ty x y) (g:Nat) (cells:Array Value) (hx:a.eval x=.pointer (some ⟨g,0,none⟩)) (hy:a.eval y=.agg cells)
  (t:TypeId) (gW:Array Value) (hB:w.heap[g]?=some (.cells gW t (0,0))) (hi:(P.info? ty).map (·.size)=some cells.size) (sG:gW.size=cells.size) (h1:cells.all (·.oneCell')=true)
  (h:ObH .any ah H i w (w.setRow g cells)/\Fr P ah R H fuel (listed.setIfInBounds i true) (a.put o.dst undef) (w.setRow g cells)):Fr P ah R H (fuel+1) listed a w :=
 fr_do i ho hr fun K Qx hK=>by
  rw[if_pos (by unfold Region.wanted;rw[hg])];exact wp_store_row ty x y NZ g cells hx hy t gW hB hi sG h1 (hK _ _ h.1 h.2)
end
section
variable {w:World} {st b n an sp ep q i s t:Nat} {key:List UInt8} {σ:Nat->DkS} {F:Nat->Prop} {S:Sup} {vs vm:Value}
theorem sdead_any (h:Blk w st 116 (stC b an key S vs vm sp)) :
  Cl 42 #[.pointer (some ⟨st,0,none⟩)] w fun e w'=>e=.returned (.bool false)/\w'=w:=by
 have c13:=h.c13;clear h;go_enter func42,ntmps42;go_wp2;go_ret;exact ⟨rfl,rfl⟩
theorem salive_any (h:Blk w st 116 (stC b an key S vs vm sp)) :
  Cl 67 #[.pointer (some ⟨st,0,none⟩)] w fun e w'=>e=.returned (.int .i64 0)/\w'=w:=by
 have c13:=h.c13;clear h;go_enter func67,ntmps67;go_wp2;go_ret;exact ⟨rfl,rfl⟩
theorem y_Y (h:Blk w st 116 (stC b an key S vs vm sp)) :
  Cl 34 #[.pointer (some ⟨st,0,none⟩)] w fun e w'=>e=.returned (.agg (lyC S.data S.slots))/\Kp NoB w w':=by
 have HS:=Zz ((h.alloc (.cells #[.int .i64 0,.int .i64 0,.int .i64 0,.bool false] 84)).drew);have HZ:=Zz ((Blk.new w 84 #[.int .i64 0,.int .i64 0,.int .i64 0,.bool false]).drew);have HK:=Zz (((Kp.refl NoB w).alloc (.cells #[.int .i64 0,.int .i64 0,.int .i64 0,.bool false] 84)).drew);clear h;go_enter func34,ntmps34
 go_upto_region 3 with fail
 generalize w.alloc (.cells #[.int .i64 0,.int .i64 0,.int .i64 0,.bool false] 84)=w1 at *;obtain ⟨G,hG⟩:∃G,w.heap.size=G:=⟨_,rfl⟩;rw[hG] at HZ ⊢;have cR:=Zz hG;clear hG;refine fs ?_;generalize w1.drew=w2 at *;have c5:=HS.o.c5;have c6:=HS.o.c6;have c7:=HS.o.c7;have c9:=HS.o.c9
 have jC:(prog.info? 84).map (·.size)=some 4:=by kernel_rfl
 have aD:((lyC S.data S.slots):Array Value).all (·.oneCell')=true:=by simp[lyC,Value.oneCell']
 refine fp 0 ?_;refine fp 1 ?_;refine fp 2 ?_;refine fp 3 ?_;refine f_c 4 c5 ?_;refine fp 5 ?_;refine fp 6 ?_;refine fp 7 ?_;refine fp 8 ?_;refine f_c 9 c6 ?_;refine fp 10 ?_;refine fp 11 ?_;refine fp 12 ?_;refine fp 13 ?_;refine f_c 14 c7 ?_;refine fp 15 ?_;refine fp 16 ?_;refine fp 17 ?_;refine fp 18 ?_;refine f_c 19 c9 ?_;refine fp 20 ?_;refine x_P 21 rfl rfl (by kernel_rfl) 84 (.tmp 2) (.tmp 26) rfl G (lyC S.data S.slots) rfl rfl 84 _ HZ.o jC rfl aD ⟨oW (oW (oW (oW oN))),?_⟩
 refine fe ?_;have hZ:=HZ.o.setRow (cs':=lyC S.data S.slots);have hk:=(Kp.refl (fun q=>q=G) w2).setRow G (lyC S.data S.slots) (.inl rfl);go_wp2;refine bodyPost_ret (x_f rfl rfl hZ underlying84 rfl jC) rfl ?_;exact ⟨rfl,HK.o.then hk fun q hq e=>(by have:=cR.o;have e:q=G:=e;omega:False)⟩
theorem ssuper_any (h:Blk w st 116 (stC b an key S vs vm sp)) (hR:y_P w S vs vm) (hS:SupOk S) :
  Cl 18 #[.pointer (some ⟨st,0,none⟩)] w fun e w'=>∃bU ct,e=.returned (.agg (z_N S bU ct))/\SupO w' w.heap.size S bU ct/\Kp NoB w w':=by
 have iJ:=hS.n1;have rR:=Zz (fun W (k:Kp NoB w W)=>scopy_any (by have:=hS.d8;omega) (by omega) (by have:=hS.n12;omega) (hR.no k));obtain ⟨As,cs,Am,cm,cQ,cq⟩:=hR.shape;subst cQ cq;have fK:Hid (∀vs vm,z_N S vs vm=#[.int .u64 S.count,.int .u64 S.epoch,.int .i64 S.data,.int .i64 S.slots,.int .i64 0,.int .i64 0,.bool false,vs,vm]):=Zz fun _ _=>rfl;have HS:=Zz (h.alloc (.cells #[.int .u64 0,.int .u64 0,.int .i64 0,.int .i64 0,.int .i64 0,.int .i64 0,.bool false,.slice none 0 0,.slice none 0 0] 60));have HZ:=Zz (Blk.new w 60 #[.int .u64 0,.int .u64 0,.int .i64 0,.int .i64 0,.int .i64 0,.int .i64 0,.bool false,.slice none 0 0,.slice none 0 0]);have HK:=Zz ((Kp.refl NoB w).alloc (.cells #[.int .u64 0,.int .u64 0,.int .i64 0,.int .i64 0,.int .i64 0,.int .i64 0,.bool false,.slice none 0 0,.slice none 0 0] 60));clear h hR hS iJ;go_enter func18,ntmps18
 go_upto_region 3 with fail
 generalize w.alloc (.cells #[.int .u64 0,.int .u64 0,.int .i64 0,.int .i64 0,.int .i64 0,.int .i64 0,.bool false,.slice none 0 0,.slice none 0 0] 60)=w1 at *;obtain ⟨G,hG⟩:∃G,w.heap.size=G:=⟨_,rfl⟩;rw[hG] at HZ ⊢;have cR:=Zz hG;clear hG;have c3:=HS.o.c3;have c4:=HS.o.c4;have c5:=HS.o.c5;have c6:=HS.o.c6;have c7:=HS.o.c7;have c8:=HS.o.c8;have c9:=HS.o.c9;have c10:=HS.o.c10;have c11:=HS.o.c11;have HX:=Zz (rR.o w1 HK.o);rw[fK.o] at HX
 go_wp2_with (first
 | (go_at_call 47;refine HX.o.mono ?_;rintro e w2 ⟨bU,ct,rfl,cP,ag⟩;have ir:=Zz cP;have al:=Zz ag;have sn:=Zz (HZ.o.kp ag fun h=>h);clear cP ag;obtain ⟨As',cs',Am',lJ,N2,N3⟩:=ir.o.reads.shape;subst N2 N3;rw[fK.o])
 | (refine wpList_store_row rfl 60 (.tmp 2) (.tmp 10) rfl G _ rfl rfl 60 _ sn.o (by kernel_rfl) rfl (by simp[Value.oneCell']) ?_))
 have hZ:=sn.o.setRow (cs':=#[.int .u64 S.count,.int .u64 S.epoch,.int .i64 S.data,.int .i64 S.slots,.int .i64 0,.int .i64 0,.bool false,.slice As' (S.data+2) cs',.slice Am' S.mem.length lJ]);have hk:=(Kp.refl (fun q=>q=G) w2).setRow G #[.int .u64 S.count,.int .u64 S.epoch,.int .i64 S.data,.int .i64 S.slots,.int .i64 0,.int .i64 0,.bool false,.slice As' (S.data+2) cs',.slice Am' S.mem.length lJ] (.inl rfl);refine bodyPost_ret (x_f rfl rfl hZ underlying60 rfl (by kernel_rfl)) rfl ?_;exact ⟨_,_,by rw[fK.o],(ir.o.kp hk (z_W ir.o.seats sn.o (by decide)) (z_W ir.o.mems sn.o (by decide))).more (by have:=HK.o.size;exact this),(HK.o.trans al.o).then hk fun q hq e=>(by have:=cR.o;have e:q=G:=e;omega:False)⟩
theorem sseal_any (hL:Lay w) (hb:Bk w b n σ F) (hw:10<=w.heap.size) (h:Blk w st 116 (stC b an key S vs vm sp)) (hsp:Blk w sp 226 #[.int .u64 ep,.int .u64 q]) (lK:10<=sp) (hi:i<n) (hs:sl S.slots) (hk:key.length=32) (ht:t<S.slots) (he:ep<4294967296) (hq:q<4294967296) (p:List UInt8) (hp:p.length=32) :
  Cl 66 #[.pointer (some ⟨st,0,none⟩),.int .i64 i,.int .i64 t,.string (bs p)] w fun e w'=>e=.returned (.tuple #[.string (chkB key (y_D ep q) i t p),.int .i64 0])/\Blk w' sp 226 #[.int .u64 ep,.int .u64 (q+1:Nat)]/\Kp (·=sp) w w':=by
 have dy:n<=12:=by obtain ⟨G,c,st,A,Φ,h0,_⟩:=hb;exact h0.n12
 have eC:=Zz (salive_any h);have od:=Zz (next_any w sp ep q he hq hsp);have fx:=Zz (fun W=>w_j W b an i S.slots key);have mz:=Zz (fun W F' (hb:Bk W b n σ F') (hL:Lay W) (bE:10<=W.heap.size)=>slseal_any y_R hL hb bE hi dy hs hk ht (y_D ep q) p (nonF_len ep q) hp);have HS:=Zz h;have ff:=Zz hsp;have eS:=Zz hb;have bj:=Zz hL;have fM:=Zz hw;have tV:=Zz lK;have c12:=h.c12;have aA:st≠sp:=Blk.ne_ h hsp (by decide);clear h hsp hb hL hw hp;generalize gv:y_D ep q=nn at *;go_enter func66,ntmps66;go_wp2_with fail;refine eC.o.mono ?_;rintro e w1 ⟨rfl,rfl⟩;go_wp2_with fail;refine od.o.mono ?_;rintro e w2 ⟨rfl,Fz,ag⟩;have mR:=Zz Fz.drew;have al:=Zz ag.drew;have fh:=Zz ((HS.o.kp ag aA).drew)
 have ak:=Zz ((eS.o.kp ag fun z hz hf=>by
  have hz:z=sp:=hz;subst hz
  exact eS.o.off ff.o (by unfold tyB;decide) hf).no (Kp.refl NoB w2).drew)
 have lv:=Zz ((bj.o.kp ag fun g hg e=>by have e:g=sp:=e;have:=tV.o;omega).no (Kp.refl NoB w2).drew);clear Fz ag c12
 go_upto_region 7 with fail
 refine fs ?_;generalize w2.drew=w3 at *;have c0:=fh.o.c0;have c1:=fh.o.c1;have c2:=fh.o.c2;have c6:=fh.o.c6;refine fp 0 ?_;refine fp 1 ?_;refine fp 2 ?_;refine fq 3 (fun W=>W.cell? ⟨st,0,none⟩=some (.pointer (some ⟨b,0,none⟩))/\W.cell? ⟨st,1,none⟩=some (.pointer (some ⟨an,0,none⟩))/\W.cell? ⟨st,2,none⟩=some (.string (bs key))) ⟨c0,c1,c2⟩ ?_;refine fp 4 ?_;refine fp 5 ?_;refine fp 6 ?_;refine fp 7 ?_;refine fp 8 ?_;refine f_c 9 c6 ?_;refine fp 11 ?_;refine fp 12 ?_;refine fp 13 ?_;refine fd 10 fun K Qx hK=>?_;go_simp;refine (fx.o w3).mono ?_;rintro e w4 ⟨rfl,aw⟩;have az:=Zz aw;refine hK _ _ (oW (oW oN)) ?_;clear hK K aw;refine fd 14 fun K Qx hK=>?_;go_simp;refine (mz.o w4 F (ak.o.no az.o) (lv.o.no az.o) (by have:=fM.o;have:=al.o.size;have:=az.o.size;omega)).mono ?_;rintro e w5 ⟨rfl,aG⟩;have ax:=Zz (az.o.trans aG);refine hK _ _ (oW (oW oN)) ?_;clear hK K aG;refine fp 15 ?_;refine fp 16 ?_;refine fp 17 ?_;refine fp 18 ?_;refine fe ?_;go_wp2;go_ret2;exact ⟨rfl,mR.o.kp ax.o fun h=>h,al.o.then ax.o fun _ _ h=>h.elim⟩
end
section
open GfM
theorem smay_any (w:World) (k:Nat) (hk:2<=k/\k<=8):Cl 59 #[.int .i64 k] w fun e w'=>e=.returned (.bool true)/\w'=w:=by
 have h1:decide (2<=k)=true:=by simp;omega
 have h2:decide (k<=8)=true:=by simp;omega
 have h3:(2:Int)<=(k:Int):=by omega
 have h4:(k:Int)<=8:=by omega
 go_enter func59,ntmps59;go_wp2;go_ret;exact ⟨rfl,rfl⟩
theorem make1_any (w:World) (s:ByteArray) (hs:s.size=32):Cl 103 #[.string s] w fun e w'=>e=.returned (.bool false)/\w=w':=by
 have h1:((32:Int) != 32)=false:=by decide
 go_enter func103,ntmps103;go_wp2;go_ret;exact ⟨rfl,rfl⟩
theorem index_make (w:World) (v:Value) (xs:List Value) (hv:z_g w v xs)
  (hF:∀r,r<xs.length->Cl 103 #[xs.getD r undef] w fun e w'=>e=.returned (.bool false)/\w=w') :
  Cl 159 #[v,.func (.func 103) #[] #[]] w fun e w'=>e=.returned (.int .i64 (-1))/\w=w':=by
 obtain ⟨A,c,rfl,aK,bf,aa⟩:=hv;have HC:=Zz aa;clear aa;have HF:=Zz hF;clear hF;obtain ⟨n,hn⟩:∃n,xs.length=n:=⟨_,rfl⟩;rw[hn] at aK ⊢;have HN:=Zz hn;clear hn;go_enter func159,ntmps159;go_wp2
 go_loop [5,8] (fun _ s8=>∃i:Nat,i<=n/\s8=.int .i64 i) (fun _ s8=>n-(intOf s8).toNat)
 case atStart=>exact ⟨0,by omega,rfl⟩
 case round =>
  obtain ⟨i,hi,rfl⟩:=hrel;by_cases af:i<n
  ·have bt:i<xs.length:=by rw[HN.o];exact af
   obtain ⟨b,off,rfl,aa⟩:=HC.o (by omega);have hx:=aa i bt;rw[q_d bt] at hx;have hf:=HF.o i bt;rw[q_a,q_d bt] at hf;simp only[Option.getD_some] at hf;generalize xs[i]=x at *;have HX:=Zz hf;clear hf aa;go_wp2_with fail;refine (HX.o).mono ?_;rintro e w' ⟨rfl,rfl⟩;go_wp2
   go_round
   case rel=>exact ⟨i+1,by omega,by go_num⟩
   case measure=>simp[intOf];omega
  ·obtain rfl:i=n:=by omega
   go_wp2;go_ret;exact ⟨rfl,rfl⟩
theorem contains_make (w:World) (v:Value) (xs:List Value) (hv:z_g w v xs)
  (hF:∀r,r<xs.length->Cl 103 #[xs.getD r undef] w fun e w'=>e=.returned (.bool false)/\w=w') :
  Cl 102 #[v,.func (.func 103) #[] #[]] w fun e w'=>e=.returned (.bool false)/\w=w':=by
 have hc:=index_make w v xs hv hF;have HC:=Zz hc;clear hc hF hv;go_enter func102,ntmps102;go_wp2_with fail;refine (HC.o).mono ?_;rintro e w' ⟨rfl,rfl⟩;go_wp2
 all_goals (go_ret;exact ⟨rfl,rfl⟩)
noncomputable def z_z (C:List ByteArray):List ByteArray:=C++[bs (enP C),bs (enQ C)]
theorem allC_len (C:List ByteArray):(z_z C).length=C.length+2:=by unfold z_z;rw[q_b];rfl
theorem sv_one2 (T:List ByteArray):∀u∈sv T,u.oneCell'=true:=by
 intro u hu;simp[sv] at hu;obtain ⟨_,_,rfl⟩:=hu;rfl
theorem lit_reads2 (W:World) (T:List ByteArray) (k:Nat) (hk:T.length=k) (hm:k<=1000):z_g (W.alloc (.cells (sv T).toArray 9)) (.slice (some ⟨W.heap.size,0,none⟩) k k) (sv T):=by
 have h:=Own.lit_ W W.heap.size 9 (sv T).toArray (q_e _) (by simp[z_c,maxLen];omega)
 have e:(sv T).toArray.size=k:=by simp[z_c,hk]
 rw[e] at h;exact h.reads
theorem make_any (w:World) (v:Value) (C:List ByteArray) (hv:z_g w v (sv C)) (hk:2<=C.length/\C.length<=8) (hz:Siz C 32) :
  Cl 65 #[v] w fun e w'=>∃u,e=.returned (.tuple #[u,.int .i64 0])/\Own w' w.heap.size 9 u (sv (z_z C))/\Kp NoB w w':=by
 have HF:=Zz (fun W (hR:z_g W v (sv C))=>contains_make W v (sv C) hR (fun r hr=>by
  rw[z_c] at hr;have:=y_y C r hr;rw[q_a,this]
  exact make1_any W _ (hz r hr)))
 have zE:=fun W u h=>encode_any W u C h;rw[hz.enE (by omega) (by omega) (by omega)] at zE;have N4:=Zz zE;clear zE;have HM:=Zz (fun W=>smay_any W C.length hk);have HR:=Zz hv;have fX:=Zz (show (([]:List Value).length+(sv C).length)*16<=140737488355328 by rw[z_c];simp;omega);have lv:=Zz (show (([]++sv C:List Value).length+(sv [bs (enP C),bs (enQ C)]).length)*16<=140737488355328 by rw[List.nil_append,z_c,z_c];simp;omega);have FA:=Zz (sv_one2 C);have FB:=Zz (sv_one2 [bs (enP C),bs (enQ C)]);have N5:Hid (∀W:World,z_g (W.alloc (.cells #[.string (bs (enP C)),.string (bs (enQ C))] 9)) (.slice (some ⟨W.heap.size,0,none⟩) 2 2) (sv [bs (enP C),bs (enQ C)])):=Zz (fun W=>lit_reads2 W [bs (enP C),bs (enQ C)] 2 rfl (by decide));have HD:Hid ([]++sv C++sv [bs (enP C),bs (enQ C)]=sv (z_z C)):=Zz (by rw[List.nil_append,<-w_0];rfl);clear hz;generalize hPP:bs (enP C)=P at *;generalize hQQ:bs (enQ C)=Q at *;generalize hDD:z_z C=D at *;have Ra:=Zz (Own.nil_ w w.heap.size 9);have fj:=Zz (Below.refl w.heap.size w);obtain ⟨A,c,rfl,aK,bf,aa⟩:=hv;rw[z_c] at aK aa HR HF ⊢;clear aa;generalize C.length=k at *;go_enter func65,ntmps65;go_wp2_with fail;refine (HM.o _).mono ?_;rintro e w1 ⟨rfl,rfl⟩;go_wp2_with fail;refine (HF.o _ HR.o).mono ?_;rintro e w2 ⟨rfl,rfl⟩;go_wp2_with fail;refine (N4.o _ _ HR.o).mono ?_;rintro e w3 ⟨rfl,bW⟩;have ID:=Zz (HR.o.below bW);have o8:=Zz (Ra.o.below bW);have aJ:=Zz (fj.o.trans bW);have fJ:=Zz bW.size
 go_upto_region 7 with (first
  | (at_builtin;refine y_t w1.heap.size rfl (.const (.slice none 0 0)) (.tmp 19) 38 9 (.string ⟨#[]⟩) 16 rfl underlying38 info9 rfl (by decide) _ _ _ _ rfl rfl ID.o FA.o o8.o aJ.o fJ.o fX.o ?_;intro v3 w3 o5 lj eW _;have N6:=Zz (o5.alloc (.cells #[.string P,.string Q] 9));have FC:=Zz (lj.alloc lj.size (.cells #[.string P,.string Q] 9));have N7:=Zz FC.o.size;clear o5)
  | (at_builtin;refine y_t w1.heap.size rfl (.tmp 20) (.tmp 23) 38 9 (.string ⟨#[]⟩) 16 rfl underlying38 info9 rfl (by decide) _ _ _ _ rfl rfl (N5.o _) FB.o N6.o FC.o N7.o lv.o ?_;intro v4 w4 BI r7 ln _;rw[HD.o] at BI))
 all_goals (go_ret2;exact ⟨_,rfl,BI,Kp.of_below r7 _⟩)
end
end Go.Proofs.YtdkheklakfbeeaaGreatDoor
