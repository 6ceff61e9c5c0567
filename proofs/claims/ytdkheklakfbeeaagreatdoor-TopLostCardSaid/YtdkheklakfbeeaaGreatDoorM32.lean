/- Part 32 of the proof. -/
import Derived.Test.YtdkheklakfbeeaaGreatDoorM31
set_option linter.all false
set_option maxRecDepth 100000
set_option maxHeartbeats 16000000
namespace Go.Proofs.YtdkheklakfbeeaaGreatDoor
open Go.RowKit Go.Proofs.Tryz
theorem wr_snoc (l:List Wr) (a:Nat) (x:ByteArray):wrC (l++[⟨a,x⟩])=wrC l++[.int .i64 a,.string x]:=by rw[v_j];rfl
theorem wr_ones (a:Nat) (x:ByteArray):∀u∈[Value.int .i64 a,.string x],u.oneCell'=true:=by
 intro u hu;rcases List.mem_cons.1 hu with rfl|hu
 ·rfl
 ·rcases List.mem_cons.1 hu with rfl|hu
  ·rfl
  ·cases hu
theorem MapA.noCell {P:Program} {k:TypeId} {α:Type} {M:KM P k α} {w:World} {b:Nat} {f:α->Option Value} {dom:List α} (h:MapA M w b f dom) (a:Addr) (ha:a.block=b):w.cell? a=none:=by
 obtain ⟨es,clock,hb⟩:=h.map;subst ha;simp[World.cell?,hb]
theorem z_g.kpN {S:Nat->Prop} {w w':World} {v:Value} {xs:List Value} (h:z_g w v xs) (k:Kp S w w') (hS:∀q,S q->∀a:Addr,a.block=q->w.cell? a=none):z_g w' v xs:=by
 obtain ⟨A,c,rfl,h1,h2,h3⟩:=h;refine ⟨A,c,rfl,h1,h2,fun h0=>?_⟩;obtain ⟨b,off,rfl,hr⟩:=h3 h0;refine ⟨b,off,rfl,fun j hj=>?_⟩;have hc:=hr j hj;rw[q_d hj] at hc ⊢;have hb:=q_c w _ hc;rw[x_b (w:=w) (k.block b hb fun hs=>by rw[hS b hs _ rfl] at hc;cases hc)];exact hc
section
variable {w:World} {b n i s:Nat} {key:List UInt8} {σ:Nat->DkS} {F:Nat->Prop}
theorem prepare_any (hL:Lay w) (h:Bk w b n σ F) (hw:10<=w.heap.size) (hi:i<n) (hs:sl s) (hk:key.length=32) (hd:(σ i).dead=false) (ch:Nat->ByteArray) (v:Value) (l:List Wr) (hv:z_Q w v 2 l.length (wrC l)) (hl:l.length<=100) (bI:∀x∈l,x.at'<s/\x.cell.size<=2032)
  (wE:∀q,1<=q->q<s->tl (σ i).now (100+q)=prT s ch q) :
  Cl 114 #[.agg (slC b i s key),.string (z_L s ch),v] w fun e w'=>∃u,e=.returned (.tuple #[u,.string (z_L s (chW ch l)),.int .i64 0])/\w'.ownsRow w.heap.size 240 2 u (prW s ch l).length (wrC (prW s ch l))/\Kp NoB w w':=by
 have jw:2<=s/\s<=4:=by rcases hs with rfl|rfl<;>decide
 have kj:∀x∈l,x.at'<s:=fun x hx=>(bI x hx).1;have HB:=Zz (Blk.new w 139 (slC b i s key));have HK:=Zz ((Kp.refl NoB w).alloc (.cells (slC b i s key) 139));have zU:=Zz (fun W (k:Kp NoB w W)=>checked_any (hL.no k) (h.no k) (by have:=k.size;omega) hi hs hk v l (hv.no k) (by omega) bI);have oy:=Zz (fun W (k:Kp NoB w W) j (hj:j<=l.length) t (ht:t<s) B1 hM=>prep_over (key:=key) (hL.no k) (h.no k) (by have:=k.size;omega) hi hs hd ch l kj wE j hj t ht B1 hM);have yl:=Zz (fun W (k:Kp NoB w W) j t (ht:t<s) c v hv=>prep_put (hL.no k) (by have:=k.size;omega) hs t ht (chW ch (l.take j)) c v hv);have sh:=Zz (fun W (k:Kp NoB w W) (c:ByteArray) (hc:c.size<=2032)=>leafB_any W (hL.no k) (by have:=k.size;omega) c (by omega));have jf:=Zz (fun W (k:Kp NoB w W) t (ht:t<s)=>y_R W s t hs ht (hL.no k) (by have:=k.size;omega));have kI:=Zz (fun t=>y_1 s t);have Ol:=Zz (fun (W:World) B f dom (hM:MapA KI W B f dom) (hl:dom.length<=1000)=>rising_any hM hl);have HV:=Zz (fun W (k:Kp NoB w W)=>hv.no k);have rU:=Zz (wrC_at l);have iX:=Zz (fun i (h:i<l.length)=>bI (l[i]'h) (q_B h));have vq:=Zz (doP_take s l);have Ec:=Zz (doC_take l);have kG:=Zz (chW_take ch l)
 have mi:Hid (∀j,(doP s (l.take j)).length<=200):=Zz fun j=>by have:=doP_len s (l.take j);have:=q_l (i:=j) (l:=l);omega
 have jv:Hid (∀j,(doC (l.take j)).length<=100):=Zz fun j=>by have:=doC_len (l.take j);have:=q_l (i:=j) (l:=l);omega
 have jz:Hid (∀j (hj:j<l.length),mixD (prT s (chW ch (l.take j))) (prT s (chW ch (l.take (j+1)))) (doP s (l.take j)) (z_p s (l[j]'hj).at')=atD (prT s (chW ch (l.take (j+1)))) (doP s (l.take (j+1)))):=Zz fun j hj=>by
  rw[mixD_all,doP_take s l j hj];intro k hk Y7;obtain ⟨q1,q2⟩:=doP_lt hs (l.take j) (take_mem kj) k hk;rw[chW_take ch l j hj];exact (prT_off hs (kj _ (q_B hj)) _ _ k q1 q2 Y7).symm
 have tX:Hid (∀j (hj:j<l.length),y_Q (txM (atD (chW ch (l.take j)) (doC (l.take j)))) (l[j]'hj).at' (.string (l[j]'hj).cell)=txM (atD (chW ch (l.take (j+1))) (doC (l.take (j+1))))):=Zz fun j hj=>by
  rw[doC_take l j hj,chW_take ch l j hj,<-atD_put];funext x;unfold y_Q txM atD y_I;by_cases e:x=(l[j]'hj).at'
  ·simp[e]
  ·simp[e]
 have F9:Hid (∀t,t<s->∀i (h:i<(z_p s t).length),(z_p s t)[i]'h<4):=Zz fun t ht i h=>by
  have:=pathN_lt (j:=i) hs ht
  rwa [x_O h] at this
 have Ga:Hid (l.take l.length=l):=Zz (List.take_length)
 have EH:Hid (∀q∈srt (doP s l),q<4):=Zz fun q hq=>by have:=doP_lt hs l kj q ((x_A _ _).1 hq);omega
 have Y8:Hid (∀q∈srt (doC l),q<4):=Zz fun q hq=>by have:=doC_lt l kj q ((x_A _ _).1 hq);omega
 have SX:Hid (z_L s ch=z_L s (chW ch (l.take 0))):=Zz rfl;have pU:Hid (doP s (l.take 0)=[]):=Zz rfl;have zp:Hid (doC (l.take 0)=[]):=Zz rfl;have lB:=@run_makeMap prog;obtain ⟨Av,cv,rfl,aK,bf,_,_⟩:=hv;obtain ⟨m,hm⟩:∃m,l.length=m:=⟨_,rfl⟩;have ej:=Zz hm;rw[hm] at HV hl aK;clear hL h bI kj wE hd hm;rw[SX.o];change Cl 114 #[.agg #[.pointer (some ⟨b,0,none⟩),.int .i64 i,.int .i64 s,.string (bs key)],.string (z_L s (chW ch (l.take 0))),.slice Av l.length cv] w _;rw[ej.o] at zU ⊢;have bE:=hw;generalize SY:z_L s (chW ch (l.take 0))=ue at *;have Js:=Zz SY;clear SY;go_enter func114,ntmps114
 go_upto_region 1 with fail
 change Code.wp _ _ _ _ (w.alloc (.cells (slC b i s key) 139));generalize aN:w.alloc (.cells (slC b i s key) 139)=w1 at *;clear aN;obtain ⟨G,hG⟩:∃G,w.heap.size=G:=⟨_,rfl⟩;rw[hG] at HB ⊢;have cR:=Zz hG;clear hG;have c0:=HB.o.c0;have c1:=HB.o.c1;have c2:=HB.o.c2;have c3:=HB.o.c3;go_wp2_with fail;refine (zU.o _ HK.o).mono ?_;rintro e w2 ⟨rfl,ag⟩;have ak:=Zz (HB.o.kp ag fun h=>h);have al:=Zz (HK.o.trans ag);clear ag c0 c1 c2 c3 HB HK zU
 go_upto_region 5 with fail
 have DM:(w2.alloc (.map #[] 0)).heap.size=w2.heap.size+1:=by simp
 have dj:Hid (MapA KI ((w2.alloc (.map #[] 0)).alloc (.map #[] 0)) w2.heap.size (txM (atD (prT s (chW ch (l.take 0))) (doP s (l.take 0)))) (doP s (l.take 0))):=Zz (by rw[pU.o,atD_nil];exact (MapA.made w2).alloc _);have dV:Hid (MapA KI ((w2.alloc (.map #[] 0)).alloc (.map #[] 0)) (w2.heap.size+1) (txM (atD (chW ch (l.take 0)) (doC (l.take 0)))) (doC (l.take 0))):=Zz (by rw[zp.o,atD_nil];have:=MapA.made (M:=KI) (w2.alloc (.map #[] 0));rwa [DM] at this);have az:=Zz ((al.o.alloc (.map #[] 0)).alloc (.map #[] 0));have bR:=Zz ((ak.o.alloc (.map #[] 0)).alloc (.map #[] 0));have Gb:Hid (w.heap.size<=w2.heap.size):=Zz al.o.size;clear ak al pU zp SX;generalize (w2.alloc (.map #[] 0)).alloc (.map #[] 0)=w4 at *;generalize w2.heap.size=B1 at *
 go_upto_region 6 with fail
 go_loopw [1,13,14,15,16,17,18,19,20,36] (fun s1 _ _ _ _ _ _ _ _ s36 wr=>∃j:Nat,j<=m/\s36=.int .i64 j/\s1=.string (z_L s (chW ch (l.take j)))/\Hid (Blk wr G 139 (slC b i s key))/\Hid (MapA KI wr B1 (txM (atD (prT s (chW ch (l.take j))) (doP s (l.take j)))) (doP s (l.take j)))/\Hid (MapA KI wr (B1+1) (txM (atD (chW ch (l.take j)) (doC (l.take j)))) (doC (l.take j)))/\Hid (Kp NoB w wr)) (fun _ _ _ _ _ _ _ _ _ s36 _=>m-(intOf s36).toNat)
 case atStart=>exact ⟨0,by omega,rfl,by rw[Js.o],bR,dj,dV,az⟩
 case round =>
  clear bR dj dV az;obtain ⟨j,hj,rfl,rfl,HB,dj,dV,HK⟩:=hrel;by_cases af:j<m
  ·have cF:j<l.length:=by rw[ej.o];exact af
   have bV:(j:Int)<(m:Int):=by omega
   obtain ⟨A,c,he,_,_,_,ae⟩:=HV.o wr HK.o;cases he;obtain ⟨pb,off,rfl,fT⟩:=ae (by omega);obtain ⟨q1,q2⟩:=rU.o j cF;have k0:=(fT (j*2) (by omega)).trans q1;have k1:=(fT (j*2+1) (by omega)).trans q2;rw[<-Nat.add_assoc] at k1;obtain ⟨z1,z2⟩:=iX.o j cF;have uf:=Zz (fun W k=>oy.o W k j (Nat.le_of_lt cF) (l[j]'cF).at' z1 B1);have Gc:=Zz (fun W k v=>yl.o W k j (l[j]'cF).at' z1 (l[j]'cF).cell v);rw[<-kG.o j cF] at Gc;have Om:=Zz (fun W k=>sh.o W k (l[j]'cF).cell z2);have On:=Zz (fun W k=>jf.o W k (l[j]'cF).at' z1);have Oo:=Zz (kI.o (l[j]'cF).at');have Oq:=Zz (jz.o j cF);have Ot:=Zz (tX.o j cF);have Ou:=Zz (Ec.o j cF);have Gd:=Zz (vq.o j cF);have Ov:=Zz (F9.o (l[j]'cF).at' z1);have Ow:=Zz (mi.o j);have Ox:=Zz (jv.o j);have wR:=Zz z1
   have Y9:dep s<=2:=by unfold dep;split<;>omega
   generalize (l[j]'cF).at'=a at *;generalize (l[j]'cF).cell=x at *;have cN:=Zz (Blk.new wr 152 #[.int .i64 a,.string x]);have bn:=Zz (HK.o.alloc (.cells #[.int .i64 a,.string x] 152));have gI:=Zz (HB.o.alloc (.cells #[.int .i64 a,.string x] 152));have ri:=Zz (dj.o.alloc (.cells #[.int .i64 a,.string x] 152));have ug:=Zz (dV.o.alloc (.cells #[.int .i64 a,.string x] 152));clear ae fT q1 q2 HB HK dj dV z2
   go_upto_region 8 with fail
   clear k0 k1;generalize wr.alloc (.cells #[.int .i64 a,.string x] 152)=w5 at *;generalize wr.heap.size=D at *;have c0:=gI.o.c0;have c1:=gI.o.c1;have c2:=gI.o.c2;have c3:=gI.o.c3;have d0:=cN.o.c0;go_wp2_with fail;refine (uf.o _ bn.o ri.o).mono ?_;rintro e w6 ⟨u6,le6,rfl,BY,ap⟩;have sg:=Zz BY;have aB:=Zz (bn.o.trans ap).drew;have v6:=Zz (gI.o.kp ap fun h=>h).drew;have jZ:=Zz (cN.o.kp ap fun h=>h).drew;have uh:=Zz (ri.o.no ap);have ui:=Zz (ug.o.no ap);clear ap BY c0 c1 c2 c3 d0 bn gI cN ri ug uf
   go_upto_region 11 with fail
   have sg:Hid (z_g w6.drew u6 (sv ((z_p s a).map (prT s (chW ch (l.take j)))))):=sg;have uh:Hid (MapA KI w6.drew B1 (txM (atD (prT s (chW ch (l.take j))) (doP s (l.take j)))) (doP s (l.take j))):=Zz (uh.o.same rfl);have ui:Hid (MapA KI w6.drew (B1+1) (txM (atD (chW ch (l.take j)) (doC (l.take j)))) (doC (l.take j))):=Zz (ui.o.same rfl);refine fs ?_;generalize w6.drew=w7 at *;have d0:=jZ.o.c0;have d1:=jZ.o.c1;refine fp 0 ?_;refine f_c 1 d0 ?_;refine fp 2 ?_;refine fp 3 ?_;refine f_c 4 d1 ?_;refine fd 5 fun K Qx hK=>?_;go_simp;refine (Om.o _ aB.o).mono ?_;rintro e w8 ⟨rfl,aL⟩;have bq:=Zz (aB.o.trans aL);have Jt:=Zz (v6.o.kp aL fun h=>h);have zV:=Zz (jZ.o.kp aL fun h=>h);have Ge:=Zz (uh.o.no aL);have rj:=Zz (ui.o.no aL);have Ez:=Zz (sg.o.below aL.below0);refine hK _ _ (oW (oK (zV.o.cell 0) oN)) ?_;clear hK K aL d0 d1 aB v6 jZ uh ui sg;refine fd 6 fun K Qx hK=>?_;go_simp;refine (Gc.o _ bq.o _ Ez.o).mono ?_;rintro e w9 ⟨u9,rfl,SZ,bL⟩;have tG:=Zz SZ;have aT:=Zz (bq.o.trans bL);have eE:=Zz (Jt.o.kp bL fun h=>h);have vk:=Zz (zV.o.kp bL fun h=>h);have lM:=Zz (Ge.o.no bL);have jp:=Zz (rj.o.no bL);refine hK _ _ (oW (oW oN)) ?_;clear hK K bL SZ bq Jt zV Ge rj Ez;refine fp 7 ?_;refine fp 8 ?_;refine fp 9 ?_;refine fp 10 ?_;refine fp 11 ?_;refine fp 12 ?_;refine fe ?_;have c2:=eE.o.c2;have d0:=vk.o.c0;go_wp2_with fail;refine (On.o _ aT.o).mono ?_;rintro e bO ⟨u10,rfl,Gf,cd⟩;have cU:=Zz (aT.o.trans cd);have fF:=Zz (eE.o.kp cd fun h=>h);have kh:=Zz (vk.o.kp cd fun h=>h);have eL:=Zz (lM.o.no cd);have Gg:=Zz (jp.o.no cd);have Gh:=Zz (tG.o.below cd.below0);have iq:=Zz Gf;clear cd Gf c2 d0 aT eE vk lM jp tG;generalize S1:z_p s a=pt at *;have Za:=Zz S1;clear S1;obtain ⟨p,hp⟩:∃p,pt.length=p:=⟨_,rfl⟩;have rk:=Zz hp
   have BZ:p=dep s:=by rw[<-hp];exact Oo.o
   clear hp;generalize S2:prT s (chW ch (l.take (j+1)))=E1 at *;have Zb:=Zz S2;clear S2;generalize prT s (chW ch (l.take j))=E0 at *;generalize doP s (l.take j)=iw at *
   have tm:0<p:=by rw[BZ];unfold dep;split<;>omega
   have pU:=Zz tm;obtain ⟨Ap,cp,rfl,Gi,Oy,tC⟩:=iq.o;obtain ⟨Au,cu,rfl,Gj,Oz,OA⟩:=Gh.o;rw[z_w,rk.o] at Gi tC ⊢;rw[z_c,q_i,rk.o] at Gj OA ⊢;obtain ⟨eb,eo,rfl,Gk⟩:=tC tm;obtain ⟨ub,uo,rfl,Gl⟩:=OA tm
   have nz:Hid (∀q (h:q<pt.length),bO.cell? ⟨eb,eo+q,none⟩=some (.int .i64 (pt[q]'h:Nat))):=Zz fun q h=>by
    rw[Gk q (by rw[<-rk.o];exact h),zv_at _ _ h,x_O h]
   have Zc:Hid (∀q (h:q<pt.length),bO.cell? ⟨ub,uo+q,none⟩=some (.string (E1 (pt[q]'h)))):=Zz fun q h=>by
    rw[Gl q (by rw[<-rk.o];exact h),y_y _ _ (by rw[q_i];exact h),tl_map _ _ _ h,x_O h]
   have iK:Hid (MapA KI bO B1 (txM (mixD E0 E1 iw (pt.take 0))) ((pt.take 0).foldl z_J iw)):=Zz (by
    have e:mixD E0 E1 iw (pt.take 0)=atD E0 iw:=mixD_nil _ _ _
    rw[e];exact eL.o)
   have mT:=Zz (Kp.refl (fun z=>z=B1) bO);have Zd:=Zz eL.o.noCell;clear tC OA Gk Gl Gi Oy Gj Oz eL iq Gh
   go_upto_region 14 with fail
   go_loopw [19,20,74] (fun _ _ s74 wr=>∃q:Nat,q<=p/\s74=.int .i64 q/\Hid (Blk wr G 139 (slC b i s key))/\Hid (Blk wr D 152 #[.int .i64 a,.string x])/\Hid (MapA KI wr B1 (txM (mixD E0 E1 iw (pt.take q))) ((pt.take q).foldl z_J iw))/\Hid (MapA KI wr (B1+1) (txM (atD (chW ch (l.take j)) (doC (l.take j)))) (doC (l.take j)))/\Hid (Kp NoB w wr)/\Hid (Kp (fun z=>z=B1) bO wr)) (fun _ _ s74 _=>p-(intOf s74).toNat)
   case atStart=>exact ⟨0,by omega,rfl,fF,kh,iK,Gg,cU,mT⟩
   case round =>
    clear fF kh iK Gg cU mT;obtain ⟨q,hq,rfl,HG,HD,HX,HN,HK,HR⟩:=hrel;by_cases Gm:q<p
    ·have rl:q<pt.length:=by rw[rk.o];exact Gm
     have DW:(q:Int)<(p:Int):=by omega
     have aa:∀B o v,bO.cell? ⟨B,o,none⟩=some v->wr.cell? ⟨B,o,none⟩=some v:=fun B o v hc=>by
      have hb:=q_c bO _ hc;rw[x_b (w:=bO) (HR.o.block B hb fun hs=>by rw[Zd.o _ hs] at hc;cases hc)];exact hc
     have k0:=aa _ _ _ (nz.o q rl);have k1:=aa _ _ _ (Zc.o q rl)
     have aq:((pt.take q).foldl z_J iw).length<1000:=by
      have:=v_2 (pt.take q) iw;have:=q_l (i:=q) (l:=pt);have:=Ow.o;omega
     obtain ⟨fa,gS,uj,bX⟩:=HX.o.put kd3 mapPairs (by simp only[maxLen];omega) (a:=pt[q]'rl) (show pt[q]'rl<=100000 by have:=Ov.o q rl;omega) (.string (E1 (pt[q]'rl)));replace gS:(Instr.mapUpdate 264 (.map (some B1)) (.int .i64 (pt[q]'rl:Nat)) (.string (E1 (pt[q]'rl)))).run prog wr=.ok () fa:=gS;rw[mixD_put,<-q_h rl] at uj
     have Gn:z_J ((pt.take q).foldl z_J iw) (pt[q]'rl)=(pt.take (q+1)).foldl z_J iw:=by rw[q_h rl,List.foldl_append];rfl
     rw[Gn] at uj;have jh:=Zz uj;have OC:=Zz (HR.o.trans bX);have cW:=Zz (HK.o.then bX fun z hz e=>(by have:=Gb.o;have e:z=B1:=e;omega:False));have OD:=Zz (HG.o.kp bX fun e=>HX.o.ne_blk HG.o (Eq.symm e));have OE:=Zz (HD.o.kp bX fun e=>HX.o.ne_blk HD.o (Eq.symm e));have OF:=Zz (HN.o.kp bX fun e=>(by have e:B1+1=B1:=e;omega:False));clear uj bX Gn aq aa HG HD HX HN HK HR;generalize E1 (pt[q]'rl)=y at *;generalize pt[q]'rl=a2 at *;go_wp2;go_roundw
     case rel=>exact ⟨q+1,by omega,by go_num,OD,OE,jh,OF,cW,OC⟩
     case measure=>simp[intOf];omega
    ·obtain rfl:q=p:=by omega
     have HX:Hid (MapA KI wr B1 (txM (atD E1 (doP s (l.take (j+1))))) (doP s (l.take (j+1)))):=Zz (by
      have h1:=HX.o
      have e:pt.take q=pt:=by rw[<-rk.o,List.take_length]
      rw[e,Oq.o] at h1;rw[Gd.o];rw[Gd.o] at h1
      exact h1)
     have e0:=HD.o.c0;have e1:=HD.o.c1;obtain ⟨fN,gS,zW,bN⟩:=HN.o.put kd3 y_7 (by have:=Ox.o;simp only[maxLen];omega) (a:=a) (show a<=100000 by have:=wR.o;omega) (.string x);replace gS:(Instr.mapUpdate 86 (.map (some (B1+1))) (.int .i64 a) (.string x)).run prog wr=.ok () fN:=gS;rw[Ot.o,<-Ou.o] at zW;have iu:=Zz zW;have bp:=Zz (HK.o.then bN fun z hz e=>(by have:=Gb.o;have e:z=B1+1:=e;omega:False));have rn:=Zz (HG.o.kp bN fun e=>HN.o.ne_blk HG.o (Eq.symm e));have OG:=Zz (HX.o.kp bN fun e=>(by have e:B1=B1+1:=e;omega:False));clear zW bN HG HD HX HN HK HR;go_wp2;go_roundw
     case rel=>exact ⟨j+1,by omega,by go_num,rfl,rn,by rw[Zb.o];exact OG,iu,bp⟩
     case measure=>simp[intOf];omega
  ·obtain rfl:j=m:=by omega
   have e0:l.take j=l:=by have:=Ga.o;rwa [ej.o] at this
   have Gp:Hid ((doP s l).length<=200):=Zz (by have:=mi.o j;rwa [e0] at this);have Gq:Hid ((doC l).length<=100):=Zz (by have:=jv.o j;rwa [e0] at this);rw[e0] at dj dV
   have aO:∀(W:World) (u:Value),W.ownsRow w.heap.size 240 2 u ((srt (doP s l)).length+(srt (doC l)).length) (wrC (((srt (doP s l)).map fun q=>⟨100+q,prT s (chW ch l) q⟩)++(srt (doC l)).map fun t=>⟨120+t,chW ch l t⟩))->W.ownsRow w.heap.size 240 2 u (prW s ch l).length (wrC (prW s ch l)):=fun W u h=>by
    unfold prW;rw[q_b,q_i,q_i];exact h
   have bS:=Zz aO;rw[e0];clear aO e0 jz tX vq Ec kG oy yl sh jf kI F9 HV rU iX mi jv Ga
   have S5:Hid (∀q,(prT s (chW ch l) q).size<=100):=Zz fun q=>by rw[w_H];decide
   generalize S6:prW s ch l=PW at *;generalize S7:z_L s (chW ch l)=tpe at *;have kO:=Zz S6;have ta:=Zz S7;clear S6 S7;have OH:Hid (∀q∈srt (doP s l),q∈doP s l):=Zz fun q h=>(x_A _ _).1 h;have OI:Hid (∀q∈srt (doC l),q∈doC l):=Zz fun q h=>(x_A _ _).1 h;have S8:Hid ((srt (doP s l)).length<=200):=Zz (by rw[w_P];exact Gp.o);have OJ:Hid ((srt (doC l)).length<=100):=Zz (by rw[w_P];exact Gq.o);generalize prT s (chW ch l)=E1 at dj bS S5;obtain ⟨E2,S9⟩:∃E2,chW ch l=E2:=⟨_,rfl⟩;rw[S9] at dV bS;clear S9;generalize doP s l=dP at *;generalize doC l=dC at *;have mC:=Zz (fun W hM=>Ol.o W B1 (txM (atD E1 dP)) dP hM (q_g Gp.o (by decide)));have pL:=Zz (fun W hM=>Ol.o W (B1+1) (txM (atD E2 dC)) dC hM (q_g Gq.o (by decide)));clear Ol;generalize srt dP=LP at *;generalize srt dC=LC at *;go_wp2_with fail;refine (mC.o _ dj.o).mono ?_;rintro e eU ⟨v13,rfl,Gs,jq⟩;obtain ⟨A13,c13,rfl,_,_,bH⟩:=Gs.reads;obtain ⟨P,hP⟩:∃P,LP.length=P:=⟨_,rfl⟩;rw[z_w,hP] at bH ⊢;have cM:=Zz hP;have dc:=Zz bH;have lZ:=Zz (dj.o.no jq);have nY:=Zz (dV.o.no jq);have sR:=Zz (HK.o.trans jq);have Ta:=Zz (Kp.refl NoB eU);have B4:Hid (eU.ownsRow eU.heap.size 240 2 (.slice none 0 0) 0 (wrC ((LP.map fun q=>(⟨100+q,E1 q⟩:Wr)).take 0))):=Zz (World.ownsRow_nil _ _ _ _);have gK:Hid (w.heap.size<=eU.heap.size):=Zz sR.o.size;clear Gs jq bH hP HB dj dV HK
   go_upto_region 22 with fail
   go_loopw [21,23,95] (fun s21 _ s95 wr=>∃k:Nat,k<=P/\s95=.int .i64 k/\Hid (wr.ownsRow eU.heap.size 240 2 s21 k (wrC ((LP.map fun q=>(⟨100+q,E1 q⟩:Wr)).take k)))/\Hid (MapA KI wr B1 (txM (atD E1 dP)) dP)/\Hid (MapA KI wr (B1+1) (txM (atD E2 dC)) dC)/\Hid (Kp NoB w wr)/\Hid (Kp NoB eU wr)) (fun _ _ s95 _=>P-(intOf s95).toNat)
   case atStart=>exact ⟨0,by omega,rfl,B4,lZ,nY,sR,Ta⟩
   case round =>
    clear B4 lZ nY sR Ta;obtain ⟨k,hk,rfl,HO,dj,dV,HK,HR⟩:=hrel;by_cases bo:k<P
    ·have dN:k<LP.length:=by rw[cM.o];exact bo
     have bV:(k:Int)<(P:Int):=by omega
     obtain ⟨rb,ro,rfl,ae⟩:=dc.o (by omega)
     have hx:eU.cell? ⟨rb,ro+k,none⟩=some (.int .i64 (LP[k]'dN:Nat)):=by rw[ae k bo,zv_at _ _ dN,x_O dN]
     have k0:=(HR.o.below0.cell (q_c eU _ hx)).trans hx;have Iv:=EH.o (LP[k]'dN) (q_B dN);have Gt:=OH.o (LP[k]'dN) (q_B dN);have fU:=(dj.o.look kd3 mapPairs (zero9 wr) (a:=LP[k]'dN) (show LP[k]'dN<=100000 by omega)).1;replace fU:(Instr.lookup 264 (.map (some B1)) (.int .i64 (LP[k]'dN:Nat)) false).run prog wr=.ok ((txM (atD E1 dP) (LP[k]'dN)).getD (.string ⟨#[]⟩)) wr:=fU;rw[show (txM (atD E1 dP) (LP[k]'dN)).getD (.string ⟨#[]⟩)=.string (E1 (LP[k]'dN)) by simp[txM,atD,Gt]] at fU
     have aR:Hid (wrC ((LP.map fun q=>(⟨100+q,E1 q⟩:Wr)).take (k+1))=wrC ((LP.map fun q=>(⟨100+q,E1 q⟩:Wr)).take k)++[.int .i64 (100+LP[k]'dN:Nat),.string (E1 (LP[k]'dN))]):=Zz (by
      rw[q_h (by rw[q_i];exact dN),List.getElem_map,wr_snoc])
     have hez:=S5.o (LP[k]'dN);clear hx ae Gt;generalize LP[k]'dN=nd at *;generalize E1 nd=y at *
     have tj:(100:Int)+(nd:Int)=((100+nd:Nat):Int):=by omega
     have nv:IntKind.i64.wrap ((100+nd:Nat):Int)=((100+nd:Nat):Int):=by rw[q_r];omega
     have b9:=Zz (wr_ones (100+nd) y);have ie:=HR.o.size;have gC:=Zz HO.o;have gD:=Zz (fun q (hq:u21.ownBlock=some q)=>(z_u HO.o hq).1);have OL:=gK.o
     have pi:P<=200:=by have:=S8.o;have:=cM.o;omega
     have EJ:=Zz pi;generalize 100+nd=ka at *
     go_wp2_with (at_builtin;refine y_v eU.heap.size rfl (.tmp 99) (.tmp 106) 182 240 (.agg #[.int .i64 0,.string ⟨#[]⟩]) 2 24 rfl underlying182 infoIW rfl (by decide) (by decide) u21 k _ [.int .i64 ka,.string y] rfl rfl rfl b9.o gC.o ie (by have:=EJ.o;omega) ?_;intro v1 w9 dL eR df;have cT:=Zz dL;have eE:=Zz eR;clear dL eR df)
     rw[<-aR.o] at cT;have aC:Kp (fun q=>some q=u21.ownBlock) wr w9:=Kp.of_grown eE.o fun _ h=>h
     have Tb:∀g f dom,MapA KI wr g f dom->¬some g=u21.ownBlock:=fun g f dom hM e=>by
      obtain ⟨cs,hb⟩:=z_i gC.o e.symm;exact hM.ne_blk hb rfl
     have lM:=Zz (dj.o.kp aC (Tb _ _ _ dj.o));have jp:=Zz (dV.o.kp aC (Tb _ _ _ dV.o));have aT:=Zz (HK.o.then aC fun q hq h=>by have:=gD.o q h.symm;omega);have mg:=Zz (HR.o.then aC fun q hq h=>by have:=gD.o q h.symm;omega);go_roundw
     case rel=>exact ⟨k+1,by omega,by go_num,cT,lM,jp,aT,mg⟩
     case measure=>simp[intOf];omega
    ·obtain rfl:k=P:=by omega
     have HO:Hid (wr.ownsRow eU.heap.size 240 2 u21 k (wrC (LP.map fun q=>(⟨100+q,E1 q⟩:Wr)))):=Zz (by
      have h1:=HO.o
      rwa [q_t (by rw[q_i,cM.o];exact q_e _)] at h1)
     go_wp2_with fail;refine (pL.o _ dV.o).mono ?_;rintro e kQ ⟨v14,rfl,uk,rp⟩;obtain ⟨Tc,c14,rfl⟩:=uk.shape;obtain ⟨C,hC⟩:∃C,LC.length=C:=⟨_,rfl⟩;rw[z_w,hC] at uk ⊢;have mG:=Zz hC;have nY:=Zz (dV.o.no rp);have sR:=Zz (HK.o.trans rp)
     have B4:Hid (kQ.ownsRow eU.heap.size 240 2 u21 (k+0) (wrC ((LP.map fun q=>(⟨100+q,E1 q⟩:Wr))++(LC.map fun q=>(⟨120+q,E2 q⟩:Wr)).take 0))):=Zz (by
      rw[List.take_zero,List.append_nil]
      exact z_e HO.o rp fun _ _ h=>h)
     have Td:Hid (Own kQ 0 3 (.slice Tc C c14) (zv LC)):=Zz (uk.more (Nat.zero_le _));have Mg:Hid (eU.heap.size<=kQ.heap.size):=Zz (q_g HR.o.size rp.size);clear uk rp hC HO dj dV HK HR;obtain ⟨A21,c21,rfl⟩:=z_r B4.o
     go_upto_region 27 with fail
     go_loopw [21,25,112] (fun s21 _ s112 wr=>∃q:Nat,q<=C/\s112=.int .i64 q/\Hid (wr.ownsRow eU.heap.size 240 2 s21 (k+q) (wrC ((LP.map fun q=>(⟨100+q,E1 q⟩:Wr))++(LC.map fun q=>(⟨120+q,E2 q⟩:Wr)).take q)))/\Hid (MapA KI wr (B1+1) (txM (atD E2 dC)) dC)/\Hid (Kp NoB w wr)/\Hid (Own wr 0 3 (.slice Tc C c14) (zv LC))/\Hid (eU.heap.size<=wr.heap.size)) (fun _ _ s112 _=>C-(intOf s112).toNat)
     case atStart=>exact ⟨0,by omega,rfl,B4,nY,sR,Td,Mg⟩
     case round =>
      clear B4 nY sR Td Mg;obtain ⟨q,hq,rfl,HO,dV,HK,HV,HS⟩:=hrel;by_cases Gm:q<C
      ·have rl:q<LC.length:=by rw[mG.o];exact Gm
       have bV:(q:Int)<(C:Int):=by omega
       obtain ⟨A,c,he,_,_,ae⟩:=HV.o.reads;rw[z_w,mG.o] at he ae;cases he;obtain ⟨rb,ro,rfl,fT⟩:=ae (by omega)
       have k0:wr.cell? ⟨rb,ro+q,none⟩=some (.int .i64 (LC[q]'rl:Nat)):=by rw[fT q Gm,zv_at _ _ rl,x_O rl]
       have Iv:=Y8.o (LC[q]'rl) (q_B rl);have Gt:=OI.o (LC[q]'rl) (q_B rl);have fU:=(dV.o.look kd3 y_7 (zero9 wr) (a:=LC[q]'rl) (show LC[q]'rl<=100000 by omega)).1;replace fU:(Instr.lookup 86 (.map (some (B1+1))) (.int .i64 (LC[q]'rl:Nat)) false).run prog wr=.ok ((txM (atD E2 dC) (LC[q]'rl)).getD (.string ⟨#[]⟩)) wr:=fU;rw[show (txM (atD E2 dC) (LC[q]'rl)).getD (.string ⟨#[]⟩)=.string (E2 (LC[q]'rl)) by simp[txM,atD,Gt]] at fU
       have aR:Hid (wrC ((LP.map fun q=>(⟨100+q,E1 q⟩:Wr))++(LC.map fun q=>(⟨120+q,E2 q⟩:Wr)).take (q+1))=wrC ((LP.map fun q=>(⟨100+q,E1 q⟩:Wr))++(LC.map fun q=>(⟨120+q,E2 q⟩:Wr)).take q)++[.int .i64 (120+LC[q]'rl:Nat),.string (E2 (LC[q]'rl))]):=Zz (by
        rw[q_h (by rw[q_i];exact rl),List.getElem_map,<-List.append_assoc,wr_snoc])
       clear ae fT Gt;generalize LC[q]'rl=nd at *;generalize E2 nd=y at *
       have tj:(120:Int)+(nd:Int)=((120+nd:Nat):Int):=by omega
       have nv:IntKind.i64.wrap ((120+nd:Nat):Int)=((120+nd:Nat):Int):=by rw[q_r];omega
       have b9:=Zz (wr_ones (120+nd) y);have gC:=Zz HO.o;have OL:=gK.o
       have pi:k<=200/\C<=100:=by have:=S8.o;have:=cM.o;have:=OJ.o;have:=mG.o;omega
       have EJ:=Zz pi;have HQ:=Zz Gm;have Ze:=pi.2;clear pi;generalize 120+nd=ka at *;have gD:=Zz (fun z (hz:u21.ownBlock=some z)=>(z_u HO.o hz).1)
       have Zf:Hid (∀z,(Value.slice (some ⟨rb,ro,none⟩) C c14).ownBlock=some z->¬some z=u21.ownBlock):=Zz fun z hz e=>by
        obtain ⟨iz,ay⟩:=z_i HV.o hz;obtain ⟨dq,am⟩:=z_i gC.o e.symm;exact Blk.ne_ ay am (by decide) rfl
       have ie:=HS.o
       go_wp2_with (at_builtin;refine y_v eU.heap.size rfl (.tmp 116) (.tmp 123) 182 240 (.agg #[.int .i64 0,.string ⟨#[]⟩]) 2 24 rfl underlying182 infoIW rfl (by decide) (by decide) u21 (k+q) _ [.int .i64 ka,.string y] rfl rfl rfl b9.o gC.o ie (by have:=EJ.o;have:=HQ.o;omega) ?_;intro v1 w9 dL eR df;have cT:=Zz dL;have eE:=Zz eR;clear dL eR df)
       rw[<-aR.o] at cT;have aC:Kp (fun z=>some z=u21.ownBlock) wr w9:=Kp.of_grown eE.o fun _ h=>h
       have jp:=Zz (dV.o.kp aC fun e=>by
        obtain ⟨cs,hb⟩:=z_i gC.o e.symm
        exact dV.o.ne_blk hb rfl)
       have aT:=Zz (HK.o.then aC fun z hz h=>by have:=gD.o z h.symm;omega);have ON:=Zz (HV.o.kp aC Zf.o);have ig:Hid (eU.heap.size<=w9.heap.size):=Zz (q_g HS.o aC.size);go_roundw
       case rel=>exact ⟨q+1,by omega,by go_num,cT,jp,aT,ON,ig⟩
       case measure=>simp[intOf];omega
      ·obtain rfl:q=C:=by omega
       have hO:=HO.o;rw[q_t (by rw[q_i,mG.o];exact q_e _),<-cM.o,<-mG.o] at hO;have bm:=bS.o _ _ (w_s hO gK.o);have de:=Zz bm;clear hO bm HO dV HV HS;go_wp2
       go_ret3
       refine ⟨u21,?_,?_,HK.o⟩
       ·rw[ta.o];rfl
       ·rw[kO.o];exact de.o
end
section
variable {w:World} {b n i s:Nat} {key:List UInt8} {σ:Nat->DkS} {F:Nat->Prop}
theorem prepdead_any (hL:Lay w) (h:Bk w b n σ F) (hw:10<=w.heap.size) (hi:i<n) (hs:sl s) (hk:key.length=32) (hd:(σ i).dead=true) (ue:ByteArray) (v:Value) (l:List Wr) (hv:z_Q w v 2 l.length (wrC l)) (h0:0<l.length) (hl:l.length<=100) (bI:∀x∈l,x.at'<s/\x.cell.size<=2032) :
  Cl 114 #[.agg (slC b i s key),.string ue,v] w fun e w'=>e=.returned (.tuple #[.slice none 0 0,.string ⟨#[]⟩,.int .i64 20])/\Kp NoB w w':=by
 have HB:=Zz (Blk.new w 139 (slC b i s key));have HK:=Zz ((Kp.refl NoB w).alloc (.cells (slC b i s key) 139));have zU:=Zz (fun W (k:Kp NoB w W)=>checked_any (hL.no k) (h.no k) (by have:=k.size;omega) hi hs hk v l (hv.no k) (by omega) bI);have oy:=Zz (fun W (k:Kp NoB w W) t (ht:t<s) B1 (hM:MapA KI W B1 (txM (atD (fun _=>ByteArray.empty) [])) [])=>overdead_any (key:=key) y_R (hL.no k) (h.no k) (by have:=k.size;omega) hi hs ht hd (.map (some B1)) _ (txM_look hM) rfl ue);have HV:=Zz (fun W (k:Kp NoB w W)=>hv.no k);have rU:=Zz (wrC_at l);have iX:=Zz (fun i (h:i<l.length)=>bI (l[i]'h) (q_B h));have lB:=@run_makeMap prog;obtain ⟨Av,cv,rfl,aK,bf,_,_⟩:=hv;obtain ⟨m,hm⟩:∃m,l.length=m:=⟨_,rfl⟩;have ej:=Zz hm;rw[hm] at HV hl aK h0;clear hL h bI hd hm;change Cl 114 #[.agg #[.pointer (some ⟨b,0,none⟩),.int .i64 i,.int .i64 s,.string (bs key)],.string ue,.slice Av l.length cv] w _;rw[ej.o] at zU ⊢;have bE:=hw;go_enter func114,ntmps114
 go_upto_region 1 with fail
 change Code.wp _ _ _ _ (w.alloc (.cells (slC b i s key) 139));generalize aN:w.alloc (.cells (slC b i s key) 139)=w1 at *;clear aN;obtain ⟨G,hG⟩:∃G,w.heap.size=G:=⟨_,rfl⟩;rw[hG] at HB ⊢;have cR:=Zz hG;clear hG;have c0:=HB.o.c0;have c1:=HB.o.c1;have c2:=HB.o.c2;have c3:=HB.o.c3;go_wp2_with fail;refine (zU.o _ HK.o).mono ?_;rintro e w2 ⟨rfl,ag⟩;have ak:=Zz (HB.o.kp ag fun h=>h);have al:=Zz (HK.o.trans ag);clear ag c0 c1 c2 c3 HB HK zU
 go_upto_region 5 with fail
 have dj:Hid (MapA KI ((w2.alloc (.map #[] 0)).alloc (.map #[] 0)) w2.heap.size (txM (atD (fun _=>ByteArray.empty) [])) []):=Zz (by rw[atD_nil];exact (MapA.made w2).alloc _);have az:=Zz ((al.o.alloc (.map #[] 0)).alloc (.map #[] 0));have bR:=Zz ((ak.o.alloc (.map #[] 0)).alloc (.map #[] 0));clear ak al;generalize (w2.alloc (.map #[] 0)).alloc (.map #[] 0)=w4 at *;generalize w2.heap.size=B1 at *
 go_upto_region 6 with fail
 go_loopw [1,13,14,15,16,17,18,19,20,36] (fun s1 _ _ _ _ _ _ _ _ s36 wr=>s36=.int .i64 0/\s1=.string ue/\wr=w4) (fun _ _ _ _ _ _ _ _ _ _ _=>0)
 case atStart=>exact ⟨rfl,rfl,rfl⟩
 case round =>
  obtain ⟨rfl,rfl,rfl⟩:=hrel
  have bV:(0:Int)<(m:Int):=by omega
  have cF:0<l.length:=by rw[ej.o];exact h0
  obtain ⟨A,c,he,_,_,_,ae⟩:=HV.o wr az.o;cases he;obtain ⟨pb,off,rfl,fT⟩:=ae h0;obtain ⟨q1,q2⟩:=rU.o 0 cF;have k0:=(fT (0*2) (by omega)).trans q1;have k1:=(fT (0*2+1) (by omega)).trans q2;rw[<-Nat.add_assoc] at k1;simp only[Nat.zero_mul,Nat.add_zero] at k0 k1;obtain ⟨z1,z2⟩:=iX.o 0 cF;have uf:=Zz (fun W k=>oy.o W k (l[0]'cF).at' z1 B1);generalize (l[0]'cF).at'=a at *;generalize (l[0]'cF).cell=x at *;have cN:=Zz (Blk.new wr 152 #[.int .i64 a,.string x]);have bn:=Zz (az.o.alloc (.cells #[.int .i64 a,.string x] 152));have gI:=Zz (bR.o.alloc (.cells #[.int .i64 a,.string x] 152));have ri:=Zz (dj.o.alloc (.cells #[.int .i64 a,.string x] 152));clear ae fT q1 q2 bR az dj z2
  go_upto_region 8 with fail
  clear k0 k1;generalize wr.alloc (.cells #[.int .i64 a,.string x] 152)=w5 at *;generalize wr.heap.size=D at *;have c0:=gI.o.c0;have c1:=gI.o.c1;have c2:=gI.o.c2;have c3:=gI.o.c3;have d0:=cN.o.c0;go_wp2_with fail;refine (uf.o _ bn.o ri.o).mono ?_;rintro e w6 ⟨rfl,ap⟩;have aB:=Zz (bn.o.trans ap);clear ap c0 c1 c2 c3 d0;go_wp2
  go_ret3
  exact ⟨rfl,aB.o⟩
end
def failM (L:List Mem) (i:Nat):List Mem:=L.modify i fun m=>{ m with st:=2 }
def failS (S:Sup) (i:Nat):Sup:={ S with mem:=failM S.mem i }
theorem failM_len (L:List Mem) (i:Nat):(failM L i).length=L.length:=by simp[failM]
theorem failM_set (L:List Mem) (i:Nat) (h:i<L.length):L.set i { L[i]'h with st:=2 }=failM L i:=by
 unfold failM;apply q_G;intro k;rw[List.getElem?_modify];by_cases e:i=k
 ·subst e;simp[h]
 ·simp[e]
def y_l (S:Sup):Nat->Nat
 | 0=>0
 | k+1=>y_l S k+(if stA S k=1 then 0 else 1)
theorem goneN_le (S:Sup) (k:Nat):y_l S k<=k:=by
 induction k with
 | zero=>exact q_e _
 | succ k ih=>unfold y_l;split<;>omega
section
variable {w:World} {wk m1 m2 base:Nat} {S:Sup} {vs vm:Value}
theorem stands_any (h:Blk w wk 163 (wkC S vs vm m1 m2)) (hR:SupO w base S vs vm) (hS:SupOk S) :
  Cl 116 #[.pointer (some ⟨wk,0,none⟩)] w fun e w'=>e=.returned (.bool (decide (y_l S (S.data+2)<=2)))/\w'=w:=by
 have iJ:=hS.n1;have zG:=hS.d8;obtain ⟨As,cs,Am,cm,cQ,cq⟩:=hR.reads.shape;obtain ⟨rb,off,mE,Gu⟩:=hR.reads.memAt (Kp.refl _ _) cq (by omega);subst mE;obtain ⟨sb,so,yd,lL⟩:=hR.reads.seatAt (Kp.refl _ _) cQ;subst yd;subst cQ cq;have tO:=Zz Gu;have mz:=Zz lL;have aR:=Zz (fun i (h:i<S.mem.length)=>(⟨hS.st2 i h,x_6 h⟩:_/\_));have k7:=h.c7;have k8:=h.c8;have ou:=Zz (goneN_le S);have Dv:Hid (∀k,y_l S (k+1)=y_l S k+(if stA S k=1 then 0 else 1)):=Zz fun _=>rfl;clear h hR hS Gu lL;go_enter func116,ntmps116
 go_upto_region 3 with fail
 go_loopw [3,5,12] (fun s3 _ s12 wr=>∃i:Nat,i<=S.data+2/\s12=.int .i64 i/\s3=.int .i64 (y_l S i)/\wr=w) (fun _ _ s12 _=>S.data+2-(intOf s12).toNat)
 case atStart=>exact ⟨0,by omega,rfl,rfl,rfl⟩
 case round =>
  obtain ⟨i,hi,rfl,rfl,rfl⟩:=hrel;by_cases af:i<S.data+2
  ·have bV:(i:Int)<(S.data:Int)+2:=by omega
   have bt:i<S.mem.length:=by omega
   have Zg:(i:Int)<(S.mem.length:Int):=by omega
   have q0:=mz.o i af;have p0:=(tO.o i bt).1;obtain ⟨nt,Te⟩:=aR.o i bt;have tr:=ou.o i;have vf:=Dv.o i;rw[Te] at vf;generalize (S.mem[i]'bt).st=kg at *;have Gv:=Zz vf;clear vf Te;generalize y_l S i=gg at *;by_cases h1:kg=1
   ·subst h1
    have hz:y_l S (i+1)=gg:=by rw[Gv.o];simp
    have HZ:=Zz hz
    have b1:((1:Int) != 1)=false:=by decide
    clear hz;go_wp2;go_roundw
    case rel=>exact ⟨i+1,by omega,by go_num,by rw[HZ.o],trivial⟩
    case measure=>simp[intOf];omega
   ·have hz:y_l S (i+1)=gg+1:=by rw[Gv.o,if_neg h1]
    have HZ:=Zz hz
    have b1:((kg:Int) != 1)=true:=by rw[bne_iff_ne];omega
    have b2:¬((kg:Int)=1):=by omega
    have M1:gg<=100:=by omega
    clear hz;go_wp2;go_roundw
    case rel=>exact ⟨i+1,by omega,by go_num,by rw[HZ.o];go_num,trivial⟩
    case measure=>simp[intOf];omega
  ·obtain rfl:i=S.data+2:=by omega
   have Gw:decide (((y_l S (S.data+2):Nat):Int)<=2)=decide (y_l S (S.data+2)<=2):=by rw[decide_eq_decide];omega
   have DD:=Zz Gw;clear Gw;obtain ⟨gg,gQ⟩:∃gg,y_l S (S.data+2)=gg:=⟨_,rfl⟩;rw[gQ];rw[gQ] at DD;have aU:=Zz gQ;clear gQ;go_wp2;go_ret;exact ⟨by rw[aU.o,<-DD.o];rfl,rfl⟩
theorem fails_any (h:Blk w wk 163 (wkC S vs vm m1 m2)) (hR:SupO w base S vs vm) {wf:Nat->Option Value} {dom:List Nat} (hM:MapA KI w m1 wf dom) (i:Nat) (hi:i<S.mem.length) (sD:i<=1000) (aH:(S.mem[i]'hi).st<=2) :
  Cl 115 #[.pointer (some ⟨wk,0,none⟩),.int .i64 i] w fun e w'=>e=.returned (.tuple #[])/\Blk w' wk 163 (wkC (failS S i) vs vm m1 m2)/\SupO w' base (failS S i) vs vm/\MapA KI w' m1 (delK wf i) (dom.erase i)/\∃g,vm.ownBlock=some g/\Kp (fun q=>q=g\/q=m1) w w':=by
 obtain ⟨g,cm,mP,bu,bJ⟩:=y_u hR.mems (by omega);subst mP;obtain ⟨q0,_,_⟩:=x_p S.mem i hi;have k8:=h.c8
 have g0:w.cell? ⟨g,i*3,none⟩=some (.int .i64 ((S.mem[i]'hi).st:Int)):=by rw[z_O hR.mems _ (by omega)];exact q0
 have fg:=y_o hR.mems (i*3);have sy:=x_i hR.mems (i*3) (.int .i64 (2:Nat));rw[memC_st S.mem i hi 2,failM_set] at sy;have aC:=(Kp.refl (fun q=>q=g) w).setCell ⟨g,i*3,none⟩ (.int .i64 2) (.inl rfl);obtain ⟨zA,dW⟩:=z_i hR.mems (q:=g) rfl;have dJ:=h.kp aC fun e=>Blk.ne_ h dW (by decide) e
 have zY:=hR.seats.kp aC fun q hq e=>by
  obtain ⟨iz,ay⟩:=z_i hR.seats hq;have e:q=g:=e;subst e;exact Blk.ne_ ay dW (by decide) rfl
 have Gx:=hM.kp aC fun e=>hM.ne_blk dW e;obtain ⟨w2,Gy,ez,ag⟩:=Gx.del kd3 mapWS (a:=i) (show i<=100000 by omega) 0;have bY:Kp (fun q=>q=g\/q=m1) w w2:=(aC.mono fun q _ e=>Or.inl e).trans (ag.mono fun q _ e=>Or.inr e)
 have de:Hid (Blk w2 wk 163 (wkC (failS S i) (vs) (.slice (some ⟨g,0,none⟩) S.mem.length cm) m1 m2)/\SupO w2 base (failS S i) vs (.slice (some ⟨g,0,none⟩) S.mem.length cm)/\MapA KI w2 m1 (delK wf i) (dom.erase i)/\Kp (fun q=>q=g\/q=m1) w w2):=Zz ⟨dJ.kp ag fun e=>Gx.ne_blk dJ (Eq.symm e),⟨zY.kp ag fun q hq e=>by
   obtain ⟨iz,ay⟩:=z_i zY hq;have e:q=m1:=e;subst e
   exact Gx.ne_blk ay rfl,by
   have h1:(w2.ownsRow base 108 3 (.slice (some ⟨g,0,none⟩) S.mem.length cm) S.mem.length (z_x (failM S.mem i))):=z_e sy ag fun q hq e=>by
    obtain ⟨iz,ay⟩:=z_i sy hq;have e:q=m1:=e;subst e;exact Gx.ne_blk ay rfl
   have e1:(failS S i).mem.length=S.mem.length:=failM_len _ _;rw[e1]
   exact h1⟩,ez,bY⟩
 replace Gy:(Builtin.delete_ #[161,3] 0 #[.map (some m1),.int .i64 i]).run prog (w.setCell ⟨g,i*3,none⟩ (.int .i64 2))=.ok (.tuple #[]) w2:=Gy;have k9:(w.setCell ⟨g,i*3,none⟩ (.int .i64 2)).cell? ⟨wk,9,none⟩=some (.map (some m1)):=dJ.cell 9
 have hiI:(i:Int)<(S.mem.length:Int):=by omega
 have Zh:¬(((S.mem[i]'hi).st:Int)=3):=by omega
 have Zi:(((S.mem[i]'hi).st:Int)==3)=false:=by rw[q_o];exact Zh
 generalize (S.mem[i]'hi).st=kg at *;clear h hR hM sy aC dJ zY Gx ez ag bY q0 dW bu bJ;go_enter func115,ntmps115;go_wp2
 go_end0
 exact ⟨rfl,de.o.1,de.o.2.1,de.o.2.2.1,g,rfl,de.o.2.2.2⟩
end
def lgW (T:List ByteArray):List Wr:=(List.range T.length).map fun k=>⟨2+k,tl T k⟩
theorem lgW_len (T:List ByteArray):(lgW T).length=T.length:=by simp[lgW]
theorem lgW_at (T:List ByteArray) (k:Nat) (h:k<T.length):(lgW T)[k]'(by rw[lgW_len];exact h)=⟨2+k,tl T k⟩:=by simp[lgW]
section
variable {w:World} {st b n an sp i:Nat} {key:List UInt8} {σ:Nat->DkS} {F:Nat->Prop} {S:Sup} {vs vm:Value}
theorem logged_any (hb:Bk w b n σ F) (h:Blk w st 116 (stC b an key S vs vm sp)) (hi:i<n) (hd:(σ i).dead=false) (fy:(σ i).wait<=500) (v:Value) (T:List ByteArray) (hv:∀W,Kp F w W->z_g W v (sv T)) (hT:T.length<=97) (hz:∀k,k<T.length->(tl T k).size<=2048) :
  Cl 118 #[.pointer (some ⟨st,0,none⟩),.int .i64 i,v] w fun e w'=>e=.returned (.int .i64 0)/\∃F',Gr w F F'/\Bk w' b n (z_A σ i ((σ i).wrs (lgW T)).flush) F'/\Kp F w w':=by
 have HV:=Zz hv;have pJ:=Zz (fun W σ' F' (hb:Bk W b n σ' F') k (hk:k<T.length) (fy:(σ' i).wait<=100000)=>z_ac hb i (2+k) hi (by omega) (tl T k) (hz k hk) fy);have C9:=Zz (fun W σ' F' (hb:Bk W b n σ' F')=>v_3 hb i hi);have aR:=Zz h;have DP:=Zz (hb.off h (by unfold tyB;decide))
 have iK:Hid (∃F',Gr w F F'/\Bk w b n (z_A σ i ((σ i).wrs ((lgW T).take 0))) F'):=Zz ⟨F,Gr.refl _ _,by
  have e:z_A σ i ((σ i).wrs ((lgW T).take 0))=σ:=updD_self σ i
  rw[e];exact hb⟩
 have bZ:=Zz (Kp.refl F w)
 have tT:Hid (∀k,k<T.length->z_A (z_A σ i ((σ i).wrs ((lgW T).take k))) i (((σ i).wrs ((lgW T).take k)).write (2+k) (tl T k))=z_A σ i ((σ i).wrs ((lgW T).take (k+1)))):=Zz fun k hk=>by
  rw[w_v,DkS.wrs_take _ _ k (by rw[lgW_len];exact hk),lgW_at T k hk]
 have tU:Hid (∀k,z_A σ i ((σ i).wrs ((lgW T).take k)) i=(σ i).wrs ((lgW T).take k)):=Zz fun k=>y_q _ _ _
 have Je:Hid (∀k,((σ i).wrs ((lgW T).take k)).dead=false):=Zz fun k=>by rw[DkS.wrs_dead];exact hd
 have I1:Hid (∀k,((σ i).wrs ((lgW T).take k)).wait<=100000):=Zz fun k=>by have:=DkS.wrs_wait (σ i) ((lgW T).take k);rw[q_l,lgW_len] at this;omega
 have eC:Hid ((lgW T).take T.length=lgW T):=Zz (q_t (by rw[lgW_len];exact q_e _));have Zj:Hid (∀s s',z_A (z_A σ i s) i s'=z_A σ i s'):=Zz fun s s'=>w_v _ _ _ _;obtain ⟨Av,cv,rfl,_⟩:=hv w (Kp.refl _ _);rw[z_c] at HV ⊢;obtain ⟨m,hm⟩:∃m,T.length=m:=⟨_,rfl⟩;rw[hm] at HV pJ tT eC hT ⊢;have ej:=Zz hm;clear hb h hd fy hz hv hm;go_enter func118,ntmps118
 go_upto_region 2 with fail
 go_loopw [7,8,9,12] (fun _ _ _ s12 wr=>∃k:Nat,k<=m/\s12=.int .i64 k/\Hid (∃F',Gr w F F'/\Bk wr b n (z_A σ i ((σ i).wrs ((lgW T).take k))) F')/\Hid (Kp F w wr)) (fun _ _ _ s12 _=>m-(intOf s12).toNat)
 case atStart=>exact ⟨0,by omega,rfl,iK,bZ⟩
 case round =>
  clear iK bZ;obtain ⟨k,hk,rfl,HX,HK⟩:=hrel;obtain ⟨F1,bu,ay⟩:=HX.o;have cC:=Zz bu;have bh:=Zz ay;have ip:=Zz (aR.o.kp HK.o DP.o);clear bu ay HX;have c0:=ip.o.c0;by_cases af:k<m
  ·have bV:(k:Int)<(m:Int):=by omega
   have dN:k<T.length:=by rw[ej.o];exact af
   obtain ⟨A,c,he,_,_,ae⟩:=HV.o wr HK.o;rw[z_c,ej.o] at he ae;cases he;obtain ⟨pb,off,rfl,fT⟩:=ae (by omega)
   have k0:wr.cell? ⟨pb,off+k,none⟩=some (.string (tl T k)):=by rw[fT k af,y_y T k dN]
   have hX:=pJ.o wr _ F1 bh.o k af (by rw[tU.o];exact I1.o k);rw[tU.o,tT.o k af,Je.o] at hX;simp only[Bool.false_eq_true,if_false] at hX;have HX:=Zz hX
   have h2k:(2:Int)+(k:Int)=((2+k:Nat):Int):=by omega
   have NN:IntKind.i64.wrap ((2+k:Nat):Int)=((2+k:Nat):Int):=by rw[q_r];omega
   clear hX ae fT;generalize tl T k=ck at *;generalize 2+k=kk at *;go_wp2_with fail;refine HX.o.mono ?_;rintro e w2 ⟨rfl,F2,bJ,am,ag⟩;have kC:Hid (∃F',Gr w F F'/\Bk w2 b n (z_A σ i ((σ i).wrs ((lgW T).take (k+1)))) F'):=Zz ⟨F2,cC.o.then bJ HK.o.size,am⟩;have al:=Zz (kpG HK.o cC.o ag);clear bJ am ag k0 c0 bh cC HK;go_wp2;go_roundw
   case rel=>exact ⟨k+1,by omega,by go_num,kC,al⟩
   case measure=>simp[intOf];omega
  ·obtain rfl:k=m:=by omega
   have hX:=C9.o wr _ F1 bh.o;rw[tU.o,Zj.o,eC.o] at hX
   have db:((σ i).wrs (lgW T)).dead=false:=by have:=Je.o k;rwa [eC.o] at this
   rw[db] at hX;simp only[Bool.false_eq_true,if_false] at hX;have HX:=Zz hX;clear hX db;go_wp2_with fail;refine HX.o.mono ?_;rintro e w2 ⟨rfl,F2,bJ,am,ag⟩;have HR:Hid (∃F',Gr w F F'/\Bk w2 b n (z_A σ i ((σ i).wrs (lgW T)).flush) F'/\Kp F w w2):=Zz ⟨F2,cC.o.then bJ HK.o.size,am,kpG HK.o cC.o ag⟩;clear bJ am ag c0;go_wp2;go_ret;exact ⟨rfl,HR.o⟩
end
end Go.Proofs.YtdkheklakfbeeaaGreatDoor
