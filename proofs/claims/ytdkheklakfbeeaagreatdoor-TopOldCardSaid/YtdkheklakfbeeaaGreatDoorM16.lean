/- Part 16 of the proof. -/
import Derived.Test.YtdkheklakfbeeaaGreatDoorM15
set_option linter.all false
set_option maxRecDepth 100000
set_option maxHeartbeats 16000000
namespace Go.Proofs.YtdkheklakfbeeaaGreatDoor
open Go.RowKit Go.Proofs.Tryz
variable {B b i n s:Nat}{F:Nat->Prop}{S:cj}{U:Nat->Value}{X:Nat->List Wr}{dom:List Nat}{key:List UInt8}{vm vs:Value}{w w':W_}{σ:Nat->ao}
section
open Go.Maps Go.ChangeMaps Go.MapKept
section
variable {P:Program} {k e t:TypeId} {α:Type} {M:KM P k α} {f:α->Option Value} {dom:List α} [DecidableEq α]
def aS.entry (h:aS M w b f dom) (K:Keyed P k) (m:P.underlying t=some (.map k e)) {z:Value} (hz:(zeroValue e).run P w=.ok z w) (hn:dom.length<maxLen) {a:α} (ha:M.ok a) (N:f a=none) (v:Value) :
  ∃(c:Nat) (p l:W_),(Instr.mapEntry t (.map (some b)) (M.kv a)).run P w=.ok (.tuple #[z,.int .i64 c]) p/\(Instr.entryStore t (.map (some b)) (.int .i64 c) v).run P p=.ok () l/\aS M l b (lu f a v) (e8 dom a)/\Kp (·=b) w p/\Kp (·=b) p l/\Kp (·=b) w l:=by
 obtain ⟨l,u,hM,hk⟩:=h.put K m hn ha v;obtain ⟨D,⟨es,clock,hb,F,R,hD⟩,T,U,V,W⟩:=h.own;have o:=M.key a ha;rcases K.find w o es.toList F.keys with ⟨n,Q⟩|⟨j,E,n,q,S⟩
 ·have y:(Instr.mapUpdate t (.map (some b)) (M.kv a) v).run P w=.ok () (setBlock w b (.map (es.push ⟨M.kv a,v,clock⟩) (clock+1))):=by
   simp[Instr.mapUpdate,run_underlying m,MapKept.run_getObj_map hb,K.check w false o,n,MapKept.run_setObj_map _ hb,Result.andThen,setBlock]
  rw[y] at u
  have s:setBlock w b (.map (es.push ⟨M.kv a,v,clock⟩) (clock+1))=l:=by injection u
  have r:(setBlock w b (.map (es.push ⟨M.kv a,z,clock⟩) (clock+1))).heap[b]?=some (.map (es.push ⟨M.kv a,z,clock⟩) (clock+1)):=heap_setBlock_same hb _
  have J:(es.push ⟨M.kv a,z,clock⟩).findIdx? (fun e=>(e.born:Int)==(clock:Int))=some es.size:=by
   rw[Array.findIdx?_eq_some_iff_getElem];refine ⟨s_,s_,fun j q=>?_⟩;have d:j<es.size:=q;rw[Array.getElem_push_lt d];have:=F.stamped.1 es[j] s_;simp;omega
  refine ⟨clock,setBlock w b (.map (es.push ⟨M.kv a,z,clock⟩) (clock+1)),l,?_,?_,hM,?_,?_,hk⟩
  ·simp[Instr.mapEntry,run_underlying m,MapKept.run_getObj_map hb,K.check w false o,n,hz,MapKept.run_setObj_map _ hb,Result.andThen,setBlock,goInt]
  ·rw[<-s]
   have G:(es.push ⟨M.kv a,z,clock⟩).modify es.size (fun x=>{ x with val:=v })=es.push ⟨M.kv a,v,clock⟩:=by
    apply Array.ext_getElem?;intro i;rw[Array.getElem?_modify];by_cases g:es.size=i
    ·subst g;simp
    rw[if_neg g,Array.getElem?_push,Array.getElem?_push,if_neg (Ne.symm g),if_neg (Ne.symm g)]
   have I:setBlock (setBlock w b (.map (es.push ⟨M.kv a,z,clock⟩) (clock+1))) b (.map (es.push ⟨M.kv a,v,clock⟩) (clock+1))=setBlock w b (.map (es.push ⟨M.kv a,v,clock⟩) (clock+1)):=by
    simp[setBlock]
   simp[Instr.entryStore,MapKept.run_getObj_map r,asInt,asIntOf,J,MapKept.run_setObj_map _ r,Result.andThen,G];exact I
  ·exact ⟨rfl,rfl,rfl,by simp[setBlock],fun i _ g=>heap_setBlock_other hb _ g⟩
  rw[<-s];refine ⟨rfl,rfl,rfl,by simp[setBlock],fun i _ g=>?_⟩;rw[heap_setBlock_other hb _ g,heap_setBlock_other hb _ g]
 exfalso;have hl:=(h.look K m hz ha).2;rw[N] at hl
 have O:es[j]?=some E:=by simpa using q
 simp[Instr.lookup,run_underlying m,MapKept.run_getObj_map hb,hz,Result.andThen] at hl;rw[K.check w es.isEmpty o] at hl;simp[n] at hl
end
end
def yM (l:List Wr) (a:Nat) (x:B_):eu (l++[⟨a,x⟩])=eu l++[.int .i64 a,.string x]:=by rw[v_u];rfl
def yZ (a:Nat) (x:B_):∀u∈[Value.int .i64 a,.string x],u.oneCell'=true:=by
 intro u e;rcases List.mem_cons.1 e with rfl|e
 ·rfl
 rcases List.mem_cons.1 e with rfl|e
 ·rfl
 cases e
def aS.noCell {P:Program} {k:TypeId} {α:Type} {M:KM P k α} {f:α->Option Value} {dom:List α} (h:aS M w b f dom) (a:Addr) (ha:a.block=b):w.cell? a=none:=by
 obtain ⟨es,clock,hb⟩:=h.map;subst ha;simp[World.cell?,hb]
def b_.kpN {S:Nat->Prop} {v:Value} {i:List Value} (h:b_ w v i) (k:Kp S w w') (p:∀q,S q->∀a:Addr,a.block=q->w.cell? a=none):b_ w' v i:=by
 obtain ⟨A,c,rfl,m,n,o⟩:=h;refine ⟨A,c,rfl,m,n,fun l=>?_⟩;obtain ⟨b,off,rfl,r⟩:=o l;refine ⟨b,off,rfl,fun j g=>?_⟩;have e:=r j g;rw[cr g] at e ⊢;have hb:=fV w _ e;rw[x_Y (w:=w) (k.block b hb fun hs=>by rw[p b hs _ rfl] at e;cases e)];exact e
section
def CA (x5:a_ w) (h:Bk w b n σ F) (hw:10<=w.heap.size) (hi:i<n) (hs:sl s) (hk:key.length=32) (hd:(σ i).dead=false) (r:Nat->B_) (v:Value) (l:List Wr) (hv:iB w v 2 l.length (eu l)) (hl:l.length<=100) (bl:∀x∈l,x.at'<s/\x.cell.size<=2032)
  (yt:∀q,1<=q->q<s->tl (σ i).now (100+q)=dD s r q) :
  Cl 114 #[.agg (di b i s key),.string (e9 s r),v] w fun e w'=>∃u,e=.returned (.tuple #[u,.string (e9 s (dp r l)),.int .i64 0])/\w'.ownsRow w.heap.size 240 2 u (gj s r l).length (eu (gj s r l))/\Kp ac w w':=by
 have kA:2<=s/\s<=4:=by rcases hs with rfl|rfl<;>decide
 have x9:∀x∈l,x.at'<s:=fun x hx=>(bl x hx).1;have Z:=Zz (ab.new w 139 (di b i s key));have O:=Zz ((Kp.refl ac w).alloc (.cells (di b i s key) 139));have BS:=Zz (fun W (k:Kp ac w W)=>pc (x5.no k) (h.no k) (by have:=k.size;omega) hi hs hk v l (hv.no k) o_ bl);have qr:=Zz (fun W (k:Kp ac w W) j (X:j<=l.length) t (H6:t<s) E hM=>Sh (key:=key) (x5.no k) (h.no k) (by have:=k.size;omega) hi hs hd r l x9 yt j X t H6 E hM);have mh:=Zz (fun W (k:Kp ac w W) j t (H6:t<s) c v hv=>Uw (x5.no k) (by have:=k.size;omega) hs t H6 (dp r (l.take j)) c v hv);have nD:=Zz (fun W (k:Kp ac w W) (c:B_) (hc:c.size<=2032)=>mJ W (x5.no k) (by have:=k.size;omega) c o_);have iq:=Zz (fun W (k:Kp ac w W) t (H6:t<s)=>RX W s t hs H6 (x5.no k) (by have:=k.size;omega));have mc:=Zz (fun t=>KU s t);have Pt:=Zz (fun (W:W_) B f dom (hM:aS KI W B f dom) (hl:dom.length<=1000)=>Jz hM hl);have h6:=Zz (fun W (k:Kp ac w W)=>hv.no k);have tZ:=Zz (tH l);have il:=Zz (fun i (h:i<l.length)=>bl (l[i]'h) (rY h));have rf:=Zz (us s l);have AF:=Zz (EX l);have je:=Zz (kH r l)
 have lp:Hid (∀j,(ib s (l.take j)).length<=200):=Zz fun j=>by have:=L_ s (l.take j);have:=gC (i:=j) (l:=l);omega
 have ky:Hid (∀j,(iE (l.take j)).length<=100):=Zz fun j=>by have:=N0 (l.take j);have:=gC (i:=j) (l:=l);omega
 have kE:Hid (∀j (X:j<l.length),rS (dD s (dp r (l.take j))) (dD s (dp r (l.take (j+1)))) (ib s (l.take j)) (dJ s (l[j]'X).at')=fc (dD s (dp r (l.take (j+1)))) (ib s (l.take (j+1)))):=Zz fun j X=>by
  rw[YA,us s l j X];intro k hk Zk;obtain ⟨q1,q2⟩:=zu hs (l.take j) (Tv x9) k hk;rw[kH r l j X];exact (MT hs (x9 _ (rY X)) _ _ k q1 q2 Zk).symm
 have vW:Hid (∀j (X:j<l.length),lu (dg (fc (dp r (l.take j)) (iE (l.take j)))) (l[j]'X).at' (.string (l[j]'X).cell)=dg (fc (dp r (l.take (j+1))) (iE (l.take (j+1))))):=Zz fun j X=>by
  rw[EX l j X,kH r l j X,<-LI];funext x;unfold lu dg fc nP;by_cases e:x=(l[j]'X).at'
  ·simp[e]
  simp[e]
 have Ig:Hid (∀t,t<s->∀i (h:i<(dJ s t).length),(dJ s t)[i]'h<4):=Zz fun t H6 i h=>by
  have:=DQ (j:=i) hs H6
  rwa [x_9 h] at this
 have Ih:Hid (l.take l.length=l):=Zz (List.take_length)
 have Gi:Hid (∀q∈pV (ib s l),q<4):=Zz fun q h5=>by have:=zu hs l x9 q ((Kq _ _).1 h5);omega
 have Zl:Hid (∀q∈pV (iE l),q<4):=Zz fun q h5=>by have:=Gq l x9 q ((Kq _ _).1 h5);omega
 have T8:Hid (e9 s r=e9 s (dp r (l.take 0))):=Zz rfl;have oZ:Hid (ib s (l.take 0)=[]):=Zz rfl;have Bo:Hid (iE (l.take 0)=[]):=Zz rfl;have nB:=@run_makeMap prog;obtain ⟨Av,cv,rfl,aP,bk,_,_⟩:=hv;obtain ⟨m,hm⟩:∃m,l.length=m:=⟨_,rfl⟩;have gD:=Zz hm;rw[hm] at h6 hl aP;clear x5 h bl x9 yt hd hm;rw[T8.o];change Cl 114 #[.agg #[.pointer (some ⟨b,0,none⟩),.int .i64 i,.int .i64 s,.string (bs key)],.string (e9 s (dp r (l.take 0))),.slice Av l.length cv] w _;rw[gD.o] at BS ⊢;have bn:=hw;generalize La:e9 s (dp r (l.take 0))=wj at *;have Lb:=Zz La;clear La;go_enter func114,ntmps114
 go_upto_region 1 with fail
 change Code.wp _ _ _ _ (w.alloc (.cells (di b i s key) 139));generalize aV:w.alloc (.cells (di b i s key) 139)=w1 at *;clear aV;obtain ⟨G,hG⟩:∃G,w.heap.size=G:=⟨_,rfl⟩;rw[hG] at Z ⊢;have cq:=Zz hG;clear hG;have c0:=Z.o.c0;have c1:=Z.o.c1;have y8:=Z.o.c2;have c3:=Z.o.c3;go_wp2_with fail;refine (BS.o _ O.o).mono ?_;rintro e L ⟨rfl,ae⟩;have ak:=Zz (Z.o.kp ae fun h=>h);have am:=Zz (O.o.trans ae);clear ae c0 c1 y8 c3 Z O BS
 go_upto_region 5 with fail
 have Fl:(L.alloc (.map #[] 0)).heap.size=L.heap.size+1:=s_;have V:Hid (aS KI ((L.alloc (.map #[] 0)).alloc (.map #[] 0)) L.heap.size (dg (fc (dD s (dp r (l.take 0))) (ib s (l.take 0)))) (ib s (l.take 0))):=Zz (by rw[oZ.o,zY];exact (aS.made L).alloc _);have R:Hid (aS KI ((L.alloc (.map #[] 0)).alloc (.map #[] 0)) (L.heap.size+1) (dg (fc (dp r (l.take 0)) (iE (l.take 0)))) (iE (l.take 0))):=Zz (by rw[Bo.o,zY];have:=aS.made (M:=KI) (L.alloc (.map #[] 0));rwa [Fl] at this);have ay:=Zz ((am.o.alloc (.map #[] 0)).alloc (.map #[] 0));have cC:=Zz ((ak.o.alloc (.map #[] 0)).alloc (.map #[] 0));have Ii:Hid (w.heap.size<=L.heap.size):=Zz am.o.size;clear ak am oZ Bo T8;generalize (L.alloc (.map #[] 0)).alloc (.map #[] 0)=w4 at *;generalize L.heap.size=E at *
 go_upto_region 6 with fail
 go_loopw [1,13,14,15,16,17,18,19,20,36] (fun s1 _ _ _ _ _ _ _ _ qg wr=>∃j:Nat,j<=m/\qg=.int .i64 j/\s1=.string (e9 s (dp r (l.take j)))/\Hid (ab wr G 139 (di b i s key))/\Hid (aS KI wr E (dg (fc (dD s (dp r (l.take j))) (ib s (l.take j)))) (ib s (l.take j)))/\Hid (aS KI wr (E+1) (dg (fc (dp r (l.take j)) (iE (l.take j)))) (iE (l.take j)))/\Hid (Kp ac w wr)) (fun _ _ _ _ _ _ _ _ _ qg _=>m-(intOf qg).toNat)
 case atStart=>exact ⟨0,o_,rfl,by rw[Lb.o],cC,V,R,ay⟩
 case round =>
  clear cC V R ay;obtain ⟨j,X,rfl,rfl,Z,V,R,O⟩:=hrel;by_cases af:j<m
  ·have T:j<l.length:=by rw[gD.o];exact af
   have bL:(j:Int)<(m:Int):=o_;obtain ⟨A,c,he,_,_,_,h3⟩:=h6.o wr O.o;cases he;obtain ⟨pb,off,rfl,x4⟩:=h3 o_;obtain ⟨q1,q2⟩:=tZ.o j T;have k0:=(x4 (j*2) o_).trans q1;have k1:=(x4 (j*2+1) o_).trans q2;rw[<-Nat.add_assoc] at k1;obtain ⟨z1,z2⟩:=il.o j T;have wl:=Zz (fun W k=>qr.o W k j (Nat.le_of_lt T) (l[j]'T).at' z1 E);have Ij:=Zz (fun W k v=>mh.o W k j (l[j]'T).at' z1 (l[j]'T).cell v);rw[<-je.o j T] at Ij;have Pu:=Zz (fun W k=>nD.o W k (l[j]'T).cell z2);have Pv:=Zz (fun W k=>iq.o W k (l[j]'T).at' z1);have Pw:=Zz (mc.o (l[j]'T).at');have Px:=Zz (kE.o j T);have Py:=Zz (vW.o j T);have Pz:=Zz (AF.o j T);have Ik:=Zz (rf.o j T);have PA:=Zz (Ig.o (l[j]'T).at' z1);have PB:=Zz (lp.o j);have PC:=Zz (ky.o j);have yL:=Zz z1
   have Zm:dP s<=2:=by unfold dP;split<;>omega
   generalize (l[j]'T).at'=a at *;generalize (l[j]'T).cell=x at *;have dc:=Zz (ab.new wr 152 #[.int .i64 a,.string x]);have bF:=Zz (O.o.alloc (.cells #[.int .i64 a,.string x] 152));have x7:=Zz (Z.o.alloc (.cells #[.int .i64 a,.string x] 152));have te:=Zz (V.o.alloc (.cells #[.int .i64 a,.string x] 152));have wm:=Zz (R.o.alloc (.cells #[.int .i64 a,.string x] 152));clear h3 x4 q1 q2 Z O V R z2
   go_upto_region 8 with fail
   clear k0 k1;generalize wr.alloc (.cells #[.int .i64 a,.string x] 152)=w5 at *;generalize wr.heap.size=D at *;have c0:=x7.o.c0;have c1:=x7.o.c1;have y8:=x7.o.c2;have c3:=x7.o.c3;have d0:=dc.o.c0;go_wp2_with fail;refine (wl.o _ bF.o te.o).mono ?_;rintro e w6 ⟨u6,le6,rfl,DI,x0⟩;have un:=Zz DI;have aB:=Zz (bF.o.trans x0).drew;have uy:=Zz (x7.o.kp x0 fun h=>h).drew;have lz:=Zz (dc.o.kp x0 fun h=>h).drew;have wn:=Zz (te.o.no x0);have wu:=Zz (wm.o.no x0);clear x0 DI c0 c1 y8 c3 d0 bF x7 dc te wm wl
   go_upto_region 11 with fail
   have un:Hid (b_ w6.drew u6 (sv ((dJ s a).map (dD s (dp r (l.take j)))))):=un;have wn:Hid (aS KI w6.drew E (dg (fc (dD s (dp r (l.take j))) (ib s (l.take j)))) (ib s (l.take j))):=Zz (wn.o.same rfl);have wu:Hid (aS KI w6.drew (E+1) (dg (fc (dp r (l.take j)) (iE (l.take j)))) (iE (l.take j))):=Zz (wu.o.same rfl);refine fs ?_;generalize w6.drew=w7 at *;have d0:=lz.o.c0;have d1:=lz.o.c1;refine fp 0 ?_;refine cw 1 d0 ?_;refine fp 2 ?_;refine fp 3 ?_;refine cw 4 d1 ?_;refine fd 5 fun K Qx hK=>?_;go_simp;refine (Pu.o _ aB.o).mono ?_;rintro e w8 ⟨rfl,H0⟩;have bp:=Zz (aB.o.trans H0);have Lc:=Zz (uy.o.kp H0 fun h=>h);have BT:=Zz (lz.o.kp H0 fun h=>h);have Il:=Zz (wn.o.no H0);have th:=Zz (wu.o.no H0);have F9:=Zz (un.o.below H0.below0);refine hK _ _ (oW (oK (BT.o.cell 0) oN)) ?_;clear hK K H0 d0 d1 aB uy lz wn wu un;refine fd 6 fun K Qx hK=>?_;go_simp;refine (Ij.o _ bp.o _ F9.o).mono ?_;rintro e w9 ⟨u9,rfl,T9,x1⟩;have vC:=Zz T9;have h9:=Zz (bp.o.trans x1);have H1:=Zz (Lc.o.kp x1 fun h=>h);have Fs:=Zz (BT.o.kp x1 fun h=>h);have m6:=Zz (Il.o.no x1);have x8:=Zz (th.o.no x1);refine hK _ _ (oW (oW oN)) ?_;clear hK K x1 T9 bp Lc BT Il th F9;refine fp 7 ?_;refine fp 8 ?_;refine fp 9 ?_;refine fp 10 ?_;refine fp 11 ?_;refine fp 12 ?_;refine fe ?_;have y8:=H1.o.c2;have d0:=Fs.o.c0;go_wp2_with fail;refine (Pv.o _ h9.o).mono ?_;rintro e h8 ⟨u10,rfl,Im,H2⟩;have bW:=Zz (h9.o.trans H2);have gF:=Zz (H1.o.kp H2 fun h=>h);have oF:=Zz (Fs.o.kp H2 fun h=>h);have eR:=Zz (m6.o.no H2);have Io:=Zz (x8.o.no H2);have Ip:=Zz (vC.o.below H2.below0);have jr:=Zz Im;clear H2 Im y8 d0 h9 H1 Fs m6 x8 vC;generalize Ua:dJ s a=I at *;have Zn:=Zz Ua;clear Ua;obtain ⟨p,hp⟩:∃p,I.length=p:=⟨_,rfl⟩;have y0:=Zz hp
   have DJ:p=dP s:=by rw[<-hp];exact Pw.o
   clear hp;generalize Ub:dD s (dp r (l.take (j+1)))=J at *;have Zo:=Zz Ub;clear Ub;generalize dD s (dp r (l.take j))=E0 at *;generalize ib s (l.take j)=h0 at *
   have zQ:0<p:=by rw[DJ];unfold dP;split<;>omega
   have oZ:=Zz zQ;obtain ⟨Ap,cp,rfl,Iq,PD,vy⟩:=jr.o;obtain ⟨Au,cu,rfl,Ir,PE,PF⟩:=Ip.o;rw[iF,y0.o] at Iq vy ⊢;rw[cN,fW,y0.o] at Ir PF ⊢;obtain ⟨eb,eo,rfl,Is⟩:=vy zQ;obtain ⟨ub,uo,rfl,It⟩:=PF zQ
   have pm:Hid (∀q (h:q<I.length),h8.cell? ⟨eb,eo+q,none⟩=some (.int .i64 (I[q]'h:Nat))):=Zz fun q h=>by
    rw[Is q (by rw[<-y0.o];exact h),oP _ _ h,x_9 h]
   have Zp:Hid (∀q (h:q<I.length),h8.cell? ⟨ub,uo+q,none⟩=some (.string (J (I[q]'h)))):=Zz fun q h=>by
    rw[It q (by rw[<-y0.o];exact h),iQ _ _ (by rw[fW];exact h),KJ _ _ _ h,x_9 h]
   have gK:Hid (aS KI h8 E (dg (rS E0 J h0 (I.take 0))) ((I.take 0).foldl e8 h0)):=Zz (by
    have e:rS E0 J h0 (I.take 0)=fc E0 h0:=Z7 _ _ _
    rw[e];exact eR.o)
   have oG:=Zz (Kp.refl (fun z=>z=E) h8);have Zq:=Zz eR.o.noCell;clear vy PF Is It Iq PD Ir PE eR jr Ip
   go_upto_region 14 with fail
   go_loopw [19,20,74] (fun _ _ PG wr=>∃q:Nat,q<=p/\PG=.int .i64 q/\Hid (ab wr G 139 (di b i s key))/\Hid (ab wr D 152 #[.int .i64 a,.string x])/\Hid (aS KI wr E (dg (rS E0 J h0 (I.take q))) ((I.take q).foldl e8 h0))/\Hid (aS KI wr (E+1) (dg (fc (dp r (l.take j)) (iE (l.take j)))) (iE (l.take j)))/\Hid (Kp ac w wr)/\Hid (Kp (fun z=>z=E) h8 wr)) (fun _ _ PG _=>p-(intOf PG).toNat)
   case atStart=>exact ⟨0,o_,rfl,gF,oF,gK,Io,bW,oG⟩
   case round =>
    clear gF oF gK Io bW oG;obtain ⟨q,h5,rfl,H9,H8,h7,y2,O,HR⟩:=hrel;by_cases y3:q<p
    ·have d:q<I.length:=by rw[y0.o];exact y3
     have Fx:(q:Int)<(p:Int):=o_
     have aa:∀B o v,h8.cell? ⟨B,o,none⟩=some v->wr.cell? ⟨B,o,none⟩=some v:=fun B o v hc=>by
      have hb:=fV h8 _ hc;rw[x_Y (w:=h8) (HR.o.block B hb fun hs=>by rw[Zq.o _ hs] at hc;cases hc)];exact hc
     have k0:=aa _ _ _ (pm.o q d);have k1:=aa _ _ _ (Zp.o q d)
     have av:((I.take q).foldl e8 h0).length<1000:=by
      have:=z_al (I.take q) h0;have:=gC (i:=q) (l:=I);have:=PB.o;omega
     obtain ⟨fN,fh,wv,x2⟩:=h7.o.put sY sV (by simp only[maxLen];omega) (a:=I[q]'d) (show I[q]'d<=100000 by have:=PA.o q d;omega) (.string (J (I[q]'d)));replace fh:(Instr.mapUpdate 264 (.map (some E)) (.int .i64 (I[q]'d:Nat)) (.string (J (I[q]'d)))).run prog wr=.ok () fN:=fh;rw[UC,<-mx d] at wv
     have Iv:e8 ((I.take q).foldl e8 h0) (I[q]'d)=(I.take (q+1)).foldl e8 h0:=by rw[mx d,List.foldl_append];rfl
     rw[Iv] at wv;have kd:=Zz wv;have PH:=Zz (HR.o.trans x2);have dI:=Zz (O.o.then x2 fun z hz e=>(by have:=Ii.o;have e:z=E:=e;omega:False));have PI:=Zz (H9.o.kp x2 fun e=>h7.o.ne_blk H9.o (Eq.symm e));have PJ:=Zz (H8.o.kp x2 fun e=>h7.o.ne_blk H8.o (Eq.symm e));have PK:=Zz (y2.o.kp x2 fun e=>(by have e:E+1=E:=e;omega:False));clear wv x2 Iv av aa H9 H8 h7 y2 O HR;generalize J (I[q]'d)=y at *;generalize I[q]'d=a2 at *;go_wp2;go_roundw
     case rel=>exact ⟨q+1,o_,by go_num,PI,PJ,kd,PK,dI,PH⟩
     case measure=>simp[intOf];omega
    obtain rfl:q=p:=o_
    have h7:Hid (aS KI wr E (dg (fc J (ib s (l.take (j+1))))) (ib s (l.take (j+1)))):=Zz (by
     have h1:=h7.o
     have e:I.take q=I:=by rw[<-y0.o,List.take_length]
     rw[e,Px.o] at h1;rw[Ik.o];rw[Ik.o] at h1
     exact h1)
    have x3:=H8.o.c0;have e1:=H8.o.c1;obtain ⟨iN,fh,BU,cF⟩:=y2.o.put sY Bq (by have:=PC.o;simp only[maxLen];omega) (a:=a) (show a<=100000 by have:=yL.o;omega) (.string x);replace fh:(Instr.mapUpdate 86 (.map (some (E+1))) (.int .i64 a) (.string x)).run prog wr=.ok () iN:=fh;rw[Py.o,<-Pz.o] at BU;have js:=Zz BU;have de:=Zz (O.o.then cF fun z hz e=>(by have:=Ii.o;have e:z=E+1:=e;omega:False));have tn:=Zz (H9.o.kp cF fun e=>y2.o.ne_blk H9.o (Eq.symm e));have PM:=Zz (h7.o.kp cF fun e=>(by have e:E=E+1:=e;omega:False));clear BU cF H9 H8 h7 y2 O HR;go_wp2;go_roundw
    case rel=>exact ⟨j+1,o_,by go_num,rfl,tn,by rw[Zo.o];exact PM,js,de⟩
    case measure=>simp[intOf];omega
  obtain rfl:j=m:=o_
  have x3:l.take j=l:=by have:=Ih.o;rwa [gD.o] at this
  have Iw:Hid ((ib s l).length<=200):=Zz (by have:=lp.o j;rwa [x3] at this);have Ix:Hid ((iE l).length<=100):=Zz (by have:=ky.o j;rwa [x3] at this);rw[x3] at V R
  have aY:∀(W:W_) (u:Value),W.ownsRow w.heap.size 240 2 u ((pV (ib s l)).length+(pV (iE l)).length) (eu (((pV (ib s l)).map fun q=>⟨100+q,dD s (dp r l) q⟩)++(pV (iE l)).map fun t=>⟨120+t,dp r l t⟩))->W.ownsRow w.heap.size 240 2 u (gj s r l).length (eu (gj s r l)):=fun W u h=>by
   unfold gj;rw[cd,fW,fW];exact h
  have bx:=Zz aY;rw[x3];clear aY x3 kE vW rf AF je qr mh nD iq mc Ig h6 tZ il lp ky Ih
  have Uc:Hid (∀q,(dD s (dp r l) q).size<=100):=Zz fun q=>by rw[w_8];decide
  generalize Ud:gj s r l=PW at *;generalize Ue:e9 s (dp r l)=tpe at *;have iM:=Zz Ud;have uZ:=Zz Ue;clear Ud Ue;have PN:Hid (∀q∈pV (ib s l),q∈ib s l):=Zz fun q h=>(Kq _ _).1 h;have PO:Hid (∀q∈pV (iE l),q∈iE l):=Zz fun q h=>(Kq _ _).1 h;have Uf:Hid ((pV (ib s l)).length<=200):=Zz (by rw[w_6];exact Iw.o);have PQ:Hid ((pV (iE l)).length<=100):=Zz (by rw[w_6];exact Ix.o);generalize dD s (dp r l)=J at V bx Uc;obtain ⟨Y,Ug⟩:∃Y,dp r l=Y:=⟨_,rfl⟩;rw[Ug] at R bx;clear Ug;generalize ib s l=H4 at *;generalize iE l=h4 at *;have nU:=Zz (fun W hM=>Pt.o W E (dg (fc J H4)) H4 hM (cL Iw.o d_));have rG:=Zz (fun W hM=>Pt.o W (E+1) (dg (fc Y h4)) h4 hM (cL Ix.o d_));clear Pt;generalize pV H4=N at *;generalize pV h4=Q at *;go_wp2_with fail;refine (nU.o _ V.o).mono ?_;rintro e U ⟨v13,rfl,Iy,ww⟩;obtain ⟨A13,c13,rfl,_,_,bP⟩:=Iy.reads;obtain ⟨P,hP⟩:∃P,N.length=P:=⟨_,rfl⟩;rw[iF,hP] at bP ⊢;have y9:=Zz hP;have dU:=Zz bP;have nu:=Zz (V.o.no ww);have pW:=Zz (R.o.no ww);have y1:=Zz (O.o.trans ww);have Uh:=Zz (Kp.refl ac U);have H7:Hid (U.ownsRow U.heap.size 240 2 (.slice none 0 0) 0 (eu ((N.map fun q=>(⟨100+q,J q⟩:Wr)).take 0))):=Zz (World.ownsRow_nil _ _ _ _);have iA:Hid (w.heap.size<=U.heap.size):=Zz y1.o.size;clear Iy ww bP hP Z V R O
  go_upto_region 22 with fail
  go_loopw [21,23,95] (fun em _ PR wr=>∃k:Nat,k<=P/\PR=.int .i64 k/\Hid (wr.ownsRow U.heap.size 240 2 em k (eu ((N.map fun q=>(⟨100+q,J q⟩:Wr)).take k)))/\Hid (aS KI wr E (dg (fc J H4)) H4)/\Hid (aS KI wr (E+1) (dg (fc Y h4)) h4)/\Hid (Kp ac w wr)/\Hid (Kp ac U wr)) (fun _ _ PR _=>P-(intOf PR).toNat)
  case atStart=>exact ⟨0,o_,rfl,H7,nu,pW,y1,Uh⟩
  case round =>
   clear H7 nu pW y1 Uh;obtain ⟨k,hk,rfl,H,V,R,O,HR⟩:=hrel;by_cases bu:k<P
   ·have S:k<N.length:=by rw[y9.o];exact bu
    have bL:(k:Int)<(P:Int):=o_;obtain ⟨rb,ro,rfl,h3⟩:=dU.o o_
    have hx:U.cell? ⟨rb,ro+k,none⟩=some (.int .i64 (N[k]'S:Nat)):=by rw[h3 k bu,oP _ _ S,x_9 S]
    have k0:=(HR.o.below0.cell (fV U _ hx)).trans hx;have Ka:=Gi.o (N[k]'S) (rY S);have y4:=PN.o (N[k]'S) (rY S);have H5:=(V.o.look sY sV (jW wr) (a:=N[k]'S) (show N[k]'S<=100000 by omega)).1;replace H5:(Instr.lookup 264 (.map (some E)) (.int .i64 (N[k]'S:Nat)) false).run prog wr=.ok ((dg (fc J H4) (N[k]'S)).getD (.string ⟨#[]⟩)) wr:=H5;rw[show (dg (fc J H4) (N[k]'S)).getD (.string ⟨#[]⟩)=.string (J (N[k]'S)) by simp[dg,fc,y4]] at H5
    have aR:Hid (eu ((N.map fun q=>(⟨100+q,J q⟩:Wr)).take (k+1))=eu ((N.map fun q=>(⟨100+q,J q⟩:Wr)).take k)++[.int .i64 (100+N[k]'S:Nat),.string (J (N[k]'S))]):=Zz (by
     rw[mx (by rw[fW];exact S),List.getElem_map,yM])
    have hez:=Uc.o (N[k]'S);clear hx h3 y4;generalize N[k]'S=nd at *;generalize J nd=y at *;have vq:(100:Int)+(nd:Int)=((100+nd:Nat):Int):=o_
    have ph:IntKind.i64.wrap ((100+nd:Nat):Int)=((100+nd:Nat):Int):=by rw[eM];omega
    have cO:=Zz (yZ (100+nd) y);have jf:=HR.o.size;have x6:=Zz H.o;have jG:=Zz (fun q (h5:u21.ownBlock=some q)=>(iZ H.o h5).1);have PS:=iA.o
    have oh:P<=200:=by have:=Uf.o;have:=y9.o;omega
    have Gk:=Zz oh;generalize 100+nd=ka at *
    go_wp2_with (at_builtin;refine Y3 U.heap.size rfl (.tmp 99) (.tmp 106) 182 240 (.agg #[.int .i64 0,.string ⟨#[]⟩]) 2 24 rfl underlying182 sk rfl d_ d_ u21 k _ [.int .i64 ka,.string y] rfl rfl rfl cO.o x6.o jf (by have:=Gk.o;omega) ?_;intro v1 w9 y7 y5 aZ;have y6:=Zz y7;have H1:=Zz y5;clear y7 y5 aZ)
    rw[<-aR.o] at y6;have h2:Kp (fun q=>some q=u21.ownBlock) wr w9:=Kp.of_grown H1.o fun _ h=>h
    have Ui:∀g f dom,aS KI wr g f dom->¬some g=u21.ownBlock:=fun g f dom hM e=>by
     obtain ⟨cs,hb⟩:=fj x6.o e.symm;exact hM.ne_blk hb rfl
    have m6:=Zz (V.o.kp h2 (Ui _ _ _ V.o));have x8:=Zz (R.o.kp h2 (Ui _ _ _ R.o));have h9:=Zz (O.o.then h2 fun q h5 h=>by have:=jG.o q h.symm;omega);have ny:=Zz (HR.o.then h2 fun q h5 h=>by have:=jG.o q h.symm;omega);go_roundw
    case rel=>exact ⟨k+1,o_,by go_num,y6,m6,x8,h9,ny⟩
    case measure=>simp[intOf];omega
   obtain rfl:k=P:=o_
   have H:Hid (wr.ownsRow U.heap.size 240 2 u21 k (eu (N.map fun q=>(⟨100+q,J q⟩:Wr)))):=Zz (by
    have h1:=H.o
    rwa [kx (by rw[fW,y9.o];exact bS _)] at h1)
   go_wp2_with fail;refine (rG.o _ R.o).mono ?_;rintro e mp ⟨v14,rfl,wy,tr⟩;obtain ⟨Uj,H3,rfl⟩:=wy.shape;obtain ⟨C,hC⟩:∃C,Q.length=C:=⟨_,rfl⟩;rw[iF,hC] at wy ⊢;have jF:=Zz hC;have pW:=Zz (R.o.no tr);have y1:=Zz (O.o.trans tr)
   have H7:Hid (mp.ownsRow U.heap.size 240 2 u21 (k+0) (eu ((N.map fun q=>(⟨100+q,J q⟩:Wr))++(Q.map fun q=>(⟨120+q,Y q⟩:Wr)).take 0))):=Zz (by
    rw[List.take_zero,List.append_nil]
    exact dL H.o tr fun _ _ h=>h)
   have Uk:Hid (aH mp 0 3 (.slice Uj C H3) (zv Q)):=Zz (wy.more (Nat.zero_le _));have NC:Hid (U.heap.size<=mp.heap.size):=Zz (cL HR.o.size tr.size);clear wy tr hC H V R O HR;obtain ⟨A21,c21,rfl⟩:=lM H7.o
   go_upto_region 27 with fail
   go_loopw [21,25,112] (fun em _ BV wr=>∃q:Nat,q<=C/\BV=.int .i64 q/\Hid (wr.ownsRow U.heap.size 240 2 em (k+q) (eu ((N.map fun q=>(⟨100+q,J q⟩:Wr))++(Q.map fun q=>(⟨120+q,Y q⟩:Wr)).take q)))/\Hid (aS KI wr (E+1) (dg (fc Y h4)) h4)/\Hid (Kp ac w wr)/\Hid (aH wr 0 3 (.slice Uj C H3) (zv Q))/\Hid (U.heap.size<=wr.heap.size)) (fun _ _ BV _=>C-(intOf BV).toNat)
   case atStart=>exact ⟨0,o_,rfl,H7,pW,y1,Uk,NC⟩
   case round =>
    clear H7 pW y1 Uk NC;obtain ⟨q,h5,rfl,H,R,O,h6,HS⟩:=hrel;by_cases y3:q<C
    ·have d:q<Q.length:=by rw[jF.o];exact y3
     have bL:(q:Int)<(C:Int):=o_;obtain ⟨A,c,he,_,_,h3⟩:=h6.o.reads;rw[iF,jF.o] at he h3;cases he;obtain ⟨rb,ro,rfl,x4⟩:=h3 o_
     have k0:wr.cell? ⟨rb,ro+q,none⟩=some (.int .i64 (Q[q]'d:Nat)):=by rw[x4 q y3,oP _ _ d,x_9 d]
     have Ka:=Zl.o (Q[q]'d) (rY d);have y4:=PO.o (Q[q]'d) (rY d);have H5:=(R.o.look sY Bq (jW wr) (a:=Q[q]'d) (show Q[q]'d<=100000 by omega)).1;replace H5:(Instr.lookup 86 (.map (some (E+1))) (.int .i64 (Q[q]'d:Nat)) false).run prog wr=.ok ((dg (fc Y h4) (Q[q]'d)).getD (.string ⟨#[]⟩)) wr:=H5;rw[show (dg (fc Y h4) (Q[q]'d)).getD (.string ⟨#[]⟩)=.string (Y (Q[q]'d)) by simp[dg,fc,y4]] at H5
     have aR:Hid (eu ((N.map fun q=>(⟨100+q,J q⟩:Wr))++(Q.map fun q=>(⟨120+q,Y q⟩:Wr)).take (q+1))=eu ((N.map fun q=>(⟨100+q,J q⟩:Wr))++(Q.map fun q=>(⟨120+q,Y q⟩:Wr)).take q)++[.int .i64 (120+Q[q]'d:Nat),.string (Y (Q[q]'d))]):=Zz (by
      rw[mx (by rw[fW];exact d),List.getElem_map,<-List.append_assoc,yM])
     clear h3 x4 y4;generalize Q[q]'d=nd at *;generalize Y nd=y at *;have vq:(120:Int)+(nd:Int)=((120+nd:Nat):Int):=o_
     have ph:IntKind.i64.wrap ((120+nd:Nat):Int)=((120+nd:Nat):Int):=by rw[eM];omega
     have cO:=Zz (yZ (120+nd) y);have x6:=Zz H.o;have PS:=iA.o
     have oh:k<=200/\C<=100:=by have:=Uf.o;have:=y9.o;have:=PQ.o;have:=jF.o;omega
     have Gk:=Zz oh;have HQ:=Zz y3;have Zr:=oh.2;clear oh;generalize 120+nd=ka at *;have jG:=Zz (fun z (hz:u21.ownBlock=some z)=>(iZ H.o hz).1)
     have Zs:Hid (∀z,(Value.slice (some ⟨rb,ro,none⟩) C H3).ownBlock=some z->¬some z=u21.ownBlock):=Zz fun z hz e=>by
      obtain ⟨iR,az⟩:=fj h6.o hz;obtain ⟨dj,aq⟩:=fj x6.o e.symm;exact ab.ne_ az aq d_ rfl
     have jf:=HS.o
     go_wp2_with (at_builtin;refine Y3 U.heap.size rfl (.tmp 116) (.tmp 123) 182 240 (.agg #[.int .i64 0,.string ⟨#[]⟩]) 2 24 rfl underlying182 sk rfl d_ d_ u21 (k+q) _ [.int .i64 ka,.string y] rfl rfl rfl cO.o x6.o jf (by have:=Gk.o;have:=HQ.o;omega) ?_;intro v1 w9 y7 y5 aZ;have y6:=Zz y7;have H1:=Zz y5;clear y7 y5 aZ)
     rw[<-aR.o] at y6;have h2:Kp (fun z=>some z=u21.ownBlock) wr w9:=Kp.of_grown H1.o fun _ h=>h
     have x8:=Zz (R.o.kp h2 fun e=>by
      obtain ⟨cs,hb⟩:=fj x6.o e.symm
      exact R.o.ne_blk hb rfl)
     have h9:=Zz (O.o.then h2 fun z hz h=>by have:=jG.o z h.symm;omega);have PU:=Zz (h6.o.kp h2 Zs.o);have jg:Hid (U.heap.size<=w9.heap.size):=Zz (cL HS.o h2.size);go_roundw
     case rel=>exact ⟨q+1,o_,by go_num,y6,x8,h9,PU,jg⟩
     case measure=>simp[intOf];omega
    obtain rfl:q=C:=o_;have hO:=H.o;rw[kx (by rw[fW,jF.o];exact bS _),<-y9.o,<-jF.o] at hO;have bw:=bx.o _ _ (w_P hO iA.o);have dE:=Zz bw;clear hO bw H R h6 HS;go_wp2
    go_ret3
    refine ⟨u21,?_,?_,O.o⟩
    ·rw[uZ.o];rfl
    rw[iM.o];exact dE.o
end
section
def AR (P:a_ w) (h:Bk w b n σ F) (h8:10<=w.heap.size) (H:i<n) (hs:sl s) (hk:key.length=32) (C:(σ i).dead=true) (r:B_) (v:Value) (l:List Wr) (hv:iB w v 2 l.length (eu l)) (O:0<l.length) (hl:l.length<=100) (f:∀x∈l,x.at'<s/\x.cell.size<=2032) :
  Cl 114 #[.agg (di b i s key),.string r,v] w fun e w'=>e=.returned (.tuple #[.slice none 0 0,.string ⟨#[]⟩,.int .i64 20])/\Kp ac w w':=by
 have g:=Zz (ab.new w 139 (di b i s key));have y:=Zz ((Kp.refl ac w).alloc (.cells (di b i s key) 139));have u:=Zz (fun W (k:Kp ac w W)=>pc (P.no k) (h.no k) (by have:=k.size;omega) H hs hk v l (hv.no k) o_ f);have H1:=Zz (fun W (k:Kp ac w W) t (h7:t<s) p (hM:aS KI W p (dg (fc (fun _=>ByteArray.empty) [])) [])=>jn (key:=key) RX (P.no k) (h.no k) (by have:=k.size;omega) H hs h7 C (.map (some p)) _ (Ey hM) rfl r);have R:=Zz (fun W (k:Kp ac w W)=>hv.no k);have H3:=Zz (tH l);have h9:=Zz (fun i (h:i<l.length)=>f (l[i]'h) (rY h));have x3:=@run_makeMap prog;obtain ⟨h1,cv,rfl,h3,x0,_,_⟩:=hv;obtain ⟨m,hm⟩:∃m,l.length=m:=⟨_,rfl⟩;have B:=Zz hm;rw[hm] at R hl h3 O;clear P h f C hm;change Cl 114 #[.agg #[.pointer (some ⟨b,0,none⟩),.int .i64 i,.int .i64 s,.string (bs key)],.string r,.slice h1 l.length cv] w _;rw[B.o] at u ⊢;have x1:=h8;go_enter func114,ntmps114
 go_upto_region 1 with fail
 change Code.wp _ _ _ _ (w.alloc (.cells (di b i s key) 139));generalize h4:w.alloc (.cells (di b i s key) 139)=x4 at *;clear h4;obtain ⟨G,hG⟩:∃G,w.heap.size=G:=⟨_,rfl⟩;rw[hG] at g ⊢;have x2:=Zz hG;clear hG;have E:=g.o.c0;have I:=g.o.c1;have J:=g.o.c2;have M:=g.o.c3;go_wp2_with fail;refine (u.o _ y.o).mono ?_;rintro e o ⟨rfl,z⟩;have T:=Zz (g.o.kp z fun h=>h);have U:=Zz (y.o.trans z);clear z E I J M g y u
 go_upto_region 5 with fail
 have Z:Hid (aS KI ((o.alloc (.map #[] 0)).alloc (.map #[] 0)) o.heap.size (dg (fc (fun _=>ByteArray.empty) [])) []):=Zz (by rw[zY];exact (aS.made o).alloc _);have d:=Zz ((U.o.alloc (.map #[] 0)).alloc (.map #[] 0));have Y:=Zz ((T.o.alloc (.map #[] 0)).alloc (.map #[] 0));clear T U;generalize (o.alloc (.map #[] 0)).alloc (.map #[] 0)=H5 at *;generalize o.heap.size=p at *
 go_upto_region 6 with fail
 go_loopw [1,13,14,15,16,17,18,19,20,36] (fun H2 _ _ _ _ _ _ _ _ H0 wr=>H0=.int .i64 0/\H2=.string r/\wr=H5) (fun _ _ _ _ _ _ _ _ _ _ _=>0)
 case atStart=>exact ⟨rfl,rfl,rfl⟩
 case round =>
  obtain ⟨rfl,rfl,rfl⟩:=hrel;have H9:(0:Int)<(m:Int):=o_
  have j:0<l.length:=by rw[B.o];exact O
  obtain ⟨A,c,h6,_,_,_,S⟩:=R.o wr d.o;cases h6;obtain ⟨pb,off,rfl,N⟩:=S O;obtain ⟨L,h0⟩:=H3.o 0 j;have K:=(N (0*2) o_).trans L;have Q:=(N (0*2+1) o_).trans h0;rw[<-Nat.add_assoc] at Q;simp only[Nat.zero_mul,Nat.add_zero] at K Q;obtain ⟨H7,H8⟩:=h9.o 0 j;have H6:=Zz (fun W k=>H1.o W k (l[0]'j).at' H7 p);generalize (l[0]'j).at'=a at *;generalize (l[0]'j).cell=x at *;have h5:=Zz (ab.new wr 152 #[.int .i64 a,.string x]);have X:=Zz (d.o.alloc (.cells #[.int .i64 a,.string x] 152));have q:=Zz (Y.o.alloc (.cells #[.int .i64 a,.string x] 152));have H4:=Zz (Z.o.alloc (.cells #[.int .i64 a,.string x] 152));clear S N L h0 Y d Z H8
  go_upto_region 8 with fail
  clear K Q;generalize wr.alloc (.cells #[.int .i64 a,.string x] 152)=x5 at *;generalize wr.heap.size=D at *;have E:=q.o.c0;have I:=q.o.c1;have J:=q.o.c2;have M:=q.o.c3;have d0:=h5.o.c0;go_wp2_with fail;refine (H6.o _ X.o H4.o).mono ?_;rintro e x6 ⟨rfl,V⟩;have h2:=Zz (X.o.trans V);clear V E I J M d0;go_wp2
  go_ret3
  exact ⟨rfl,h2.o⟩
end
def uk (L:List fv) (i:Nat):List fv:=L.modify i fun m=>{ m with st:=2 }
def oQ (S:cj) (i:Nat):cj:={ S with mem:=uk S.mem i }
def Ro (L:List fv) (i:Nat):(uk L i).length=L.length:=by simp[uk]
def Pc (L:List fv) (i:Nat) (h:i<L.length):L.set i { L[i]'h with st:=2 }=uk L i:=by
 unfold uk;apply C8;intro k;rw[List.getElem?_modify];by_cases e:i=k
 ·subst e;simp[h]
 simp[e]
def pG (S:cj):Nat->Nat
 | 0=>0
 | k+1=>pG S k+(if dT S k=1 then 0 else 1)
def Vi (S:cj) (k:Nat):pG S k<=k:=by
 induction k with
 | zero=>exact bS _
 | succ k e=>unfold pG;split<;>omega
section
variable {wk m1 m2 base:Nat} 
def r5 (h:ab w wk 163 (Af S vs vm m1 m2)) (hR:bg w base S vs vm) (g:a7 S) :
  Cl 116 #[.pointer (some ⟨wk,0,none⟩)] w fun e w'=>e=.returned (.bool (decide (pG S (S.data+2)<=2)))/\w'=w:=by
 have U:=g.n1;have O:=g.d8;obtain ⟨N,cs,Am,cm,v,u⟩:=hR.reads.shape;obtain ⟨A,off,E,q⟩:=hR.reads.memAt (Kp.refl _ _) u o_;subst E;obtain ⟨B,C,M,y⟩:=hR.reads.seatAt (Kp.refl _ _) v;subst M;subst v u;have J:=Zz q;have f:=Zz y;have a:=Zz (fun i (h:i<S.mem.length)=>(⟨g.st2 i h,SH h⟩:_/\_));have V:=h.c7;have W:=h.c8;have G:=Zz (Vi S);have z:Hid (∀k,pG S (k+1)=pG S k+(if dT S k=1 then 0 else 1)):=Zz fun _=>rfl;clear h hR g q y;go_enter func116,ntmps116
 go_upto_region 3 with fail
 go_loopw [3,5,12] (fun I _ n wr=>∃i:Nat,i<=S.data+2/\n=.int .i64 i/\I=.int .i64 (pG S i)/\wr=w) (fun _ _ n _=>S.data+2-(intOf n).toNat)
 case atStart=>exact ⟨0,o_,rfl,rfl,rfl⟩
 case round =>
  obtain ⟨i,T,rfl,rfl,rfl⟩:=hrel;by_cases b:i<S.data+2
  ·have R:(i:Int)<(S.data:Int)+2:=o_
   have m:i<S.mem.length:=o_;have P:(i:Int)<(S.mem.length:Int):=o_;have q0:=f.o i b;have Y:=(J.o i m).1;obtain ⟨Z,t⟩:=a.o i m;have X:=G.o i;have p:=z.o i;rw[t] at p;generalize (S.mem[i]'m).st=o at *;have r:=Zz p;clear p t;generalize pG S i=gg at *;by_cases x:o=1
   ·subst x
    have hz:pG S (i+1)=gg:=by rw[r.o];simp
    have l:=Zz hz;have c:((1:Int) != 1)=false:=d_;clear hz;go_wp2;go_roundw
    case rel=>exact ⟨i+1,o_,by go_num,by rw[l.o],trivial⟩
    case measure=>simp[intOf];omega
   have hz:pG S (i+1)=gg+1:=by rw[r.o,if_neg x]
   have l:=Zz hz
   have c:((o:Int) != 1)=true:=by rw[bne_iff_ne];omega
   have Q:¬((o:Int)=1):=o_;have Ok:gg<=100:=o_;clear hz;go_wp2;go_roundw
   case rel=>exact ⟨i+1,o_,by go_num,by rw[l.o];go_num,trivial⟩
   case measure=>simp[intOf];omega
  obtain rfl:i=S.data+2:=o_
  have s:decide (((pG S (S.data+2):Nat):Int)<=2)=decide (pG S (S.data+2)<=2):=by rw[decide_eq_decide];omega
  have Fd:=Zz s;clear s;obtain ⟨gg,j⟩:∃gg,pG S (S.data+2)=gg:=⟨_,rfl⟩;rw[j];rw[j] at Fd;have d:=Zz j;clear j;go_wp2;go_ret;exact ⟨by rw[d.o,<-Fd.o];rfl,rfl⟩
def Sj (h:ab w wk 163 (Af S vs vm m1 m2)) (hR:bg w base S vs vm) {x:Nat->Option Value} (hM:aS KI w m1 x dom) (i:Nat) (j:i<S.mem.length) (V:i<=1000) (O:(S.mem[i]'j).st<=2) :
  Cl 115 #[.pointer (some ⟨wk,0,none⟩),.int .i64 i] w fun e w'=>e=.returned (.tuple #[])/\ab w' wk 163 (Af (oQ S i) vs vm m1 m2)/\bg w' base (oQ S i) vs vm/\aS KI w' m1 (Cx x i) (dom.erase i)/\∃g,vm.ownBlock=some g/\Kp (fun q=>q=g\/q=m1) w w':=by
 obtain ⟨g,cm,M,E,f⟩:=LF hR.mems o_;subst M;obtain ⟨q0,_,_⟩:=Re S.mem i j;have R:=h.c8
 have Q:w.cell? ⟨g,i*3,none⟩=some (.int .i64 ((S.mem[i]'j).st:Int)):=by rw[Ho hR.mems _ o_];exact q0
 have P:=y_e hR.mems (i*3);have u:=x_a hR.mems (i*3) (.int .i64 (2:Nat));rw[memC_st S.mem i j 2,Pc] at u;have m:=(Kp.refl (fun q=>q=g) w).setCell ⟨g,i*3,none⟩ (.int .i64 2) (.inl rfl);obtain ⟨W,s⟩:=fj hR.mems (q:=g) rfl;have t:=h.kp m fun e=>ab.ne_ h s d_ e
 have v:=hR.seats.kp m fun q p e=>by
  obtain ⟨c,o⟩:=fj hR.seats p;have e:q=g:=e;subst e;exact ab.ne_ o s d_ rfl
 have l:=hM.kp m fun e=>hM.ne_blk s e;obtain ⟨k,y,b,n⟩:=l.del sY M7 (a:=i) (show i<=100000 by omega) 0;have z:Kp (fun q=>q=g\/q=m1) w k:=(m.mono fun q _ e=>Or.inl e).trans (n.mono fun q _ e=>Or.inr e)
 have r:Hid (ab k wk 163 (Af (oQ S i) (vs) (.slice (some ⟨g,0,none⟩) S.mem.length cm) m1 m2)/\bg k base (oQ S i) vs (.slice (some ⟨g,0,none⟩) S.mem.length cm)/\aS KI k m1 (Cx x i) (dom.erase i)/\Kp (fun q=>q=g\/q=m1) w k):=Zz ⟨t.kp n fun e=>l.ne_blk t (Eq.symm e),⟨v.kp n fun q p e=>by
   obtain ⟨c,o⟩:=fj v p;have e:q=m1:=e;subst e
   exact l.ne_blk o rfl,by
   have I:(k.ownsRow base 108 3 (.slice (some ⟨g,0,none⟩) S.mem.length cm) S.mem.length (ds (uk S.mem i))):=dL u n fun q p e=>by
    obtain ⟨c,o⟩:=fj u p;have e:q=m1:=e;subst e;exact l.ne_blk o rfl
   have G:(oQ S i).mem.length=S.mem.length:=Ro _ _;rw[G]
   exact I⟩,b,z⟩
 replace y:(Builtin.delete_ #[161,3] 0 #[.map (some m1),.int .i64 i]).run prog (w.setCell ⟨g,i*3,none⟩ (.int .i64 2))=.ok (.tuple #[]) k:=y;have T:(w.setCell ⟨g,i*3,none⟩ (.int .i64 2)).cell? ⟨wk,9,none⟩=some (.map (some m1)):=t.cell 9;have J:(i:Int)<(S.mem.length:Int):=o_;have d:¬(((S.mem[i]'j).st:Int)=3):=o_
 have N:(((S.mem[i]'j).st:Int)==3)=false:=by rw[pN];exact d
 generalize (S.mem[i]'j).st=U at *;clear h hR hM u m t v l b n z q0 s E f;go_enter func115,ntmps115;go_wp2
 go_end0
 exact ⟨rfl,r.o.1,r.o.2.1,r.o.2.2.1,g,rfl,r.o.2.2.2⟩
end
def fD (T:List B_):List Wr:=(List.range T.length).map fun k=>⟨2+k,tl T k⟩
def qQ (T:List B_):(fD T).length=T.length:=by simp[fD]
def lgW_at (T:List B_) (k:Nat) (h:k<T.length):(fD T)[k]'(by rw[qQ];exact h)=⟨2+k,tl T k⟩:=by simp[fD]
section
variable {st an sp:Nat} 
def K6 (hb:Bk w b n σ F) (h:ab w st 116 (gU b an key S vs vm sp)) (C:i<n) (Z:(σ i).dead=false) (E:(σ i).wait<=500) (v:Value) (T:List B_) (hv:∀W,Kp F w W->b_ W v (sv T)) (h6:T.length<=97) (hz:∀k,k<T.length->(tl T k).size<=2048) :
  Cl 118 #[.pointer (some ⟨st,0,none⟩),.int .i64 i,v] w fun e w'=>e=.returned (.int .i64 0)/\∃g,Gr w F g/\Bk w' b n (dY σ i ((σ i).wrs (fD T)).flush) g/\Kp F w w':=by
 have z:=Zz hv;have H:=Zz (fun W σ' g (hb:Bk W b n σ' g) k (hk:k<T.length) (E:(σ' i).wait<=100000)=>z_aq hb i (2+k) C o_ (tl T k) (hz k hk) E);have K:=Zz (fun W σ' g (hb:Bk W b n σ' g)=>z_ay hb i C);have h2:=Zz h;have L:=Zz (hb.off h (by unfold ci;decide))
 have X:Hid (∃g,Gr w F g/\Bk w b n (dY σ i ((σ i).wrs ((fD T).take 0))) g):=Zz ⟨F,Gr.refl _ _,by
  have e:dY σ i ((σ i).wrs ((fD T).take 0))=σ:=xg σ i
  rw[e];exact hb⟩
 have P:=Zz (Kp.refl F w)
 have D:Hid (∀k,k<T.length->dY (dY σ i ((σ i).wrs ((fD T).take k))) i (((σ i).wrs ((fD T).take k)).write (2+k) (tl T k))=dY σ i ((σ i).wrs ((fD T).take (k+1)))):=Zz fun k hk=>by
  rw[w_K,ao.wrs_take _ _ k (by rw[qQ];exact hk),lgW_at T k hk]
 have I:Hid (∀k,dY σ i ((σ i).wrs ((fD T).take k)) i=(σ i).wrs ((fD T).take k)):=Zz fun k=>P_ _ _ _
 have M:Hid (∀k,((σ i).wrs ((fD T).take k)).dead=false):=Zz fun k=>by rw[ao.wrs_dead];exact Z
 have h0:Hid (∀k,((σ i).wrs ((fD T).take k)).wait<=100000):=Zz fun k=>by have:=ao.wrs_wait (σ i) ((fD T).take k);rw[gC,qQ] at this;omega
 have f:Hid ((fD T).take T.length=fD T):=Zz (kx (by rw[qQ];exact bS _));have h1:Hid (∀s J,dY (dY σ i s) i J=dY σ i J):=Zz fun s J=>w_K _ _ _ _;obtain ⟨H0,cv,rfl,_⟩:=hv w (Kp.refl _ _);rw[cN] at z ⊢;obtain ⟨m,hm⟩:∃m,T.length=m:=⟨_,rfl⟩;rw[hm] at z H D f h6 ⊢;have V:=Zz hm;clear hb h Z E hz hv hm;go_enter func118,ntmps118
 go_upto_region 2 with fail
 go_loopw [7,8,9,12] (fun _ _ _ G wr=>∃k:Nat,k<=m/\G=.int .i64 k/\Hid (∃g,Gr w F g/\Bk wr b n (dY σ i ((σ i).wrs ((fD T).take k))) g)/\Hid (Kp F w wr)) (fun _ _ _ G _=>m-(intOf G).toNat)
 case atStart=>exact ⟨0,o_,rfl,X,P⟩
 case round =>
  clear X P;obtain ⟨k,hk,rfl,o,l⟩:=hrel;obtain ⟨N,Q,O⟩:=o.o;have t:=Zz Q;have a:=Zz O;have h7:=Zz (h2.o.kp l.o L.o);clear Q O o;have R:=h7.o.c0;by_cases u:k<m
  ·have H2:(k:Int)<(m:Int):=o_
   have h4:k<T.length:=by rw[V.o];exact u
   obtain ⟨A,c,B,_,_,d⟩:=z.o wr l.o;rw[cN,V.o] at B d;cases B;obtain ⟨pb,off,rfl,Y⟩:=d o_
   have h8:wr.cell? ⟨pb,off+k,none⟩=some (.string (tl T k)):=by rw[Y k u,iQ T k h4]
   have j:=H.o wr _ N a.o k u (by rw[I.o];exact h0.o k);rw[I.o,D.o k u,M.o] at j;simp only[Bool.false_eq_true,if_false] at j;have o:=Zz j;have h5:(2:Int)+(k:Int)=((2+k:Nat):Int):=o_
   have H1:IntKind.i64.wrap ((2+k:Nat):Int)=((2+k:Nat):Int):=by rw[eM];omega
   clear j d Y;generalize tl T k=H3 at *;generalize 2+k=kk at *;go_wp2_with fail;refine o.o.mono ?_;rintro e x ⟨rfl,y,r,q,p⟩;have h9:Hid (∃g,Gr w F g/\Bk x b n (dY σ i ((σ i).wrs ((fD T).take (k+1)))) g):=Zz ⟨y,t.o.then r l.o.size,q⟩;have h3:=Zz (Xn l.o t.o p);clear r q p h8 R a t l;go_wp2;go_roundw
   case rel=>exact ⟨k+1,o_,by go_num,h9,h3⟩
   case measure=>simp[intOf];omega
  obtain rfl:k=m:=o_;have j:=K.o wr _ N a.o;rw[I.o,h1.o,f.o] at j
  have U:((σ i).wrs (fD T)).dead=false:=by have:=M.o k;rwa [f.o] at this
  rw[U] at j;simp only[Bool.false_eq_true,if_false] at j;have o:=Zz j;clear j U;go_wp2_with fail;refine o.o.mono ?_;rintro e x ⟨rfl,y,r,q,p⟩;have HR:Hid (∃g,Gr w F g/\Bk x b n (dY σ i ((σ i).wrs (fD T)).flush) g/\Kp F w x):=Zz ⟨y,t.o.then r l.o.size,q,Xn l.o t.o p⟩;clear r q p R;go_wp2;go_ret;exact ⟨rfl,HR.o⟩
end
def lC (l:List fu) (i:Nat):List Wr:=(l.filter fun x=>x.disk==i).map fun x=>⟨x.slot,x.cell⟩
def Xp (l:List fu) (i j:Nat) (h:j<l.length):lC (l.take (j+1)) i=if (l[j]'h).disk=i then lC (l.take j) i++[⟨(l[j]'h).slot,(l[j]'h).cell⟩] else lC (l.take j) i:=by
 unfold lC;rw[mx h,List.filter_append,List.map_append];by_cases e:(l[j]'h).disk=i
 ·simp[List.filter,e]
 have g:((l[j]'h).disk==i)=false:=by rw[pN];exact e
 simp[List.filter,e,g]
def Ta (l:List fu) (i:Nat):(lC l i).length<=l.length:=by
 unfold lC;rw[fW];exact List.length_filter_le _ _
def R8 (L:List fv) (σ:Nat->ao) (k:Nat):List fv:=L.mapIdx fun j m=>if j<k/\m.st=1/\(σ j).dead=true then { m with st:=2 } else m
def f_ (S:cj) (σ:Nat->ao) (k:Nat):cj:={ S with mem:=R8 S.mem σ k }
def cZ (S:cj) (σ:Nat->ao) (k:Nat):List Nat:=(List.range k).filter fun j=>dT S j==1 && !(σ j).dead
section
variable (S:cj) (σ:Nat->ao)
def Lz (L:List fv) (k:Nat):(R8 L σ k).length=L.length:=by simp[R8]
def Tz (k:Nat):(f_ S σ k).mem.length=S.mem.length:=Lz σ _ _
def Yq (L:List fv):R8 L σ 0=L:=by
 unfold R8;apply C8;intro i;simp
def Ul:f_ S σ 0=S:=by unfold f_;rw[Yq]
def prM_at (L:List fv) (k i:Nat) (hk:k<=i) (h:i<L.length):(R8 L σ k)[i]'(by rw[Lz];exact h)=L[i]'h:=by
 unfold R8;rw[List.getElem_mapIdx,if_neg o_]
def WH (k:Nat) (h:k<S.mem.length) (j:(S.mem[k]'h).st=1) (l:(σ k).dead=true):oQ (f_ S σ k) k=f_ S σ (k+1):=by
 unfold oQ f_ uk R8;congr 1;apply C8;intro i;rw[List.getElem?_modify,List.getElem?_mapIdx,List.getElem?_mapIdx];by_cases e:k=i
 ·subst e
  rw[cr h];simp[j,l]
 have g:i<k+1↔i<k:=o_;simp only[g];simp[e]
def Vw (k:Nat) (j:∀h:k<S.mem.length,¬((S.mem[k]'h).st=1/\(σ k).dead=true)):f_ S σ (k+1)=f_ S σ k:=by
 unfold f_ R8;congr 1;apply C8;intro i;rw[List.getElem?_mapIdx,List.getElem?_mapIdx]
 cases l:S.mem[i]? with
 | none=>rfl
 | some m =>
  obtain ⟨n,hm⟩:=AP.1 l;by_cases e:k=i
  ·subst e
   have:=j n;rw[hm] at this;simp[this]
  have g:i<k+1↔i<k:=o_;simp only[g]
def prD_in (k:Nat) (e:dT S k=1) (g:(σ k).dead=false):cZ S σ (k+1)=cZ S σ k++[k]:=by
 unfold cZ;rw[List.range_succ,List.filter_append];simp[e,g]
def prD_out (k:Nat) (e:¬(dT S k=1/\(σ k).dead=false)):cZ S σ (k+1)=cZ S σ k:=by
 unfold cZ;rw[List.range_succ,List.filter_append]
 have:(dT S k==1 && !(σ k).dead)=false:=by
  rw[Bool.eq_false_iff];intro h;simp at h;exact e h
 simp[List.filter,this]
def j1 (k j:Nat):j∈cZ S σ k↔j<k/\dT S j=1/\(σ j).dead=false:=by
 unfold cZ;simp
def prD_add (k:Nat):e8 (cZ S σ k) k=cZ S σ k++[k]:=by
 unfold e8;rw[if_neg];rw[j1];omega
def prD_len (k:Nat):(cZ S σ k).length<=k:=by
 unfold cZ;have:=List.length_filter_le (fun j=>dT S j==1 && !(σ j).dead) (List.range k);rw[zH] at this;exact this
end
def vD (U:Nat->Value) (dom:List Nat):Nat->Option Value:=fun j=>if j∈dom then some (U j) else none
def vD_put (U:Nat->Value) (dom:List Nat) (a:Nat) (u:Value) (ha:a∉dom):lu (vD U dom) a u=vD (fun j=>if j=a then u else U j) (dom++[a]):=by
 funext x;unfold lu vD;by_cases e:x=a
 ·simp[e]
 simp[e]
def vD_del (U:Nat->Value) (dom:List Nat) (a:Nat) (ha:a∉dom):Cx (vD U dom) a=vD U dom:=by
 funext x;unfold Cx vD;by_cases e:x=a
 ·subst e;simp[ha]
 simp[e]
def Oz {a:Nat} (h:a∉dom):dom.erase a=dom:=List.erase_of_not_mem h
def infoSC:(prog.info? 152).map (fun i=>(i.zero,i.size,i.bytes))=some (some (.agg #[.int .i64 0,.string ⟨#[]⟩]),2,24):=k_
def infoLW:(prog.info? 182).map (fun i=>(i.zero,i.size,i.bytes))=some (some (.slice none 0 0),1,24):=k_
def Hu (W:W_):(zeroValue 182).run prog W=.ok (.slice none 0 0) W:=by
 obtain ⟨j,g,e,h,i⟩:=info_parts infoLW;simp[zeroValue,typeInfo,g,e]
def Rows (w:W_) (B:Nat) (U:Nat->Value) (dom:List Nat) (X:Nat->List Wr):Prop:=∀j∈dom,w.ownsRow B 240 2 (U j) (X j).length (eu (X j))
def Rows.kp {S:Nat->Prop} (h:Rows w B U dom X) (k:Kp S w w') (g:∀q,S q->∀cs,¬ab w q 240 cs):Rows w' B U dom X:=fun j e=>dL (h j e) k fun q i hs=>by
 obtain ⟨cs,hb⟩:=fj (h j e) i;exact g q hs cs hb
def Rows.no (h:Rows w B U dom X) (k:Kp ac w w'):Rows w' B U dom X:=h.kp k fun _ h=>h.elim
def Rows.add (h:Rows w B U dom X) (a:Nat) (u:Value) (ha:a∉dom) (i:w.ownsRow B 240 2 u (X a).length (eu (X a))):Rows w B (fun j=>if j=a then u else U j) (dom++[a]) X:=fun j g=>by
 by_cases e:j=a
 ·subst e;simp only[if_true];exact i
 show w.ownsRow B 240 2 (if j=a then u else U j) (X j).length (eu (X j));rw[if_neg e];rcases List.mem_append.1 g with g|g
 ·exact h j g
 exact absurd (List.mem_singleton.1 g) e
def JB (g:a7 S) (σ:Nat->ao) (k:Nat):a7 (f_ S σ k) where
 d2:=g.d2
 d8:=g.d8
 sl:=g.sl
 n1:=by rw[Tz];exact g.n1
 n12:=by rw[Tz];exact g.n12
 mem i h:=by
  have j:i<S.mem.length:=by rwa [Tz] at h
  obtain ⟨l,m,q,n⟩:=g.mem i j
  have e:(f_ S σ k).mem[i]'h=if i<k/\(S.mem[i]'j).st=1/\(σ i).dead=true then { S.mem[i]'j with st:=2 } else S.mem[i]'j:=by
   have p:(f_ S σ k).mem[i]'h=(R8 S.mem σ k)[i]'h:=rfl;rw[p];simp only[R8,List.getElem_mapIdx]
  rw[e];by_cases o:i<k/\(S.mem[i]'j).st=1/\(σ i).dead=true
  ·rw[if_pos o]
   exact ⟨l,m,fun _=>.inr rfl,fun r=>by have:=n r;omega⟩
  rw[if_neg o];exact ⟨l,m,q,n⟩
 c:=g.c
 e:=g.e
def S3 (g m1 m2:Nat):Nat->Prop:=fun q=>q=g\/q=m1\/q=m2
section
variable {wk m1 m2 base st an sp:Nat} {S0:cj} {rr rt:Value}
def Oq (r:a_ w) (h:Bk w b n σ F) (y:10<=w.heap.size) (t:i<n) (hs:sl s) (hk:key.length=32) (g:Nat->B_) (o:B_) (v:Value) (l:List Wr) (hv:iB w v 2 l.length (eu l)) (a:0<l.length) (hl:l.length<=100) (p:∀x∈l,x.at'<s/\x.cell.size<=2032)
  (f:(σ i).dead=false->o=e9 s g/\∀q,1<=q->q<s->tl (σ i).now (100+q)=dD s g q) :
  Cl 114 #[.agg (di b i s key),.string o,v] w fun e w'=>∃u z j,e=.returned (.tuple #[u,.string z,.int .i64 j])/\Kp ac w w'/\((σ i).dead=true/\j=20\/(σ i).dead=false/\j=0/\z=e9 s (dp g l)/\w'.ownsRow w.heap.size 240 2 u (gj s g l).length (eu (gj s g l))):=by
 cases k:(σ i).dead with
 | true =>
  refine (AR r h y t hs hk k o v l hv a hl p).mono ?_;rintro e w' ⟨rfl,m⟩
  exact ⟨_,_,_,rfl,m,.inl ⟨rfl,rfl⟩⟩
 | false =>
  obtain ⟨rfl,c⟩:=f k;refine (CA r h y t hs hk k g v l hv hl p c).mono ?_;rintro e w' ⟨u,rfl,d,m⟩;exact ⟨_,_,_,rfl,m,.inr ⟨rfl,rfl,rfl,d⟩⟩
def WU (hL:a_ w) (hb:Bk w b n σ F) (hw:10<=w.heap.size) (hk:key.length=32) (aJ:ab w st 116 (gU b an key S0 rr rt sp)) (y4:ab w wk 163 (Af S vs vm m1 m2)) (hR:bg w base S vs vm) (h5:a7 S) (eH:S.mem.length=n)
  (R:aS KI w m1 (fun _=>none) []) (T:aS KI w m2 (fun _=>none) []) (iz:m1≠m2) (qM:10<=base) (wD:10<=m1) (wE:10<=m2)
  (pz pA cv:Value) (l:List fu) (bz:Nat) (dw:w.ownsRow bz 154 3 cv l.length (pS l)) (hl:l.length<=100) (k:cj) (hsp:∃J cs Am cm,pz=.slice J (k.data+2) cs/\pA=.slice Am k.mem.length cm)
  (o:Nat->Nat->B_) (f:∀i (h:i<S.mem.length),(S.mem[i]'h).st=1->0<(lC l i).length/\∀x∈lC l i,x.at'<S.slots/\x.cell.size<=2032)
  (htop:∀i (h:i<S.mem.length),(S.mem[i]'h).st=1->(σ i).dead=false->(S.mem[i]'h).top=e9 S.slots (o i)/\∀q,1<=q->q<S.slots->tl (σ i).now (100+q)=dD S.slots (o i) q) :
  Cl 70 #[.pointer (some ⟨st,0,none⟩),.pointer (some ⟨wk,0,none⟩),.agg (i_ k pz pA cv)] w fun e w'=>e=.returned (.int .i64 (if pG (f_ S σ n) (S.data+2)<=2 then 0 else 24))/\ab w' wk 163 (Af (f_ S σ n) vs vm m1 m2)/\bg w' base (f_ S σ n) vs vm /\
   (∃U,aS KI w' m1 (vD U (cZ S σ n)) (cZ S σ n)/\Rows w' w.heap.size U (cZ S σ n) fun j=>gj S.slots (o j) (lC l j))/\aS KI w' m2 (dg (fc (fun j=>e9 S.slots (dp (o j) (lC l j))) (cZ S σ n))) (cZ S σ n)/\∃g,vm.ownBlock=some g/\Kp (S3 g m1 m2) w w':=by
 have jE:=h5.n1;have cE:=h5.n12;have BD:=h5.d8;have fk:=h5.sl;obtain ⟨J,cs,Am,cm,rfl,rfl⟩:=hsp;obtain ⟨g,Q,lE,br,bC⟩:=LF hR.mems o_;subst lE;obtain ⟨M,O,oe⟩:=lM dw;subst oe;obtain ⟨yx,dQ⟩:=fj hR.mems (q:=g) rfl
 have IF:Hid (∀q,S3 g m1 m2 q->¬F q):=Zz fun q p=>by
  rcases p with rfl|rfl|rfl
  ·exact hb.offRow hR.mems (by unfold ci;decide) _ rfl
  ·exact hb.offMap R
  exact hb.offMap T
 have tV:Hid (∀q t cs,ab w q t cs->t≠108->¬S3 g m1 m2 q):=Zz fun q t cs V ht p=>by
  rcases p with rfl|rfl|rfl
  ·exact ab.ne_ V dQ ht rfl
  ·exact R.ne_blk V rfl
  exact T.ne_blk V rfl
 have o7:Hid (∀q,q<6->¬S3 g m1 m2 q):=Zz fun q h6 p=>by
  rcases p with rfl|rfl|rfl
  ·omega
  ·omega
  omega
 have iM:=Zz (ab.new w 97 (i_ k (.slice J (k.data+2) cs) (.slice Am k.mem.length cm) (.slice M l.length O)));have s:Kp ac w (w.alloc (.cells (i_ k (.slice J (k.data+2) cs) (.slice Am k.mem.length cm) (.slice M l.length O)) 97)):=(Kp.refl ac w).alloc _;have eE:=Zz s
 have lp:Hid (∀q,q<w.heap.size+1->S3 g m1 m2 q->q<w.heap.size):=Zz fun q _ p=>by
  rcases p with rfl|rfl|rfl
  ·exact bC
  ·exact R.lt
  exact T.lt
 have bf:=Zz (hL.no s);have jy:=Zz (hb.no s);have aR:=Zz (aJ.kp s fun h=>h);have jJ:=Zz (y4.kp s fun h=>h);have lJ:=Zz (tV.o st _ _ aJ d_);have eS:=Zz (tV.o wk _ _ y4 d_);have IG:Hid (bg (w.alloc (.cells (i_ k (.slice J (k.data+2) cs) (.slice Am k.mem.length cm) (.slice M l.length O)) 97)) base (f_ S σ 0) vs (.slice (some ⟨g,0,none⟩) S.mem.length Q)):=Zz (by rw[Ul];exact hR.no s);have BW:Hid (∃U,aS KI (w.alloc (.cells (i_ k (.slice J (k.data+2) cs) (.slice Am k.mem.length cm) (.slice M l.length O)) 97)) m1 (vD U (cZ S σ 0)) (cZ S σ 0)/\Rows (w.alloc (.cells (i_ k (.slice J (k.data+2) cs) (.slice Am k.mem.length cm) (.slice M l.length O)) 97)) w.heap.size U (cZ S σ 0) fun j=>gj S.slots (o j) (lC l j)):=Zz ⟨fun _=>.nilFunc,R.no s,fun j hj=>by cases hj⟩;have IH:Hid (aS KI (w.alloc (.cells (i_ k (.slice J (k.data+2) cs) (.slice Am k.mem.length cm) (.slice M l.length O)) 97)) m2 (dg (fc (fun j=>e9 S.slots (dp (o j) (lC l j))) (cZ S σ 0))) (cZ S σ 0)):=Zz (T.no s);have DL:=Zz (dL dw s fun _ _ h=>h)
 have A6:Hid (∀q,(Value.slice M l.length O).ownBlock=some q->¬S3 g m1 m2 q):=Zz fun q p=>by
  obtain ⟨iR,h0⟩:=fj dw p;exact tV.o q _ _ h0 d_
 have Zx:=Zz (WD l);have nY:=Zz (Xp l)
 have qo:Hid (∀j i,(lC (l.take j) i).length<=100):=Zz fun j i=>by have:=Ta (l.take j) i;have:=gC (i:=j) (l:=l);omega
 have kD:Hid (l.take l.length=l):=Zz List.take_length;have PQ:=Zz f;have Kj:=Zz htop;have mW:=Zz (fun i (h:i<S.mem.length)=>SH h);have wm:=Zz h5.st2;have gD:=Zz (fun i (h:i<S.mem.length)=>Re (f_ S σ i).mem i (by rw[Tz];exact h));have Um:Hid (∀i (h:i<S.mem.length),(f_ S σ i).mem[i]'(by rw[Tz];exact h)=S.mem[i]'h):=Zz fun i h=>prM_at σ S.mem i i (bS _) h;have gS:=Zz (WH S σ);have Zy:=Zz (Vw S σ);have sB:=Zz (prD_in S σ);have Bf:=Zz (prD_out S σ);have CX:=Zz (j1 S σ);have DM:=Zz (prD_add S σ);have mI:=Zz (prD_len S σ);have fw:=Zz (Tz S σ);have PV:=Zz hk;have fG:=Zz fk;have dH:=Zz hw;have gF:=Zz bC;have dN:=Zz eH;have vL:=Zz iz;have gM:=Zz h5;clear hL hb hk aJ y4 hR h5 R T dw f htop dQ s fk;obtain ⟨m,hm⟩:∃m,l.length=m:=⟨_,rfl⟩;have II:=Zz hm;rw[hm] at hl kD;clear hm;obtain ⟨Un,BX⟩:∃Un:Int,(if pG (f_ S σ n) (S.data+2)<=2 then (0:Int) else 24)=Un:=⟨_,rfl⟩;rw[BX];have Uo:=Zz BX;clear BX;change Cl 70 #[.pointer (some ⟨st,0,none⟩),.pointer (some ⟨wk,0,none⟩),.agg #[.int .u64 k.count,.int .u64 k.epoch,.int .i64 k.data,.int .i64 k.slots,.int .i64 0,.int .i64 0,.bool false,.slice J (k.data+2) cs,.slice Am k.mem.length cm,.slice none 0 0,.slice M l.length O]] w _;have k8:(w.alloc (.cells (i_ k (.slice J (k.data+2) cs) (.slice Am k.mem.length cm) (.slice M l.length O)) 97)).cell? ⟨wk,8,none⟩=some (.slice (some ⟨g,0,none⟩) S.mem.length Q):=jJ.o.cell 8;go_enter func70,ntmps70
 go_upto_region 1 with fail
 change Code.wp _ _ _ _ (w.alloc (.cells (i_ k (.slice J (k.data+2) cs) (.slice Am k.mem.length cm) (.slice M l.length O)) 97));generalize w.alloc (.cells (i_ k (.slice J (k.data+2) cs) (.slice Am k.mem.length cm) (.slice M l.length O)) 97)=w1 at *;obtain ⟨P,sZ⟩:∃P,w.heap.size=P:=⟨_,rfl⟩;rw[sZ] at iM lp BW dH ⊢;have IJ:=Zz sZ;clear sZ bC;have gV:Hid (¬S3 g m1 m2 P):=Zz fun h=>absurd (lp.o P o_ h) o_;rw[II.o] at iM DL A6
 go_upto_region 2 with fail
 clear k8;have Up:S.mem.length<=12:=cE;have bJ:=Zz (Kp.refl (S3 g m1 m2) w1)
 go_loopw [7,8,9,11,12,13,14,21] (fun _ _ _ _ _ _ _ em wr=>∃i:Nat,i<=S.mem.length/\em=.int .i64 i/\Hid (bg wr base (f_ S σ i) vs (.slice (some ⟨g,0,none⟩) S.mem.length Q))/\Hid (∃U,aS KI wr m1 (vD U (cZ S σ i)) (cZ S σ i)/\Rows wr P U (cZ S σ i) fun j=>gj S.slots (o j) (lC l j))/\Hid (aS KI wr m2 (dg (fc (fun j=>e9 S.slots (dp (o j) (lC l j))) (cZ S σ i))) (cZ S σ i))/\Hid (Kp (S3 g m1 m2) w1 wr)) (fun _ _ _ _ _ _ _ em _=>S.mem.length-(intOf em).toNat)
 case atStart=>exact ⟨0,o_,rfl,IG,BW,IH,bJ⟩
 case round =>
  clear IG BW IH bJ;obtain ⟨i,hi,rfl,HR,H1,H2,H3⟩:=hrel;by_cases v:i<S.mem.length
  ·have bL:(i:Int)<(S.mem.length:Int):=o_
   obtain ⟨q0,x0,x5⟩:=gD.o i v;rw[Um.o i v] at q0 x0 x5;have wF:=HR.o.mems;rw[fw.o] at wF
   have h7:wr.cell? ⟨g,i*3,none⟩=some (.int .i64 ((S.mem[i]'v).st:Int)):=by rw[Ho wF _ o_];exact q0
   have B:wr.cell? ⟨g,i*3+1,none⟩=some (.string (S.mem[i]'v).top):=by rw[Ho wF _ o_];exact x0
   have C:wr.cell? ⟨g,i*3+2,none⟩=some (.string (S.mem[i]'v).log):=by rw[Ho wF _ o_];exact x5
   clear q0 x0 x5 wF;have nf:=wm.o i v;have f:=PQ.o i v;have E7:=Kj.o i v;have DJ:=gS.o i v;have vz:=Zy.o i;have L:=sB.o i;have yO:=Bf.o i;rw[mW.o i v] at L yO;have wG:Hid (¬((S.mem[i]'v).st=1/\(σ i).dead=true)->f_ S σ (i+1)=f_ S σ i):=Zz fun h=>vz fun _=>h;have yC:Hid ((f_ S σ i).mem[i]'(by rw[fw.o];exact v)=S.mem[i]'v):=Um.o i v |> Zz;obtain ⟨⟨H,h9,lg⟩,y5⟩:∃x,S.mem[i]'v=x:=⟨_,rfl⟩;rw[y5] at h7 B C nf f E7 DJ L yO wG yC
   dsimp only at h7 B C nf f E7 DJ L yO wG
   have PY:=Zz f;have PZ:=Zz E7;have P0:=Zz DJ;have qN:=Zz L;have BY:=Zz yO;clear y5 f E7 DJ vz L yO;have H8:=Zz (ab.new wr 108 #[.int .i64 H,.string h9,.string lg]);have s:=(Kp.refl ac wr).alloc (.cells #[.int .i64 H,.string h9,.string lg] 108);have nS:=Zz (HR.o.no s);have nQ:Hid (∃U,aS KI (wr.alloc (.cells #[.int .i64 H,.string h9,.string lg] 108)) m1 (vD U (cZ S σ i)) (cZ S σ i)/\Rows (wr.alloc (.cells #[.int .i64 H,.string h9,.string lg] 108)) P U (cZ S σ i) fun j=>gj S.slots (o j) (lC l j)):=Zz (by obtain ⟨U,r,u⟩:=H1.o;exact ⟨U,r.no s,u.no s⟩);have a8:=Zz (H2.o.no s);have ax:=Zz (H3.o.then s fun _ _ h=>h.elim)
   have po:Hid (g≠wr.heap.size/\m1≠wr.heap.size/\m2≠wr.heap.size):=Zz (by
    have r:=(iZ HR.o.mems (q:=g) rfl).2;obtain ⟨U,u,_⟩:=H1.o;have u:=u.lt;have h3:=H2.o.lt
    exact ⟨o_,o_,o_⟩)
   clear s HR H1 H2 H3
   go_upto_region 4 with fail
   clear h7 B C;generalize wr.alloc (.cells #[.int .i64 H,.string h9,.string lg] 108)=w5 at *;obtain ⟨D,hD⟩:∃D,wr.heap.size=D:=⟨_,rfl⟩;rw[hD] at H8 po ⊢;clear hD;have H0:=Zz (mv w5 ⟨H,h9,lg⟩ nf);have d0:=H8.o.c0;have d1:=H8.o.c1;have d2:=H8.o.c2;by_cases r:H=1
   ·subst r
    have IK:=PY.o rfl;have IL:=Zz IK.1;have P5:=Zz IK.2;clear IK;have DE:decide ((1:Nat)=1)=true:=rfl
    dsimp only at H0
    rw[DE] at H0;go_wp2_with fail;refine H0.o.mono ?_;rintro e I ⟨rfl,G⟩;have pa:=Zz (nS.o.no G);have ji:Hid (∃U,aS KI I m1 (vD U (cZ S σ i)) (cZ S σ i)/\Rows I P U (cZ S σ i) fun j=>gj S.slots (o j) (lC l j)):=Zz (by obtain ⟨U,r,u⟩:=nQ.o;exact ⟨U,r.no G,u.no G⟩);have bA:=Zz (a8.o.no G);have H4:=Zz (ax.o.then G fun _ _ h=>h.elim);have lz:=Zz (H8.o.kp G fun h=>h);have mq:=Zz (iM.o.kp H4.o gV.o);have qA:=Zz (dL DL.o H4.o A6.o);clear G d0 d1 d2 nS nQ a8 ax H8;have p2:=mq.o.c10;have gR:Hid (I.ownsRow I.heap.size 152 2 (.slice none 0 0) (lC (l.take 0) i).length (eu (lC (l.take 0) i))):=Zz (World.ownsRow_nil _ _ _ _);have IM:=Zz (Kp.refl ac I)
    go_upto_region 7 with fail
    clear p2;have P6:m<=100:=hl
    go_loopw [9,11,32] (fun s9 _ BZ wr=>∃j:Nat,j<=m/\BZ=.int .i64 j/\Hid (wr.ownsRow I.heap.size 152 2 s9 (lC (l.take j) i).length (eu (lC (l.take j) i)))/\Hid (Kp ac I wr)) (fun _ _ BZ _=>m-(intOf BZ).toNat)
    case atStart=>exact ⟨0,o_,rfl,gR,IM⟩
    case round =>
     clear gR IM;obtain ⟨j,hj,rfl,HO,N⟩:=hrel;by_cases uB:j<m
     ·have cR:j<l.length:=by rw[II.o];exact uB
      have ZA:(j:Int)<(m:Int):=o_;obtain ⟨A,c,he,_,_,_,ag⟩:=Sy (dL qA.o N.o fun _ _ h=>h);cases he;obtain ⟨pb,off,rfl,gT⟩:=ag o_;obtain ⟨q0,x0,x5⟩:=Zx.o j cR;have h7:=(gT (j*3) o_).trans q0;have B:=(gT (j*3+1) o_).trans x0;have C:=(gT (j*3+2) o_).trans x5;rw[<-Nat.add_assoc] at B C;have Ld:=nY.o i j cR;have dq:=qo.o j i;clear q0 x0 x5 ag gT;obtain ⟨⟨h2,x8,H6⟩,y5⟩:∃x,l[j]'cR=x:=⟨_,rfl⟩;rw[y5] at h7 B C Ld
      dsimp only at h7 B C Ld
      have qG:=Zz Ld;have nD:=Zz dq;clear y5 Ld dq;have Fh:=Zz (ab.new wr 154 #[.int .i64 h2,.int .i64 x8,.string H6]);have s:=(Kp.refl ac wr).alloc (.cells #[.int .i64 h2,.int .i64 x8,.string H6] 154);have jX:=Zz (dL HO.o s fun _ _ h=>h);have H5:=Zz (N.o.trans s);clear s HO N
      go_upto_region 9 with fail
      clear h7 B C;generalize wr.alloc (.cells #[.int .i64 h2,.int .i64 x8,.string H6] 154)=w7 at *;generalize wr.heap.size=E at *;have e0:=Fh.o.c0;have e1:=Fh.o.c1;have e2:=Fh.o.c2;by_cases L:h2=i
      ·obtain rfl:i=h2:=L.symm
       have Uq:Hid (eu (lC (l.take (j+1)) i)=eu (lC (l.take j) i)++[.int .i64 x8,.string H6]/\(lC (l.take (j+1)) i).length=(lC (l.take j) i).length+1):=Zz (by
        rw[qG.o,if_pos rfl]
        exact ⟨yM _ _ _,s_⟩)
       have cO:=Zz (yZ x8 H6);have jf:=H5.o.size;have ip:=Zz jX.o;have jG:=Zz (fun z (hz:u9.ownBlock=some z)=>(iZ jX.o hz).1);have dq:=nD.o;generalize lC (l.take j) i=L0 at *
       have ZC:((i:Int)==(i:Int))=true:=by rw[beq_iff_eq]
       go_wp2_with (at_builtin;refine Y3 I.heap.size rfl (.tmp 40) (.tmp 43) 202 152 (.agg #[.int .i64 0,.string ⟨#[]⟩]) 2 24 rfl underlying202 infoSC rfl d_ d_ u9 L0.length (eu L0) [.int .i64 x8,.string H6] rfl rfl rfl cO.o ip.o jf (by have:=nD.o;omega) ?_;intro v1 w9 bt bT aZ;have bq:=Zz bt;have bV:=Zz bT;clear bt bT aZ)
       rw[<-Uq.o.1,<-Uq.o.2] at bq;have aA:Kp (fun z=>some z=u9.ownBlock) w7 w9:=Kp.of_grown bV.o fun _ h=>h;have aL:=Zz (H5.o.then aA fun z hz h=>by have:=jG.o z h.symm;omega);go_roundw
       case rel=>exact ⟨j+1,o_,by go_num,bq,aL⟩
       case measure=>simp[intOf];omega
      have hdb:((h2:Int)==(i:Int))=false:=by rw[pN];omega
      have ZD:¬((h2:Int)=(i:Int)):=o_;have iH:Hid (w7.ownsRow I.heap.size 152 2 u9 (lC (l.take (j+1)) i).length (eu (lC (l.take (j+1)) i))):=Zz (by rw[qG.o,if_neg L];exact jX.o);go_wp2;go_roundw
      case rel=>exact ⟨j+1,o_,by go_num,iH,H5⟩
      case measure=>simp[intOf];omega
     obtain rfl:j=m:=o_;have fA:=HO;rw[kD.o] at fA;obtain ⟨A9,c9,ZE⟩:=lM fA.o;subst ZE;have gP:0<(lC l i).length:=IL.o
     have P7:(lC l i).length<=100:=by have:=qo.o j i;rwa [kD.o] at this
     have P8:=Zz P7;have ZF:decide ((0:Int)<((lC l i).length:Int))=true:=decide_eq_true o_;have lA:=Zz (lz.o.kp N.o fun h=>h);have fM:=Zz (mq.o.kp N.o fun h=>h);have pg:=Zz (pa.o.no N.o);have jk:Hid (∃U,aS KI wr m1 (vD U (cZ S σ i)) (cZ S σ i)/\Rows wr P U (cZ S σ i) fun j=>gj S.slots (o j) (lC l j)):=Zz (by obtain ⟨U,r,u⟩:=ji.o;exact ⟨U,r.no N.o,u.no N.o⟩);have dy:=Zz (bA.o.no N.o);have bH:=Zz (H4.o.then N.o fun _ _ h=>h.elim);clear HO N pa ji bA H4 lz mq qA;have p1:=fM.o.c9;have yP:=Zz (Tryz.slices_Contains_int_empty none 0 (i:Int) wr);generalize rn:lC l i=Li at *;have Pi:=Zz rn;clear rn;go_wp2_with fail;refine yP.o.mono ?_;rintro e y1 ⟨rfl,rfl⟩
     go_upto_region 18 with fail
     have y:Kp ac y1 y1.drew:=(Kp.refl ac y1).drew;have BT:=Zz (lA.o.kp y fun h=>h);have r8:=Zz (pg.o.no y);have ll:Hid (∃U,aS KI y1.drew m1 (vD U (cZ S σ i)) (cZ S σ i)/\Rows y1.drew P U (cZ S σ i) fun j=>gj S.slots (o j) (lC l j)):=Zz (by obtain ⟨U,r,u⟩:=jk.o;exact ⟨U,r.no y,u.no y⟩);have ew:=Zz (dy.o.no y);have Y:=Zz (bH.o.then y fun _ _ h=>h.elim);have jd:=Zz (dL fA.o y fun _ _ h=>h);clear y lA pg jk dy bH fA fM;refine fs ?_;generalize y1.drew=bY at *;have y7:=Zz (aR.o.kp Y.o lJ.o);have lj:=Zz (jJ.o.kp Y.o eS.o);have kn:=Zz (jy.o.kp Y.o IF.o);have nF:=Zz (bf.o.kp Y.o o7.o);have qC:Hid (10<=bY.heap.size):=Zz (by have:=dH.o;have r:=Y.o.size;have u:=y7.o.lt;have h3:=IJ.o;have h4:=eE.o.size;omega);have c0:=y7.o.c0;have c1:=y7.o.c1;have c2:=y7.o.c2;have k3:=lj.o.c3;have d1:=BT.o.c1;refine fp 0 ?_;refine fp 1 ?_;refine fp 2 ?_;refine fq 3 (fun W=>W.cell? ⟨st,0,none⟩=some (.pointer (some ⟨b,0,none⟩))/\W.cell? ⟨st,1,none⟩=some (.pointer (some ⟨an,0,none⟩))/\W.cell? ⟨st,2,none⟩=some (.string (bs key))) ⟨c0,c1,c2⟩ ?_;refine fp 4 ?_;refine fp 5 ?_;refine fp 6 ?_;refine fp 7 ?_;refine fp 8 ?_;refine cw 9 k3 ?_;refine fp 11 ?_;refine cw 12 d1 ?_;refine fp 13 ?_;refine fd 10 fun K y3 d=>?_;go_simp;refine (x_4 bY b an i S.slots key).mono ?_;rintro e fN ⟨rfl,cP⟩;have Z:=Zz cP;refine d _ _ (oK ((BT.o.kp (S:=ac) Z.o fun h=>h).cell 1) (oW (oW oN))) ?_;clear d K cP c0 c1 c2 k3 d1;have pm:=Zz (Oq (nF.o.no Z.o) (kn.o.no Z.o) (by have:=qC.o;have:=Z.o.size;omega) (show i<n by rw[<-dN.o];exact v) fG.o PV.o (o i) h9 (.slice A9 Li.length c9) Li (Sy (dL jd.o Z.o fun _ _ h=>h)) IL.o P8.o P5.o (fun hd=>PZ.o (by trivial) hd));refine fd 14 fun K y3 d=>?_;go_simp;refine pm.o.mono ?_;rintro e X ⟨u12,tx,er,rfl,cF,ju⟩;have H7:=Zz (Z.o.trans cF);have ng:=Zz ju;refine d _ _ (oW (oW (oW oN))) ?_;clear d K cF ju;refine fp 15 ?_;refine fp 16 ?_;refine fp 17 ?_;refine fp 18 ?_;refine fp 19 ?_;refine fp 20 ?_;refine fp 21 ?_;refine fe ?_;have y6:=Zz (Y.o.then H7.o fun _ _ h=>h.elim);have H9:=Zz (r8.o.no H7.o);have tw:Hid (∃U,aS KI X m1 (vD U (cZ S σ i)) (cZ S σ i)/\Rows X P U (cZ S σ i) fun j=>gj S.slots (o j) (lC l j)):=Zz (by obtain ⟨U,r,u⟩:=ll.o;exact ⟨U,r.no H7.o,u.no H7.o⟩);have tz:=Zz (ew.o.no H7.o);have iA:=Zz (jJ.o.kp y6.o eS.o)
     have x9:Hid (i∉cZ S σ i):=Zz fun hh=>by have:=(CX.o i i).1 hh;omega
     have ZG:Hid (P<=fN.heap.size):=Zz (by have r:=Y.o.size;have u:=Z.o.size;have h3:=iM.o.lt;omega);clear Y r8 ll ew y7 lj kn nF qC BT jd Z H7;rcases ng.o with ⟨h1,rfl⟩|⟨h1,rfl,Ur,hu⟩
     ·have P9:Hid (m2≠g/\True):=Zz ⟨fun h=>by
       obtain ⟨dj,aq⟩:=fj H9.o.mems (q:=g) rfl
       exact tz.o.ne_blk aq h,trivial⟩
      have yQ:Hid (oQ (f_ S σ i) i=f_ S σ (i+1)):=Zz (P0.o (by trivial) h1);have h8:Hid (cZ S σ (i+1)=cZ S σ i):=Zz (BY.o fun h=>by rw[h1] at h;exact Bool.noConfusion h.2);obtain ⟨U,y2,y8⟩:=tw.o;have B4:=Zz y8;have KR:=yC.o;have HF:=Zz (Sj (S:=f_ S σ i) iA.o H9.o y2 i (by rw[fw.o];exact v) o_ (by rw[KR];exact (by decide:(1:Nat)<=2)));clear y2 y8 h1 KR;have b1:((20:Int)==0)=false:=d_;have b2:((20:Int)==21)=false:=d_;go_wp2_with fail;refine HF.o.mono ?_;rintro e mp ⟨rfl,y4,cM,nB,g',qO,Le⟩
      obtain rfl:g=g':=by injection qO
      rw[yQ.o] at cM;rw[vD_del _ _ _ x9.o,Oz x9.o,<-h8.o] at nB;have x6:=Zz cM
      have wI:Hid (∃U,aS KI mp m1 (vD U (cZ S σ (i+1))) (cZ S σ (i+1))/\Rows mp P U (cZ S σ (i+1)) fun j=>gj S.slots (o j) (lC l j)):=Zz ⟨U,nB,by
       rw[h8.o];refine B4.o.kp Le fun q p cs V=>?_;rcases p with rfl|rfl
       ·obtain ⟨dj,aq⟩:=fj H9.o.mems (q:=q) rfl
        exact ab.ne_ V aq d_ rfl
       obtain ⟨U2,Qa,_⟩:=tw.o
       exact Qa.ne_blk V rfl⟩
      have tA:Hid (aS KI mp m2 (dg (fc (fun j=>e9 S.slots (dp (o j) (lC l j))) (cZ S σ (i+1)))) (cZ S σ (i+1))):=Zz (by
       rw[h8.o];refine tz.o.kp Le fun p=>?_;rcases p with rfl|rfl
       ·exact P9.o.1 rfl
       exact vL.o rfl)
      have ly:=Zz (y6.o.trans (Le.mono fun q _ p=>p.elim (fun h=>.inl h) (fun h=>.inr (.inl h))));clear y4 cM nB Le H9 tw tz iA y6;go_wp2;go_roundw
      case rel=>exact ⟨i+1,o_,by go_num,x6,wI,tA,ly⟩
      case measure=>simp[intOf];omega
     have yQ:Hid (f_ S σ (i+1)=f_ S σ i):=Zz (wG.o fun h=>by rw[h1] at h;exact Bool.noConfusion h.2);have h8:Hid (cZ S σ (i+1)=cZ S σ i++[i]):=Zz (qN.o (by trivial) h1);have uV:=Zz Ur;have y:Kp ac X X.drew:=(Kp.refl ac X).drew;have x6:Hid (bg X.drew base (f_ S σ (i+1)) vs (.slice (some ⟨g,0,none⟩) S.mem.length Q)):=Zz (by rw[yQ.o];exact H9.o.no y);have wI:Hid (∃U,aS KI X.drew m1 (vD U (cZ S σ i)) (cZ S σ i)/\Rows X.drew P U (cZ S σ i) fun j=>gj S.slots (o j) (lC l j)):=Zz (by obtain ⟨U,r,u⟩:=tw.o;exact ⟨U,r.no y,u.no y⟩);have tA:=Zz (tz.o.no y);have B5:=Zz (iA.o.kp y fun h=>h);have ly:=Zz (y6.o.then y fun _ _ h=>h.elim);have B7:=Zz (dL hu y fun _ _ h=>h);clear y hu Ur H9 tw tz iA y6 h1
     go_upto_region 22 with fail
     refine fs ?_;generalize X.drew=pM at *;obtain ⟨U,y2,y8⟩:=wI.o;have B4:=Zz y8;have kR:=mI.o i;obtain ⟨cA,x1,x2,nl,kP,R,Qb,_,bj⟩:=y2.entry sY M7 (Hu _) (by simp only[maxLen];omega) (a:=i) (show i<=100000 by omega) (by unfold vD;rw[if_neg x9.o]) u12;replace nl:(Instr.mapEntry 161 (.map (some m1)) (.int .i64 i)).run prog pM=.ok (.tuple #[.slice none 0 0,.int .i64 cA]) x1:=nl;rw[vD_put _ _ _ _ x9.o,DM.o,<-h8.o] at R;obtain ⟨cB,x3,x4,Qc,ZH,T,Qd,_,ae⟩:=(tA.o.kp bj fun e=>vL.o (Eq.symm e)).entry sY Bq (jW _) (by simp only[maxLen];omega) (a:=i) (show i<=100000 by omega) (by unfold dg fc;rw[if_neg x9.o];rfl) (.string tx);replace Qc:(Instr.mapEntry 86 (.map (some m2)) (.int .i64 i)).run prog x2=.ok (.tuple #[.string ⟨#[]⟩,.int .i64 cB]) x3:=Qc;have D_:lu (dg (fc (fun j=>e9 S.slots (dp (o j) (lC l j))) (cZ S σ i))) i (.string (e9 S.slots (dp (o i) (lC l i))))=dg (fc (fun j=>e9 S.slots (dp (o j) (lC l j))) (e8 (cZ S σ i) i)):=LI _ _ _;rw[uV.o,<-Pi.o,D_,DM.o,<-h8.o] at T;have k9:=B5.o.c9;have IP:=B5.o.c10;have dG:=Zz (R.kp ae fun e=>vL.o e);have eP:=Zz T;have H5:=Zz bj;have IQ:=Zz ae;have gO:=Zz y2;clear R T bj ae Qb Qd D_ y2 y8;refine fp 0 ?_;refine fp 1 ?_;refine fp 2 ?_;refine cw 3 k9 ?_;refine fp 4 ?_;refine fp 5 ?_;refine fp 6 ?_;refine fp 7 ?_;refine cw 8 IP ?_;refine fp 9 ?_;refine fp 10 ?_;refine fp 11 ?_;refine fd 12 fun K y3 d=>?_;go_simp;refine d _ _ (oW (oW oN)) ?_;clear d K nl;refine fp 13 ?_;refine fd 14 fun K y3 d=>?_;go_simp;refine d _ _ (oW (oW oN)) ?_;clear d K kP;refine fd 15 fun K y3 d=>?_;go_simp;refine d _ _ (oW (oW oN)) ?_;clear d K Qc;refine fp 16 ?_;refine fd 17 fun K y3 d=>?_;go_simp;refine d _ _ (oW (oW oN)) ?_;clear d K ZH;refine fe ?_;have y9:Hid (Kp (fun q=>q=m1\/q=m2) pM x4):=Zz ((H5.o.mono fun q _ h=>Or.inl h).trans (IQ.o.mono fun q _ h=>Or.inr h))
     have sr:Hid (∀q,(q=m1\/q=m2)->∀t cs,¬ab pM q t cs):=Zz fun q p t cs V=>by
      rcases p with rfl|rfl
      ·exact gO.o.ne_blk V rfl
      exact tA.o.ne_blk V rfl
     have Qe:Hid (bg x4 base (f_ S σ (i+1)) vs (.slice (some ⟨g,0,none⟩) S.mem.length Q)):=Zz (x6.o.kp y9.o (fun q p h=>by
      obtain ⟨iR,h0⟩:=fj x6.o.seats p
      exact sr.o q h _ _ h0) (fun q p h=>by
      obtain ⟨iR,h0⟩:=fj x6.o.mems p
      exact sr.o q h _ _ h0))
     have Qf:Hid (∃U,aS KI x4 m1 (vD U (cZ S σ (i+1))) (cZ S σ (i+1))/\Rows x4 P U (cZ S σ (i+1)) fun j=>gj S.slots (o j) (lC l j)):=Zz ⟨_,dG.o,by
      rw[h8.o];refine Rows.add (B4.o.kp y9.o fun q p cs=>sr.o q p _ cs) i u12 x9.o ?_;rw[Pi.o]
      exact w_P (dL B7.o y9.o fun q p h=>by
       obtain ⟨iR,h0⟩:=fj B7.o p
       exact sr.o q h _ _ h0) ZG.o⟩
     have Qg:=Zz (ly.o.trans (y9.o.mono fun q _ h=>Or.inr h));clear y9 sr x6 wI tA B5 ly B7 B4 dG H5 IQ gO k9 IP;go_wp2;go_roundw
     case rel=>exact ⟨i+1,o_,by go_num,Qe,Qf,eP,Qg⟩
     case measure=>simp[intOf];omega
   have DE:decide (H=1)=false:=h_ r
   dsimp only at H0
   rw[DE] at H0;go_wp2_with fail;refine H0.o.mono ?_;rintro e I ⟨rfl,G⟩;have pa:Hid (bg I base (f_ S σ (i+1)) vs (.slice (some ⟨g,0,none⟩) S.mem.length Q)):=Zz (by rw[wG.o fun h=>r h.1];exact nS.o.no G);have ji:Hid (∃U,aS KI I m1 (vD U (cZ S σ (i+1))) (cZ S σ (i+1))/\Rows I P U (cZ S σ (i+1)) fun j=>gj S.slots (o j) (lC l j)):=Zz (by rw[BY.o fun h=>r h.1];obtain ⟨U,r,u⟩:=nQ.o;exact ⟨U,r.no G,u.no G⟩);have bA:Hid (aS KI I m2 (dg (fc (fun j=>e9 S.slots (dp (o j) (lC l j))) (cZ S σ (i+1)))) (cZ S σ (i+1))):=Zz (by rw[BY.o fun h=>r h.1];exact a8.o.no G);have H4:=Zz (ax.o.then G fun _ _ h=>h.elim);clear G d0 d1 d2;go_wp2;go_roundw
   case rel=>exact ⟨i+1,o_,by go_num,pa,ji,bA,H4⟩
   case measure=>simp[intOf];omega
  obtain rfl:i=S.mem.length:=o_;have bw:Hid (ab wr wk 163 (Af (f_ S σ S.mem.length) vs (.slice (some ⟨g,0,none⟩) S.mem.length Q) m1 m2)):=Zz (jJ.o.kp H3.o eS.o);have B8:Hid (a7 (f_ S σ S.mem.length)):=Zz (JB gM.o σ _);have jU:=Zz (r5 bw.o HR.o B8.o);go_wp2_with fail;refine jU.o.mono ?_;rintro e y0 ⟨rfl,rfl⟩;have Ca:(f_ S σ S.mem.length).data=S.data:=rfl;rw[Ca]
  have dE:Hid (ab y0 wk 163 (Af (f_ S σ n) vs (.slice (some ⟨g,0,none⟩) S.mem.length Q) m1 m2)/\bg y0 base (f_ S σ n) vs (.slice (some ⟨g,0,none⟩) S.mem.length Q) /\
  (∃U,aS KI y0 m1 (vD U (cZ S σ n)) (cZ S σ n)/\Rows y0 P U (cZ S σ n) fun j=>gj S.slots (o j) (lC l j))/\aS KI y0 m2 (dg (fc (fun j=>e9 S.slots (dp (o j) (lC l j))) (cZ S σ n))) (cZ S σ n)/\∃q,(Value.slice (some ⟨g,0,none⟩) S.mem.length Q).ownBlock=some q/\Kp (S3 q m1 m2) w y0):=Zz (by
   rw[<-dN.o]
   exact ⟨bw.o,HR.o,H1.o,H2.o,g,rfl,(eE.o.mono fun _ _ h=>h.elim).trans H3.o⟩)
  by_cases x7:pG (f_ S σ S.mem.length) (S.data+2)<=2
  ·rw[decide_eq_true x7]
   have GW:=Zz x7;clear x7 jU bw HR H1 H2 H3;go_wp2;go_ret;exact ⟨by rw[<-Uo.o,<-dN.o,if_pos GW.o];rfl,by rw[IJ.o];exact dE.o⟩
  rw[h_ x7];have GW:=Zz x7;clear x7 jU bw HR H1 H2 H3;go_wp2;go_ret;exact ⟨by rw[<-Uo.o,<-dN.o,if_neg GW.o];rfl,by rw[IJ.o];exact dE.o⟩
end
end Go.Proofs.YtdkheklakfbeeaaGreatDoor
