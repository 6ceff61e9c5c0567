/- Part 41 of the proof. -/
import Derived.Test.YtdkheklakfbeeaaGreatDoorM40
set_option linter.all false
set_option maxRecDepth 100000
set_option maxHeartbeats 16000000
namespace Go.Proofs.YtdkheklakfbeeaaGreatDoor
open Go.RowKit Go.Proofs.Tryz
theorem under9:prog.underlying 9=some .string:=by kernel_rfl
noncomputable def KS:KM prog 9 ByteArray where
 kk s:=.string s.data.toList
 kv s:=.string s
 ok s:=s.size<=maxLen
 key s h:=WideMaps.keyOf_string_mk under9 h
 inj a b _ _ h:=by
  injection h with h
  have h2:a.data.toList=b.data.toList:=h;exact ByteArray.ext (Array.toList_inj.1 h2)
def z_B:List UInt8:=[48,49,50,51,52,53,54,55,56,57,97,98,99,100,101,102,48,49,50,51,52,53,54,55,56,57,97,98,99,100,101,102]
def wdC (p:Nat) (vn vl vm:Value) (gt:Nat) (pl:Bool):Array Value:=#[.pointer (some ⟨p,0,none⟩),vn,vl,vm,.map (some gt),.bool pl]
def bgS (d s n:Nat):Sup:=z_S (y_g d s n)
def bgD (d s n:Nat):Nat->DkS:=z_R (z_2 (z_R (z_V d s n) 1 (bs (z_t (y_g d s n))) n) (y_g d s n) (fun _=>none) n) (((y_g d s n).count+1) % 2) (bs (z_t (z_S (y_g d s n)))) n
theorem bg_ok {d s n:Nat} (key:List UInt8) (h2:2<=d) (h4:d<=4) (hs:sl s) (hn:d+2<=n) (kM:n<=12) :
  VOk n key (bgS d s n) (bgD d s n) (fun _=>ch0) (fun _=>bs z_M)/\LOk (bgS d s n) (bgD d s n) (fun _=>none)/\(∀i,(bgD d s n i).dead=false)/\(∀i,i<d+2->bad (bgS d s n) (bgD d s n) i=false):=by
 obtain ⟨h1,h3,h5,h6⟩:=VOk.format (s:=s) (n:=n) key h2 h4 hs hn kM;obtain ⟨z1,z2,z3⟩:=h1.opened h3 (show 1<1000 by decide) (show 1<1000 by decide);have z4:=LOk.opened h1 h3 (show 1<1000 by decide) (show 1<1000 by decide)
 have hd:∀i,(bgD d s n i).dead=false:=fun i=>by unfold bgD;rw[w_l,w_3];exact h5 i
 refine ⟨z1,z4,hd,fun i hi=>?_⟩;refine bad_no.2 ⟨?_,hd i⟩;unfold bgS;rw[opnS_stA,sup0_stA,if_pos ⟨by omega,hi⟩]
section
variable {w:World}
theorem begin_any (hL:Lay w) (hw:10<=w.heap.size) (d s sp:Nat) (h2:2<=d) (h4:d<=4) (hs:sl s) (hsp:sp<=4) :
  Cl 5 #[.int .i64 d,.int .i64 s,.int .i64 sp] w fun e w'=>∃z p b v gt vn vl Ft,e=.returned (.tuple #[.pointer (some ⟨z,0,none⟩),.bool true])/\Blk w' z 43 (wdC p vn vl (.slice none 0 0) gt true) /\
   (Own w' w.heap.size 9 vn (sv (List.replicate (s*d) (bs z_M)))/\Own w' w.heap.size 9 vl (sv (List.replicate (s*d) (bs z_M))))/\MapA KS w' gt (fun _=>none) []/\Mc w' p b v (d+2+sp) 0 z_B (bgS d s (d+2+sp)) (bgD d s (d+2+sp)) (fun _=>none) [] [] (.slice none 0 0) Ft /\
   (∀q,Ft q->w.heap.size<=q)/\(∀q,vn.ownBlock=some q->¬Ft q/\vl.ownBlock≠some q)/\(∀q,vl.ownBlock=some q->¬Ft q)/\(¬Ft z/\¬Ft gt/\w.heap.size<=z/\w.heap.size<=gt)/\Kp NoB w w':=by
 obtain ⟨n,hn⟩:∃n,d+2+sp=n:=⟨_,rfl⟩;obtain ⟨m,hm⟩:∃m,s*d=m:=⟨_,rfl⟩
 have jw:s<=4:=by rcases hs with h|h<;>omega
 have DR:m<=16:=by rw[<-hm];exact Nat.mul_le_mul jw h4
 rw[hn,hm];obtain ⟨f1,f2,f3,f4⟩:=VOk.format (s:=s) (n:=n) z_B h2 h4 hs (by omega) (by omega);have eu:=Zz (mu_new w n z_B hw (by omega));have tM:=Zz (fun W (l:Lay W) (bE:10<=W.heap.size) p b v Ft h=>mu_mount (w:=W) (p:=p) (b:=b) (v:=v) (D:=[]) (kept:=.slice none 0 0) (Ft:=Ft) l bE (key:=z_B) rfl f1 f2 (show 0<1 by decide) (show 1<1000 by decide) (show 1<1000 by decide) h ⟨0,by omega,f3 0⟩ (fun _ i hi _=>⟨[],f4 i hi,by decide,.inl rfl⟩));have T4:=Zz (fun W (l:Lay W) (bE:10<=W.heap.size) p b v Ft h=>mu_format (w:=W) (p:=p) (b:=b) (v:=v) (D:=[]) (kept:=.slice none 0 0) (Ft:=Ft) l bE (key:=z_B) rfl h d s h2 h4 hs (by omega:d+2<=n));have iX:Hid (SupOk (bgS d s n)):=Zz (bg_ok z_B h2 h4 hs (show d+2<=n by omega) (by omega)).1.ok;have aR:=Zz (fun W (l:Lay W) (bE:10<=W.heap.size) p b v Ft h=>mc_status (w:=W) (p:=p) (b:=b) (v:=v) (n:=n) (q:=0) (key:=z_B) (S:=bgS d s n) (σ:=bgD d s n) (f:=fun _=>none) (dom:=[]) (D:=[]) (kept:=.slice none 0 0) (Ft:=Ft) l bE iX.o h);change Hid (∀W,_->_->∀p b v Ft,_->Calls _ _ _ W fun e w'=>e=.returned (.int .i64 0)/\∃Ft',Gr W Ft Ft'/\Mc w' p b v n 0 z_B (bgS d s n) (bgD d s n) (fun _=>none) [] [] (.slice none 0 0) Ft'/\Kp Ft W w') at tM;change Hid (∀W,_->_->∀p b v Ft,_->Calls _ _ _ W fun e w'=>∃(A:Option Addr) (k c:Nat),e=.returned (.agg #[.bool true,.bool false,.int .i64 (s*d:Nat),.int .i64 0,.int .i64 d,.int .i64 0,.int .i64 0,.bool false,.slice A k c])/\Kp NoB W w') at aR;rw[hm] at aR;have HL:=Zz hL;have lB:=@run_makeMap prog
 have aN:IntKind.i64.wrap ((d:Int)+2)=((d+2:Nat):Int):=by rw[q_r];omega
 have fi:IntKind.i64.wrap (((d+2:Nat):Int)+(sp:Int))=(n:Int):=by rw[q_r];omega
 have uP:IntKind.i64.wrap ((d:Int)*(s:Int))=(m:Int):=by
  rw[show (d:Int)*(s:Int)=(m:Int) by rw[<-hm,Int.natCast_mul,Int.mul_comm],q_r];omega
 have Cn:(d:Int)+2+(sp:Int)=(n:Int):=by omega
 have dN:(⟨#[48,49,50,51,52,53,54,55,56,57,97,98,99,100,101,102,48,49,50,51,52,53,54,55,56,57,97,98,99,100,101,102]⟩:ByteArray)=bs z_B:=rfl;have Yp:(⟨#[0,0,0,0,0,0,0,0,0,0,0,0,0,0,0,0,0,0,0,0,0,0,0,0,0,0,0,0,0,0,0,0]⟩:ByteArray)=bs z_M:=rfl;clear hL f1 f2 f3 f4 hs;go_enter func5,ntmps5;go_wp2_with fail;refine eu.o.mono ?_;rintro e w2 ⟨p,b,v,Ft,rfl,IG,T5,ag⟩;have au:=(Kp.refl NoB w2).alloc (.map #[] 0);have aw:=au.alloc (.cells (wdC p (.slice none 0 0) (.slice none 0 0) (.slice none 0 0) w2.heap.size true) 43);have HZ:=Zz (Blk.new (w2.alloc (.map #[] 0)) 43 (wdC p (.slice none 0 0) (.slice none 0 0) (.slice none 0 0) w2.heap.size true)).drew;have HT:=Zz (((MapA.made (M:=KS) w2).alloc (.cells (wdC p (.slice none 0 0) (.slice none 0 0) (.slice none 0 0) w2.heap.size true) 43)).no (Kp.refl NoB _).drew);have PN:=Zz (IG.no aw.drew);have ax:=Zz (ag.trans aw.drew);have lr:=Zz (HL.o.no ax.o);have Cd:=Zz (fun q hq=>And.intro (T5 q hq) (IG.lt hq).2);have NN:w.heap.size<=w2.heap.size:=ag.size
 have fY:10<=((w2.alloc (.map #[] 0)).alloc (.cells (wdC p (.slice none 0 0) (.slice none 0 0) (.slice none 0 0) w2.heap.size true) 43)).drew.heap.size:=by have:=ax.o.size;omega
 rw[World.size_alloc] at HZ;clear IG T5 ag au aw eu
 go_upto_region 2 with fail
 change Code.wp _ _ _ _ ((w2.alloc (.map #[] 0)).alloc (.cells (wdC p (.slice none 0 0) (.slice none 0 0) (.slice none 0 0) w2.heap.size true) 43));generalize (w2.alloc (.map #[] 0)).alloc (.cells (wdC p (.slice none 0 0) (.slice none 0 0) (.slice none 0 0) w2.heap.size true) 43)=w4 at *;obtain ⟨g,hg⟩:∃g,w2.heap.size=g:=⟨_,rfl⟩;rw[hg] at HZ HT NN Cd ⊢;clear hg;refine fs ?_;generalize w4.drew=w5 at *;have c0:=HZ.o.c0;refine fp 0 ?_;refine fp 1 ?_;refine fp 2 ?_;refine f_c 3 c0 ?_;refine fp 5 ?_;refine fp 6 ?_;refine fp 8 ?_;refine fp 9 ?_;refine fp 10 ?_;refine f_c 11 c0 ?_;refine fd 4 fun K Qx hK=>?_;go_simp;refine (mu_volume PN.o).mono ?_;rintro e w6 ⟨rfl,bF⟩;have bF:=bF.symm;subst bF;refine hK _ _ (oK c0 (oK c0 oN)) ?_;clear hK K;refine fd 7 fun K Qx hK=>?_;go_simp;refine (T4.o _ lr.o fY p b v Ft PN.o).mono ?_;rintro e w7 ⟨rfl,T6,bu,gV,aX⟩;have wR:=Zz (HZ.o.kp aX fun hf=>by have:=(Cd.o _ hf).2;omega);have rV:=Zz (HT.o.kp aX fun hf=>by have:=(Cd.o _ hf).2;omega);have aW:Hid (Kp NoB w w7):=Zz (ax.o.then aX fun q hq hf=>(by have:=(Cd.o _ hf).1;omega:False))
 have sd:Hid (∀q,T6 q->w.heap.size<=q/\q≠g/\q≠g+1):=Zz fun q hq=>by
  by_cases af:q<w5.heap.size
  ·have:=Cd.o q (bu q af hq)
   omega
  ·have:=HZ.o.lt
   have:=ax.o.size;omega
 have dj:=Zz gV;have fX:=Zz (HL.o.no aW.o)
 have T7:10<=w7.heap.size:=by have:=aW.o.size;omega
 refine hK _ _ (oK (wR.o.cell 0) (oK (wR.o.cell 0) oN)) ?_;clear hK K bu gV aX c0 HZ HT PN ax lr Cd fY;have c0:=wR.o.c0;refine fd 12 fun K Qx hK=>?_;go_simp;refine (mu_volume dj.o).mono ?_;rintro e w6 ⟨rfl,bF⟩;have bF:=bF.symm;subst bF;refine hK _ _ (oK c0 (oK c0 oN)) ?_;clear hK K;refine fd 13 fun K Qx hK=>?_;go_simp;refine (tM.o _ fX.o T7 p b v T6 dj.o).mono ?_;rintro e w8 ⟨rfl,xe,bJ,lu,ag⟩;have sn:=Zz (wR.o.kp ag fun hf=>by have:=sd.o _ hf;omega);have vS:=Zz (rV.o.kp ag fun hf=>by have:=sd.o _ hf;omega);have al:Hid (Kp NoB w w8):=Zz (aW.o.then ag fun q hq hf=>(by have:=sd.o _ hf;omega:False))
 have jM:Hid (∀q,xe q->w.heap.size<=q/\q≠g/\q≠g+1):=Zz fun q hq=>by
  by_cases af:q<w7.heap.size
  ·exact sd.o q (bJ q af hq)
  ·have:=wR.o.lt
   have:=aW.o.size;omega
 have dV:=Zz lu;have lv:=Zz (HL.o.no al.o)
 have hw8:10<=w8.heap.size:=by have:=al.o.size;omega
 refine hK _ _ (oK (sn.o.cell 0) (oK (sn.o.cell 0) oN)) ?_;clear hK K bJ lu ag c0 wR rV dj aW fX sd T7;refine fp 14 ?_;refine fp 15 ?_;refine fe ?_;have c0:=sn.o.c0;go_wp2_with fail;refine (y_Z dV.o).mono ?_;rintro e w9 ⟨rfl,bF⟩;have bF:=bF.symm;subst bF;go_wp2_with fail;refine (aR.o _ lv.o hw8 p b v xe dV.o).mono ?_;rintro e w9 ⟨As,ks,cs,rfl,bL⟩;have HZ9:=Zz (sn.o.kp bL fun h=>h);have pu:=Zz (vS.o.no bL);have aT:=Zz (al.o.trans bL);have gF:=Zz (dV.o.no bL);have mc:Hid (∀q,xe q->q<w9.heap.size):=Zz fun q hq=>(gF.o.lt hq).2;have kL:Hid (Own w9 w9.heap.size 9 (.slice none 0 0) (sv (List.replicate 0 (bs z_M)))):=Zz (Own.nil_ w9 w9.heap.size 9);have bZ:Hid (Kp (fun q=>q=g+1) w9 w9):=Zz (Kp.refl _ _);have D1:=fun W=>field_blocks W (m:Int) 0 (d:Int) As ks cs;clear bL c0 sn vS al dV lv aR tM T4
 go_upto_region 5 with fail
 go_loopw [42] (fun s42 wr=>∃(i:Nat) (u:Value),i<=m/\s42=.int .i64 i/\Hid (Blk wr (g+1) 43 (wdC p u (.slice none 0 0) (.slice none 0 0) g true))/\Hid (Own wr w9.heap.size 9 u (sv (List.replicate i (bs z_M))))/\Hid (Kp (fun q=>q=g+1) w9 wr)) (fun s42 _=>m-(intOf s42).toNat)
 case atStart=>exact ⟨0,_,by omega,rfl,HZ9,kL,bZ⟩
 case round =>
  clear kL bZ;obtain ⟨i,u,hi,rfl,HZ,HO,HK⟩:=hrel;by_cases af:i<m
  ·have bV:(i:Int)<(m:Int):=by omega
   have c1:=HZ.o.c1;have aP:w9.heap.size<=wr.heap.size:=HK.o.size;have q9:Hid (sv (List.replicate i (bs z_M))++[.string (bs z_M)]=sv (List.replicate (i+1) (bs z_M))):=Zz (by rw[List.replicate_succ',w_0];rfl)
   have iR:(sv (List.replicate i (bs z_M))).length=i:=by rw[z_c,q_w]
   generalize hZZ:bs z_M=ZB at *;have l8:=HO.o;generalize AL:sv (List.replicate i ZB)=SL at *;clear AL hZZ
   go_upto_region 7 with (at_builtin;refine x_d (w0:=wr) w9.heap.size rfl (.tmp 48) (.tmp 49) 38 9 (.string ⟨#[]⟩) 16 rfl underlying38 x_4 rfl (by decide) u SL (.string ZB) rfl rfl rfl l8 ((Below.refl _ _).mono aP) aP (by omega) ?_;intro v1 bO hO hB hg br;obtain ⟨A7,c7,rfl⟩:∃A c,v1=.slice A (i+1) c:=(by obtain ⟨A,c,e⟩:=hO.shape;exact ⟨A,c,by rw[e,q_b,q_x,iR]⟩);have p7:bO.cell? ⟨g+1,1,none⟩=some u:=(HZ.o.grown hg (fun e=>z_7 l8 HZ.o (by decide) e)).cell 1;have f7:=(HZ.o.grown hg (fun e=>z_7 l8 HZ.o (by decide) e)).frozen 1;have fC:=Zz hO;have fF:=Zz hg;clear hO hg br hB)
   have aC:Kp (fun q=>some q=u.ownBlock) wr bO:=Kp.of_grown fF.o fun _ h=>h;have fW:=HZ.o.kp aC (z_7 l8 HZ.o (by decide));have dS:=(Kp.refl (fun q=>q=g+1) bO).setCell ⟨g+1,1,none⟩ (.slice A7 (i+1) c7) (.inl rfl);have tJ:=Zz (fW.set_ 1 (.slice A7 (i+1) c7));have rF:=fC.o.kp dS (z_W fC.o fW (by decide));rw[q9.o] at rF;have jD:=Zz rF;have eY:=Zz ((HK.o.then aC fun q hq h=>by have:=(l8.lt q h.symm).1;omega).trans dS);clear aC fW dS rF c1 p7 f7 fC fF HO HK HZ l8 iR q9;generalize bO.setCell ⟨g+1,1,none⟩ (.slice A7 (i+1) c7)=fa at *;go_wp2;go_roundw
   case rel=>exact ⟨i+1,_,by omega,by go_num,tJ,jD,eY⟩
   case measure=>simp[intOf];omega
  ·obtain rfl:i=m:=by omega
   have c1:=HZ.o.c1;have aP:w9.heap.size<=wr.heap.size:=HK.o.size;obtain ⟨Au,cu,rfl⟩:=z_r HO.o;have uH:Hid (Own wr wr.heap.size 9 (.slice none 0 0) ([]:List Value)):=Zz (Own.nil_ wr wr.heap.size 9)
   have iR:(sv (List.replicate i (bs z_M))).length=i:=by rw[z_c,q_w]
   have bH:=HO.o.reads;have bP:=sv_one2 (List.replicate i (bs z_M));rw[iR] at HO bH c1 HZ;generalize AL:sv (List.replicate i (bs z_M))=SL at *;have fx:=Zz AL;clear AL
   go_upto_region 9 with (at_builtin;refine y_t (w0:=wr) wr.heap.size rfl (.const (.slice none 0 0)) (.tmp 58) 38 9 (.string ⟨#[]⟩) 16 rfl underlying38 x_4 rfl (by decide) _ _ _ SL rfl rfl bH bP uH.o (Below.refl _ _) (q_e _) (by rw[iR];simp;omega) ?_;intro v1 bO hO hB hg br;obtain ⟨A7,c7,rfl⟩:∃A c,v1=.slice A i c:=(by obtain ⟨A,c,e⟩:=hO.shape;exact ⟨A,c,by rw[e,List.nil_append,iR]⟩);have p7:bO.cell? ⟨g+1,2,none⟩=some (.slice none 0 0):=(HZ.o.grown hg (fun e=>by cases e)).cell 2;have f7:=(HZ.o.grown hg (fun e=>by cases e)).frozen 2;have fC:=Zz hO;have fF:=Zz hg;clear hO hg br hB)
   have aC:Kp NoB wr bO:=Kp.of_grown fF.o fun _ h=>by cases h
   have fW:=HZ.o.kp aC fun h=>h;have dS:=(Kp.refl (fun q=>q=g+1) bO).setCell ⟨g+1,2,none⟩ (.slice A7 i c7) (.inl rfl);have tJ:=Zz (fW.set_ 2 (.slice A7 i c7));have rF:=fC.o.kp dS (z_W fC.o fW (by decide));have sK:=(HO.o.kp aC fun _ _ h=>h).kp dS (z_W (HO.o.kp aC fun _ _ h=>h) fW (by decide));rw[List.nil_append] at rF;have jD:=Zz rF;have pa:=Zz sK;have xf:Kp (fun q=>q=g+1) w9 (bO.setCell ⟨g+1,2,none⟩ (.slice A7 i c7)):=(HK.o.trans (aC.mono fun _ _ h=>h.elim)).trans dS;have wJ:=Zz (gF.o.kp xf fun q e hf=>by have e:q=g+1:=e;have:=jM.o q hf;omega);have HTS:=Zz (pu.o.kp xf fun e=>by have e:g=g+1:=e;omega);have cR:Hid (w.heap.size<=g):=Zz (by omega);have eY:Hid (Kp NoB w (bO.setCell ⟨g+1,2,none⟩ (.slice A7 i c7))):=Zz (aT.o.then xf fun q hq e=>(by have e:q=g+1:=e;have:=cR.o;omega:False));have ll:Hid (w.heap.size<=w9.heap.size/\w9.heap.size<=wr.heap.size):=Zz ⟨aT.o.size,aP⟩;have pJ:=Zz (fun q (hq:(Value.slice Au i cu).ownBlock=some q)=>HO.o.lt q hq);have hiw:IntKind.i64.wrap ((d:Int)*(s:Int))=(i:Int):=uP;clear aC fW dS rF sK xf c1 p7 f7 fF HO HK HZ bH bP uH gF pu aT;generalize bO.setCell ⟨g+1,2,none⟩ (.slice A7 i c7)=fa at *;go_wp2;go_ret2;refine ⟨g+1,p,b,v,g,_,_,xe,rfl,tJ.o,⟨by rw[fx.o];exact pa.o.more ll.o.1,by rw[fx.o];exact jD.o.more (by have:=ll.o;omega)⟩,HTS.o,wJ.o,fun q hq=>(jM.o q hq).1,fun q hq=>⟨fun hf=>by have:=mc.o q hf;have:=(pJ.o q hq).1;omega,fun e=>by have:=(jD.o.lt q e).1;have:=(pJ.o q hq).2;omega⟩,fun q hq hf=>by have:=mc.o q hf;have:=(jD.o.lt q hq).1;have:=ll.o;omega,⟨fun hf=>by have:=jM.o _ hf;omega,fun hf=>by have:=jM.o _ hf;omega,by have:=cR.o;omega,cR.o⟩,eY.o⟩
end
def plN (a:Int) (m:Nat):Nat:=a.toNat % m
section
variable {w:World} {z p b v n q gt:Nat} {key:List UInt8} {S:Sup} {σ:Nat->DkS} {f:Nat->Option ByteArray} {dom D:List Nat} {kept vn vl vm:Value} {pl:Bool} {Ft:Nat->Prop} {now:List ByteArray}
theorem wwrite_any (hL:Lay w) (hS:SupOk S) (hz:Blk w z 43 (wdC p vn vl vm gt pl)) (hn:Own w 0 9 vn (sv now)) (ky:now.length=S.slots*S.data) (h:Mc w p b v n q key S σ f dom D kept Ft) (sB:¬Ft z) (Hw:∀q,vn.ownBlock=some q->¬Ft q) (hd:dom.length<1000) (dd a c t kp:Int) (dt:UInt8) (cell:ByteArray) :
  Cl 7 #[.pointer (some ⟨z,0,none⟩),.agg (x_g dd a c t dt cell kp)] w fun e w'=>e=.returned (.tuple #[])/\Blk w' z 43 (wdC p vn vl vm gt pl)/\Own w' 0 9 vn (sv (now.set (plN a (S.slots*S.data)) (x_Q dt c))) /\
   Mc w' p b v n q key S σ (y_9 f (plN a (S.slots*S.data)) (x_Q dt c)) (z_J dom (plN a (S.slots*S.data))) D kept Ft/\Kp (fun q=>Ft q\/vn.ownBlock=some q) w w':=by
 have jy:0<S.slots*S.data:=by
  have h1:=hS.d2
  have h2:2<=S.slots:=by rcases hS.sl with h|h<;>omega
  exact Nat.mul_pos (by omega) (by omega)
 have gV:S.slots*S.data<=1000:=by
  have h1:=hS.d8
  have h2:S.slots<=4:=by rcases hS.sl with h|h<;>omega
  exact q_g (Nat.mul_le_mul h2 h1) (by decide)
 have Ay:plN a (S.slots*S.data)<S.slots*S.data:=q_z _ jy
 have hmx:max (0:Int) a=((a.toNat:Nat):Int):=by omega
 have gD:=Zz (fun W (k:Kp NoB w W)=>mc_write (hL.no k) (h.no k) hS hd (plN a (S.slots*S.data)) Ay (x_Q dt c) (blkB_size dt c));have qK:((a.toNat:Nat):Int).tmod ((S.slots*S.data:Nat):Int)=((plN a (S.slots*S.data):Nat):Int):=rfl;have dE:=Zz (fun W=>block_any W dd a c t kp dt cell);have aE:=(Kp.refl NoB w).alloc (.cells (x_g dd a c t dt cell kp) 31);have HA:=Zz (Blk.new w 31 (x_g dd a c t dt cell kp));have HZ:=Zz (hz.kp aE fun h=>h);have HN:=Zz (hn.kp aE fun _ _ h=>h);have HM:=Zz (h.no aE);have HK:=Zz aE;have fG:Hid (∀q,Ft q->q<w.heap.size):=Zz fun q hq=>(h.lt hq).2;have PO:=Zz sB;have sU:=Zz Hw;have T8:Hid (x_g dd a c t dt cell kp=#[.int .i64 dd,.int .i64 a,.int .i64 c,.int .i64 t,.int .u8 dt.toNat,.string cell,.int .u64 kp]):=Zz rfl;obtain ⟨gn,cn,rfl,Hx,Hy,vy⟩:=HN.o.form (by rw[z_c,ky];exact jy);rw[z_c,ky] at HN HZ ⊢;have rO:=Zz ky;obtain ⟨m,hm⟩:∃m,S.slots*S.data=m:=⟨_,rfl⟩;rw[hm] at jy gV Ay qK gD HN HZ rO ⊢;obtain ⟨k,hk⟩:∃k,plN a m=k:=⟨_,rfl⟩;rw[hk] at Ay qK gD ⊢
 have Ci:¬((m:Int)=0):=by omega
 have hmzb:((m:Int)==0)=false:=by rw[q_o];exact Ci
 have hkmI:(k:Int)<(m:Int):=by omega
 clear hL hz hn h sB Hw aE hm hk hd ky;obtain ⟨x,hx⟩:∃x:Nat,a.toNat=x:=⟨_,rfl⟩;rw[hx] at hmx qK;clear hx;generalize x_Q dt c=R at *;change Cl 7 #[.pointer (some ⟨z,0,none⟩),.agg #[.int .i64 dd,.int .i64 a,.int .i64 c,.int .i64 t,.int .u8 dt.toNat,.string cell,.int .u64 kp]] w _;go_enter func7,ntmps7
 go_upto_region 1 with fail
 change Code.wp _ _ _ _ (w.alloc (.cells (x_g dd a c t dt cell kp) 31));generalize w.alloc (.cells (x_g dd a c t dt cell kp) 31)=w1 at *;obtain ⟨G,hG⟩:∃G,w.heap.size=G:=⟨_,rfl⟩;rw[hG] at HA fG ⊢;have cR:=Zz hG;clear hG;have z1:=HZ.o.c1;have a1:=HA.o.c1
 go_upto_region 3 with fail
 clear z1 a1;have gk:=Zz HA.o.drew;have wY:=Zz HZ.o.drew;have Hz:Hid (Own w1.drew 0 9 (.slice (some ⟨gn,0,none⟩) m cn) (sv now)):=HN;have jg:=Zz (HM.o.no (Kp.refl NoB w1).drew);have fZ:=Zz HK.o.drew;clear HA HZ HN HM HK;refine fs ?_;generalize w1.drew=w2 at *;have z0:=wY.o.c0;have a0:=gk.o.c0;have a1:=gk.o.c1;have a2:=gk.o.c2;have a3:=gk.o.c3;have a4:=gk.o.c4;have a5:=gk.o.c5;have a6:=gk.o.c6;refine fp 0 ?_;refine fp 1 ?_;refine fp 2 ?_;refine f_c 3 z0 ?_;refine fp 5 ?_;refine fq 6 (fun W=>W.cell? ⟨G,0,none⟩=some (.int .i64 dd)/\W.cell? ⟨G,1,none⟩=some (.int .i64 a)/\W.cell? ⟨G,2,none⟩=some (.int .i64 c)/\W.cell? ⟨G,3,none⟩=some (.int .i64 t)/\W.cell? ⟨G,4,none⟩=some (.int .u8 dt.toNat)/\W.cell? ⟨G,5,none⟩=some (.string cell)/\W.cell? ⟨G,6,none⟩=some (.int .u64 kp)) ⟨a0,a1,a2,a3,a4,a5,a6⟩ ?_;refine fd 4 fun K Qx hK=>?_;go_simp;refine (y_Z jg.o).mono ?_;rintro e w3 ⟨rfl,bF⟩;have bF:=bF.symm;subst bF;refine hK _ _ (oK ⟨a0,a1,a2,a3,a4,a5,a6⟩ (oK z0 oN)) ?_;clear hK K;refine fd 7 fun K Qx hK=>?_;go_simp;have cE:=dE.o w2;rw[T8.o] at cE;refine cE.mono ?_;rintro e w3 ⟨rfl,au⟩;have my:=Zz (gk.o.kp au fun h=>h);have ot:=Zz (wY.o.kp au fun h=>h);have o8:=Zz (Hz.o.kp au fun _ _ h=>h);have ar:=Zz (fZ.o.trans au);refine hK _ _ (oK ⟨my.o.cell 0,my.o.cell 1,my.o.cell 2,my.o.cell 3,my.o.cell 4,my.o.cell 5,my.o.cell 6⟩ (oK (ot.o.cell 0) oN)) ?_;clear hK K cE au z0 a0 a1 a2 a3 a4 a5 a6 gk wY Hz jg fZ;refine fd 8 fun K Qx hK=>?_;go_simp;refine (gD.o w3 ar.o).mono ?_;rintro e w4 ⟨rfl,T9,aw⟩;have uI:=Zz (my.o.kp aw fun hf=>by have:=fG.o _ hf;omega);have BJ:=Zz (ot.o.kp aw PO.o)
 have Ua:=Zz (o8.o.kp aw fun q hq=>sU.o q hq);have rx:=Zz T9;have az:Hid (Kp Ft w w4):=Zz ((ar.o.mono fun _ _ h=>h.elim).trans aw);refine hK _ _ (oK ⟨uI.o.cell 0,uI.o.cell 1,uI.o.cell 2,uI.o.cell 3,uI.o.cell 4,uI.o.cell 5,uI.o.cell 6⟩ (oK (BJ.o.cell 0) oN)) ?_;clear hK K T9 aw my ot o8 ar gD;refine fp 9 ?_;refine fe ?_;have gk:=Zz uI.o.drew;have wY:=Zz BJ.o.drew;have Hz:Hid (Own w4.drew 0 9 (.slice (some ⟨gn,0,none⟩) m cn) (sv now)):=Ua;have jg:=Zz (rx.o.no (Kp.refl NoB w4).drew);have fZ:=Zz az.o.drew;clear uI BJ Ua rx az
 go_upto_region 4 with fail
 refine fs ?_;generalize w4.drew=w5 at *;have z1:=wY.o.c1;have a0:=gk.o.c0;have a1:=gk.o.c1;have a2:=gk.o.c2;have a3:=gk.o.c3;have a4:=gk.o.c4;have a5:=gk.o.c5;have a6:=gk.o.c6;refine fp 0 ?_;refine fp 1 ?_;refine fp 2 ?_;refine f_c 3 z1 ?_;refine fp 4 ?_;refine fq 5 (fun W=>W.cell? ⟨G,0,none⟩=some (.int .i64 dd)/\W.cell? ⟨G,1,none⟩=some (.int .i64 a)/\W.cell? ⟨G,2,none⟩=some (.int .i64 c)/\W.cell? ⟨G,3,none⟩=some (.int .i64 t)/\W.cell? ⟨G,4,none⟩=some (.int .u8 dt.toNat)/\W.cell? ⟨G,5,none⟩=some (.string cell)/\W.cell? ⟨G,6,none⟩=some (.int .u64 kp)) ⟨a0,a1,a2,a3,a4,a5,a6⟩ ?_;refine fd 6 fun K Qx hK=>?_;go_simp;have cE:=dE.o w5;rw[T8.o] at cE;refine cE.mono ?_;rintro e w6 ⟨rfl,ap⟩;have tH:=Zz (wY.o.kp ap fun h=>h);have nr:=Zz (Hz.o.kp ap fun _ _ h=>h);have Ar:=Zz (jg.o.no ap);have aB:Hid (Kp Ft w w6):=Zz (fZ.o.trans (ap.mono fun _ _ h=>h.elim));refine hK _ _ (oW (oK (tH.o.cell 1) oN)) ?_;clear hK K cE ap z1 a0 a1 a2 a3 a4 a5 a6 gk wY Hz jg fZ;have co:=y_h nr.o rO.o k Ay;have sE:=nr.o.frozen k;refine fp 7 ?_;refine fd 8 fun K Qx hK=>?_;go_simp;refine hK _ _ (oW (oW oN)) ?_;clear hK K;refine fe ?_;have dS:=(Kp.refl (fun q=>q=gn) w6).setCell ⟨gn,k,none⟩ (.string R) (.inl rfl);have kn:=Zz (v_A nr.o rO.o k R)
 have tJ:=Zz (tH.o.kp dS fun e=>by
  obtain ⟨dq,am⟩:=x_N nr.o (q:=gn) rfl
  exact Blk.ne_ tH.o am (by decide) e)
 have wJ:=Zz (Ar.o.kp dS fun q e hf=>sU.o gn rfl (by have e:q=gn:=e;rw[<-e];exact hf));have eY:Hid (Kp (fun q=>Ft q\/(Value.slice (some ⟨gn,0,none⟩) m cn).ownBlock=some q) w (w6.setCell ⟨gn,k,none⟩ (.string R))):=Zz ((aB.o.mono fun _ _ h=>.inl h).then dS fun q _ e=>.inr (by have e:q=gn:=e;rw[e];rfl));clear dS co sE tH nr Ar aB;generalize w6.setCell ⟨gn,k,none⟩ (.string R)=w7 at *;go_wp2;refine bodyPost_end (results_none rfl _ _ _) rfl ?_;exact ⟨rfl,tJ.o,kn.o,wJ.o,eY.o⟩
theorem wsync_any {R:World->(Nat->Prop)->Prop} (hz:Blk w z 43 (wdC p vn vl vm gt pl)) (hn:Own w 0 9 vn (sv now)) (ky:0<now.length/\now.length<=1000) (h:Mc w p b v n q key S σ f dom D kept Ft) (sB:¬Ft z) (Hw:∀q,vn.ownBlock=some q->¬Ft q)
  (hS:∀W,Kp NoB w W->Cl 12 #[.pointer (some ⟨v,0,none⟩)] W fun e w'=>e=.returned (.int .i64 0)/\∃Ft',Gr W Ft Ft'/\Kp Ft W w'/\R w' Ft') :
  Cl 8 #[.pointer (some ⟨z,0,none⟩)] w fun e w'=>e=.returned (.int .i64 0)/\∃Ft' kE W,Gr w Ft Ft'/\R W Ft'/\Kp (fun q=>q=z) W w'/\Blk w' z 43 (wdC p vn kE vm gt pl)/\Own w' 0 9 vn (sv now)/\Own w' W.heap.size 9 kE (sv now)/\Kp (fun q=>Ft q\/q=z) w w':=by
 have HV:=Zz (y_Z h);have HS:=Zz (hS w (Kp.refl _ _));have z0:=hz.c0;have HZ:=Zz hz;have HN:=Zz hn;have PO:=Zz sB;have sU:=Zz Hw;clear hz hn h sB Hw hS;obtain ⟨gn,cn,rfl,Hx,Hy,vy⟩:=HN.o.form (by rw[z_c];exact ky.1);rw[z_c] at HN HZ ⊢;obtain ⟨m,hm⟩:∃m,now.length=m:=⟨_,rfl⟩;have rO:=Zz hm;rw[hm] at HN HZ ky ⊢;clear hm;go_enter func8,ntmps8;go_wp2_with fail;refine HV.o.mono ?_;rintro e w2 ⟨rfl,bF⟩;have bF:=bF.symm;subst bF;go_wp2_with fail;refine HS.o.mono ?_;rintro e w3 ⟨rfl,Ft',eW,au,hr⟩;have Bi:=Zz eW;have ar:=Zz au;have HR:=Zz hr;have ot:=Zz (HZ.o.kp au PO.o);have o8:=Zz (HN.o.kp au fun q hq=>sU.o q hq);clear eW au hr z0;have z1:=ot.o.c1;have z2:=ot.o.c2;have uH:Hid (Own w3 w3.heap.size 9 (.slice none 0 0) ([]:List Value)):=Zz (Own.nil_ w3 w3.heap.size 9)
 have iR:(sv now).length=m:=by rw[z_c];exact rO.o
 have bH:z_g w3 (.slice (some ⟨gn,0,none⟩) m cn) (sv now):=o8.o.reads;have bP:=sv_one2 now;have gV:=ky.2;generalize AL:sv now=SL at *;have fx:=Zz AL;clear AL
 go_upto_region 7 with (at_builtin;refine y_t (w0:=w3) w3.heap.size rfl (.const (.slice none 0 0)) (.tmp 17) 38 9 (.string ⟨#[]⟩) 16 rfl underlying38 x_4 rfl (by decide) _ _ _ SL rfl rfl bH bP uH.o (Below.refl _ _) (q_e _) (by rw[iR];simp;omega) ?_;intro v1 bO hO hB hg br;obtain ⟨A7,c7,rfl⟩:∃A c,v1=.slice A m c:=(by obtain ⟨A,c,e⟩:=hO.shape;exact ⟨A,c,by rw[e,List.nil_append,iR]⟩);have p7:bO.cell? ⟨z,2,none⟩=some vl:=(ot.o.grown hg (fun e=>by cases e)).cell 2;have f7:=(ot.o.grown hg (fun e=>by cases e)).frozen 2;have fC:=Zz hO;have fF:=Zz hg;clear hO hg br hB)
 have aC:Kp NoB w3 bO:=Kp.of_grown fF.o fun _ h=>by cases h
 have fW:=ot.o.kp aC fun h=>h;have dS:=(Kp.refl (fun q=>q=z) bO).setCell ⟨z,2,none⟩ (.slice A7 m c7) (.inl rfl);have tJ:=Zz (fW.set_ 2 (.slice A7 m c7));have rF:=fC.o.kp dS (z_W fC.o fW (by decide));have sK:=(o8.o.kp aC fun _ _ h=>h).kp dS (z_W (o8.o.kp aC fun _ _ h=>h) fW (by decide));rw[List.nil_append] at rF;have jD:=Zz rF;have pa:=Zz sK;have pC:Hid (Kp (fun q=>q=z) w3 (bO.setCell ⟨z,2,none⟩ (.slice A7 m c7))):=Zz ((aC.mono fun _ _ h=>h.elim).trans dS);have fB:Hid (Kp (fun q=>Ft q\/q=z) w (bO.setCell ⟨z,2,none⟩ (.slice A7 m c7))):=Zz ((ar.o.mono fun _ _ h=>.inl h).then pC.o fun q _ e=>.inr e);clear aC fW dS rF sK z1 z2 p7 f7 fF bH bP;generalize bO.setCell ⟨z,2,none⟩ (.slice A7 m c7)=fa at *;go_wp2;go_ret;exact ⟨rfl,Ft',_,w3,Bi.o,HR.o,pC.o,tJ.o,by rw[fx.o];exact pa.o,by rw[fx.o];exact jD.o,fB.o⟩
end
def lvZ:List ByteArray:=[bs z_M,bs z_B]
def lvC:List ByteArray:=[bs z_M,bs z_B,bs (pp lvZ 32 2),bs (qq lvZ 32 2)]
def lvL:List Cgd:=putL (bgS 2 2 5) z_B 1 lvC 0 4
def lvQ:List UInt8:=[96,98,100,102,104,106,108,110,112,114,194,196,198,200,202,204,96,98,100,102,104,106,108,110,112,114,194,196,198,200,202,204]
def lvC0:List UInt8:=[0,0,0,0,0,0,0,2,0,0,0,3,170,153,212,227,199,145,50,211,209,48,102,191,203,85,167,150,45,204,195,115,136,8,172,233,18,113,53,133,110,187,235,152,12,81,163,111,204,200,126,152,34,228,206,175,47,130,96,205]
def lvC1:List UInt8:=[0,0,0,0,0,0,0,2,0,0,0,0,40,222,159,50,37,220,200,164,91,21,14,47,238,35,108,62,131,236,219,244,172,174,223,64,180,176,244,229,14,74,53,209,118,252,81,186,9,90,166,1,132,36,38,50,130,151,46,104]
def lvC2:List UInt8:=[0,0,0,0,0,0,0,2,0,0,0,1,206,8,212,20,166,95,51,119,235,110,194,88,112,154,196,151,174,46,169,187,128,241,178,42,145,140,221,230,140,68,11,240,40,20,92,223,189,248,16,238,109,215,175,237,139,139,184,217]
def lvC3:List UInt8:=[0,0,0,0,0,0,0,2,0,0,0,2,48,30,227,251,207,162,155,175,92,113,41,207,170,198,33,254,181,126,202,72,236,120,158,66,39,238,22,165,96,16,147,178,117,78,244,40,8,107,68,171,168,46,171,103,53,36,65,145]
def lvT0:List UInt8:=[217,107,231,113,12,238,243,44,191,33,109,156,83,199,135,16,7,164,181,56,6,253,142,75,8,179,110,165,98,10,138,168]
def lvT1:List UInt8:=[22,0,162,201,184,41,29,52,136,221,16,111,132,190,104,248,127,167,173,206,28,110,127,82,12,80,73,137,47,137,254,232]
def lvT2:List UInt8:=[20,52,118,96,239,147,245,34,116,55,120,54,152,124,184,86,154,55,29,76,0,24,81,91,117,174,255,127,76,212,255,153]
def lvT3:List UInt8:=[30,226,86,70,194,145,153,134,231,102,112,197,132,19,54,134,96,200,189,235,193,249,222,178,9,143,148,116,36,3,60,111]
def lvD0:List UInt8:=[26,81,83,201,196,240,153,193,9,242,162,171,114,114,67,143,3,161,29,88,152,125,71,60,209,26,34,196,18,61,246,100]
def lvD1:List UInt8:=[133,60,209,198,168,53,147,234,214,118,81,214,172,169,63,51,79,25,200,87,30,47,202,108,89,142,59,181,182,186,203,216]
def lvD2:List UInt8:=[26,91,6,237,44,242,2,195,42,138,196,206,218,6,76,54,169,111,95,61,221,9,88,203,138,165,18,46,165,102,193,12]
def lvD3:List UInt8:=[160,20,102,115,213,157,165,48,176,28,140,225,229,29,227,230,226,125,165,211,78,226,92,37,106,210,223,21,223,179,182,205]
def lvTT:List UInt8:=[254,67,214,106,250,74,154,92,79,156,157,168,159,79,251,82,99,92,143,52,46,127,251,115,29,104,227,108,89,130,7,42]
def lvNN:List UInt8:=[92,207,141,12,255,213,33,79,195,235,13,154,13,26,31,241,33,28,52,9,12,210,61,146,112,99,104,158,182,44,216,135]
def lvR0:List UInt8:=[183,65,239,233,216,32,19,128,10,40,216,92,113,227,106,166,127,255,210,231,201,155,92,181,74,216,209,147,186,99,177,73]
def lvR1:List UInt8:=[223,20,216,152,52,53,94,174,210,26,209,171,227,128,119,239,68,160,37,46,163,66,165,228,8,78,49,25,89,232,160,54]
set_option maxRecDepth 1000000
theorem lv_pp:pp lvZ 32 2=z_B:=by decide +kernel
theorem lv_qq:qq lvZ 32 2=lvQ:=by decide +kernel
theorem lv_c1:y_D 2 0++y_n z_B (y_D 2 0) (y_m 1 1) z_M=lvC1:=by decide +kernel
theorem lv_c2:y_D 2 1++y_n z_B (y_D 2 1) (y_m 2 1) z_B=lvC2:=by decide +kernel
theorem lv_c3:y_D 2 2++y_n z_B (y_D 2 2) (y_m 3 1) z_B=lvC3:=by decide +kernel
theorem lv_c0:y_D 2 3++y_n z_B (y_D 2 3) (y_m 0 1) lvQ=lvC0:=by decide +kernel
theorem lvL_is:lvL=[⟨1,1,bs lvC1⟩,⟨2,1,bs lvC2⟩,⟨3,1,bs lvC3⟩,⟨0,1,bs lvC0⟩]:=by
 have e:lvL=[⟨1,1,bs (y_D 2 0++y_n z_B (y_D 2 0) (y_m 1 1) z_M)⟩,⟨2,1,bs (y_D 2 1++y_n z_B (y_D 2 1) (y_m 2 1) z_B)⟩,⟨3,1,bs (y_D 2 2++y_n z_B (y_D 2 2) (y_m 3 1) (pp lvZ 32 2))⟩,⟨0,1,bs (y_D 2 3++y_n z_B (y_D 2 3) (y_m 0 1) (qq lvZ 32 2))⟩]:=rfl;rw[e,lv_pp,lv_qq,lv_c0,lv_c1,lv_c2,lv_c3]
theorem lv_t0:z_L 2 (chW ch0 [⟨1,bs lvC0⟩])=bs lvT0:=by decide +kernel
theorem lv_d0:y_O (z_o (prW 2 ch0 [⟨1,bs lvC0⟩]))=bs lvD0:=by decide +kernel
theorem lv_t1:z_L 2 (chW ch0 [⟨1,bs lvC1⟩])=bs lvT1:=by decide +kernel
theorem lv_d1:y_O (z_o (prW 2 ch0 [⟨1,bs lvC1⟩]))=bs lvD1:=by decide +kernel
theorem lv_t2:z_L 2 (chW ch0 [⟨1,bs lvC2⟩])=bs lvT2:=by decide +kernel
theorem lv_d2:y_O (z_o (prW 2 ch0 [⟨1,bs lvC2⟩]))=bs lvD2:=by decide +kernel
theorem lv_t3:z_L 2 (chW ch0 [⟨1,bs lvC3⟩])=bs lvT3:=by decide +kernel
theorem lv_d3:y_O (z_o (prW 2 ch0 [⟨1,bs lvC3⟩]))=bs lvD3:=by decide +kernel
theorem lv_tt:z_L 2 ch0=bs lvTT:=by decide +kernel
theorem lv_nn:z_C=bs lvNN:=by decide +kernel
theorem lvS_is:cmS (bgS 2 2 5) (fun _=>dk0) 5 (fun _=>ch0) lvL=⟨3,2,2,2,[⟨1,bs lvT0,bs lvD0⟩,⟨1,bs lvT1,bs lvD1⟩,⟨1,bs lvT2,bs lvD2⟩,⟨1,bs lvT3,bs lvD3⟩,⟨0,zeB,bs lvNN⟩]⟩:=by
 rw[lvL_is];have e:∀c0 c1 c2 c3:ByteArray,cmS (bgS 2 2 5) (fun _=>dk0) 5 (fun _=>ch0) [⟨1,1,c1⟩,⟨2,1,c2⟩,⟨3,1,c3⟩,⟨0,1,c0⟩]=⟨3,2,2,2,[⟨1,z_L 2 (chW ch0 [⟨1,c0⟩]),y_O (z_o (prW 2 ch0 [⟨1,c0⟩]))⟩,⟨1,z_L 2 (chW ch0 [⟨1,c1⟩]),y_O (z_o (prW 2 ch0 [⟨1,c1⟩]))⟩,⟨1,z_L 2 (chW ch0 [⟨1,c2⟩]),y_O (z_o (prW 2 ch0 [⟨1,c2⟩]))⟩,⟨1,z_L 2 (chW ch0 [⟨1,c3⟩]),y_O (z_o (prW 2 ch0 [⟨1,c3⟩]))⟩,⟨0,zeB,z_C⟩]⟩:=fun c0 c1 c2 c3=>rfl;rw[e,lv_t0,lv_t1,lv_t2,lv_t3,lv_d0,lv_d1,lv_d2,lv_d3,lv_nn]
theorem lv0_is:bgS 2 2 5=⟨2,2,2,2,[⟨1,bs lvTT,bs lvNN⟩,⟨1,bs lvTT,bs lvNN⟩,⟨1,bs lvTT,bs lvNN⟩,⟨1,bs lvTT,bs lvNN⟩,⟨0,zeB,bs lvNN⟩]⟩:=by
 have e:bgS 2 2 5=⟨2,2,2,2,[⟨1,z_L 2 ch0,z_C⟩,⟨1,z_L 2 ch0,z_C⟩,⟨1,z_L 2 ch0,z_C⟩,⟨1,z_L 2 ch0,z_C⟩,⟨0,zeB,z_C⟩]⟩:=rfl;rw[e,lv_tt,lv_nn]
theorem lv_r1:z_Z (z_t ⟨3,2,2,2,[⟨1,bs lvT0,bs lvD0⟩,⟨1,bs lvT1,bs lvD1⟩,⟨1,bs lvT2,bs lvD2⟩,⟨1,bs lvT3,bs lvD3⟩,⟨0,zeB,bs lvNN⟩]⟩)=lvR1:=by decide +kernel
theorem lv_r0:z_Z (z_t ⟨2,2,2,2,[⟨1,bs lvTT,bs lvNN⟩,⟨1,bs lvTT,bs lvNN⟩,⟨1,bs lvTT,bs lvNN⟩,⟨1,bs lvTT,bs lvNN⟩,⟨0,zeB,bs lvNN⟩]⟩)=lvR0:=by decide +kernel
theorem lv_unlike:z_Z (z_t (bgS 2 2 5))≠z_Z (z_t (cmS (bgS 2 2 5) (fun _=>dk0) 5 (fun _=>ch0) lvL)):=by
 rw[lvS_is,lv0_is,lv_r0,lv_r1];decide
theorem mix_stp (d:Nat) (f:Nat->Option ByteArray) (B:Nat->ByteArray) (t:Nat):y_s d f (z_z (stp d B t)) t=stp d (fun k=>(f k).getD (B k)) t:=by
 refine List.map_congr_left fun c hc=>?_;have hc:=List.mem_range.1 hc;unfold x_1;rw[stp_all B t c hc]
theorem cnt_none {p:Nat->Bool} {n:Nat} (h:cnt p n=0):∀i,i<n->p i=false:=by
 induction n with
 | zero=>intro i hi;omega
 | succ n ih =>
  rw[v_u] at h;intro i hi
  cases hp:p n with
  | true=>rw[hp,if_pos rfl] at h;omega
  | false =>
   by_cases e:i=n
   ·subst e;exact hp
   ·exact ih (by omega) i (by omega)
section
variable {n:Nat} {key:List UInt8} {S:Sup} {σ:Nat->DkS} {ch:Nat->Nat->ByteArray} {B:Nat->ByteArray} {f:Nat->Option ByteArray} {l:List Cgd}
theorem VOk.synced (h:VOk n key S σ ch B) (hc:S.count<1000) (nK:∀k y,f k=some y->y.size=32) (hl:SynR S key (fun t=>cnt (wtP S.data f t) S.data) (fun t=>y_s S.data f (z_z (stp S.data B t)) t) S.slots l) {t0:Nat} (jO:t0<S.slots) (ja:0<cnt (wtP S.data f t0) S.data) :
  VOk n key (cmS S σ n ch l) (y_U S σ n ch l) (fun j=>chW (ch j) (lC l j)) (fun k=>(f k).getD (B k))/\LOk (cmS S σ n ch l) (y_U S σ n ch l) (fun j=>some (cmX S.slots ch l j))/\(∀i,i<n->(σ i).dead=false->tl (y_U S σ n ch l i).now (S.count % 2)=tl (σ i).now (S.count % 2))/\∀i,i<n->bad (cmS S σ n ch l) (y_U S σ n ch l) i=bad S σ i:=by
 obtain ⟨z1,z2,z3⟩:=h.commit hc l _ _ hl (fun k=>(f k).getD (B k)) (fun k hk=>by
  show ((f k).getD (B k)).size=32
  cases hf:f k with
  | none=>exact h.bsz k hk
  | some y=>exact nK k y hf) (fun t ht _=>mix_stp _ _ _ _) (fun t ht h0 c bf=>by
  have:=cnt_none h0 c bf
  have e:f (t*S.data+c)=none:=by
   cases hf:f (t*S.data+c) with
   | none=>rfl
   | some y=>simp[wtP,hf] at this
  show _=(f (t*S.data+c)).getD _
  rw[e];rfl) jO ja
 exact ⟨z1,z2,z3,fun i hi=>cmS_bad S σ n ch l i hi⟩
theorem cmS_live (S:Sup) (σ σ':Nat->DkS) (n:Nat) (ch:Nat->Nat->ByteArray) (l:List Cgd) (h:∀i,(σ i).dead=(σ' i).dead):cmS S σ n ch l=cmS S σ' n ch l:=by
 unfold cmS prS prD prM;simp only[h]
end
theorem bad_kill (S:Sup) (σ:Nat->DkS) (i j:Nat):bad S (z_A σ i (σ i).fail) j=(bad S σ j || decide (j=i)):=by
 unfold bad;by_cases e:j=i
 ·subst e
  rw[y_q];show (_ || true)=_;simp
 ·rw[y_w _ _ e]
  simp[e]
end Go.Proofs.YtdkheklakfbeeaaGreatDoor
