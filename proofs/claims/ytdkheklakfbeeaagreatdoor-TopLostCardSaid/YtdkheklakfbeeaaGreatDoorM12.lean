/- Part 12 of the proof. -/
import Derived.Test.YtdkheklakfbeeaaGreatDoorM11
set_option linter.all false
set_option maxRecDepth 100000
set_option maxHeartbeats 16000000
namespace Go.Proofs.YtdkheklakfbeeaaGreatDoor
open Go.RowKit Tryz
def z_o (l:List Wr):List ByteArray:=bs (z_k l.length)::l.map fun x=>bs (z_k x.at'++z_v x.cell.data.toList)
theorem y_5 (l:List Wr):(z_o l).length=l.length+1:=by simp[z_o]
def z_C:ByteArray:=y_O (z_o [])
def sizD (l:List UInt8):Nat:=(Rd.belowS (l,0) 96).done
def sizN (l:List UInt8):Nat:=if sizD l=0 then Rd.below (l,0) 96+1 else 0
def sizE (l:List UInt8):Nat:=if sizD l=0 then 0 else 4
theorem below_lt (r:Rd) (b:Nat) (hb:1<=b):r.below b<b:=by
 unfold Rd.below;split
 ·rename_i h;exact h.2
 ·omega
theorem isize_any (w:World) (l:List UInt8) (hl:l.length<=1000000) :
  Cl 128 #[.string (bs l)] w fun e w'=>e=.returned (.tuple #[.int .i64 (sizN l:Int),.int .i64 (sizE l:Int)])/\Kp NoB w w':=by
 have HN:=Zz (cnew_any w l);have HB:=Zz (fun W h=>w_2 W w.heap.size (l,0) hl (by show 0<100;decide) 96 (by decide) (by decide) h);have HD:=Zz (fun W h=>done_any W w.heap.size (Rd.belowS (l,0) 96) h);have cE:=below_lt (l,0) 96 (by decide);have H1:Hid (sizN l=if sizD l=0 then Rd.below (l,0) 96+1 else 0):=Zz rfl;have H2:Hid (sizE l=if sizD l=0 then 0 else 4):=Zz rfl;change Hid (∀W,_->Calls _ _ _ _ fun e w'=>e=.returned (.int .i64 (sizD l:Int))/\w'=W) at HD;generalize sizD l=d at *;generalize Rd.below (l,0) 96=n at *;generalize sizN l=N at *;generalize sizE l=E at *;go_enter func128,ntmps128;go_wp2_with fail;refine HN.o.mono ?_;rintro e w1 ⟨rfl,ay,aX⟩;go_wp2_with fail;refine (HB.o _ ay).mono ?_;rintro e w2 ⟨rfl,am,ag⟩;have HK:Hid (Kp NoB w w2):=Zz (aX.then ag (T:=(·=w.heap.size)) fun q hq h=>by have h:q=w.heap.size:=h;omega);clear aX ag;go_wp2_with fail;refine (HD.o _ am).mono ?_;rintro e w3 ⟨rfl,rfl⟩;clear ay am;by_cases hd:d=0
 ·have e1:N=n+1:=by rw[H1.o,if_pos hd]
  have e2:E=0:=by rw[H2.o,if_pos hd]
  subst hd e1 e2;go_wp2;go_ret2;exact ⟨rfl,HK.o⟩
 ·have e1:N=0:=by rw[H1.o,if_neg hd]
  have e2:E=4:=by rw[H2.o,if_neg hd]
  have DA:¬((d:Int)=0):=by omega
  subst e1 e2;go_wp2;go_ret2;exact ⟨rfl,HK.o⟩
theorem logC_take (l:List Wr) (i:Nat) (h:i<l.length):(z_o l).take (i+2)=(z_o l).take (i+1)++[bs (z_k (l[i]'h).at'++z_v (l[i]'h).cell.data.toList)]:=by
 have hl:i+1<(z_o l).length:=by rw[y_5];omega
 rw[q_h hl];congr 1;simp[z_o]
theorem x_4:(prog.info? 9).map (fun i=>(i.zero,i.size,i.bytes))=some (some (.string ⟨#[]⟩),1,16):=by kernel_rfl
theorem iput_any (w:World) (hL:Lay w) (hw:10<=w.heap.size) (v:Value) (l:List Wr) (hv:z_Q w v 2 l.length (wrC l)) (hl:l.length<96) (bI:∀x∈l,x.ok) :
  Cl 117 #[v] w fun e w'=>∃u,e=.returned (.tuple #[u,.string (y_O (z_o l)),.int .i64 0])/\Own w' w.heap.size 9 u (sv (z_o l))/\Kp NoB w w':=by
 obtain ⟨A,c,rfl,aK,bf,sY,aa⟩:=hv;have HC:=Zz aa;have rU:=Zz (wrC_at l);have iX:Hid (∀i (h:i<l.length),(l[i]'h).ok):=Zz fun i h=>bI _ (q_B h);have fG:=Zz (logC_take l);have bj:=Zz hL;have eC:Hid ((z_o l).take (l.length+1)=z_o l):=Zz (q_t (by rw[y_5];omega))
 have HZ:Hid (∀i,i<(z_o l).length->(tl (z_o l) i).size<=3000):=Zz fun i hi=>by
  rw[y_5] at hi
  cases i with
  | zero=>show (bs (z_k l.length)).size<=3000;rw[z_b,z_m];decide
  | succ i =>
   have h:i<l.length:=by omega
   have:tl (z_o l) (i+1)=bs (z_k (l[i]'h).at'++z_v (l[i]'h).cell.data.toList):=by simp[tl,z_o,h]
   rw[this,z_b,q_b,z_m];unfold z_v;rw[q_b,z_m,z_n];have:=(bI _ (q_B h)).2.2;omega
 have jr:Hid ((z_o l).length<=100):=Zz (by rw[y_5];omega);have DB:=Zz (fun W=>x_B W l.length (by omega));have jQ:[bs (z_k l.length)]=(z_o l).take (0+1):=rfl;obtain ⟨n,hn⟩:∃n,l.length=n:=⟨_,rfl⟩;have dD:=Zz hn;rw[hn] at aK HC eC hl DB sY ⊢
 have Wx:IntKind.u64.wrap (n:Int)=(n:Int):=by rw[q_s];omega
 have Q9:[bs (z_k n)]=(z_o l).take (0+1):=by rw[<-hn];rfl
 have IC:=Zz Q9;clear aa hn hL bI jQ Q9 sY
 have h96:¬((96:Int)<=(n:Int)):=by omega
 have Wy:¬(96<=n):=by omega
 generalize z_o l=LC at *;generalize bs (z_k n)=N0 at *;go_enter func117,ntmps117;go_wp2_with fail;refine (DB.o _).mono ?_;rintro e w1 ⟨rfl,aX⟩;have hO:=Own.lit_ w1 w.heap.size 9 #[.string N0] aX.size (by simp[maxLen]);have HK:=Zz (aX.alloc (.cells #[.string N0] 9));have dS:=aX.size;clear aX
 go_upto_region 5 with fail
 have HO:Hid (Own (w1.alloc (.cells #[.string N0] 9)) w.heap.size 9 (.slice (some ⟨w1.heap.size,0,none⟩) 1 1) (sv (LC.take (0+1)))):=Zz (by rw[<-IC.o];exact hO);clear hO;generalize w1.alloc (.cells #[.string N0] 9)=w2 at *;obtain ⟨G,hG⟩:∃G,w1.heap.size=G:=⟨_,rfl⟩;rw[hG] at HO ⊢;clear hG dS
 go_loopw [5,7,8,19] (fun s5 _ _ s19 wr=>∃i:Nat,i<=n/\s19=.int .i64 i/\Hid (Own wr w.heap.size 9 s5 (sv (LC.take (i+1))))/\Hid (Kp NoB w wr)) (fun _ _ _ s19 _=>n-(intOf s19).toNat)
 case atStart=>exact ⟨0,by omega,rfl,HO,HK⟩
 case round =>
  clear HO HK;obtain ⟨i,hi,rfl,HO,HK⟩:=hrel;by_cases af:i<n
  ·obtain ⟨b,off,rfl,ae⟩:=HC.o (by omega)
   have bt:i<l.length:=by have:=dD.o;omega
   obtain ⟨q1,q2⟩:=rU.o i bt;have eO:=(ae (i*2) (by omega)).trans q1;have ew:=(ae (i*2+1) (by omega)).trans q2;rw[<-Nat.add_assoc] at ew;have k0:=(HK.o.below0.cell (q_c w _ eO)).trans eO;have k1:=(HK.o.below0.cell (q_c w _ ew)).trans ew;obtain ⟨o1,o2,o3⟩:=iX.o i bt;have aR:=Zz (fG.o i bt)
   have bV:(i:Int)<(n:Int):=by omega
   clear ae q1 q2 eO ew;generalize (l[i]'bt).at'=a at *;generalize (l[i]'bt).cell=s at *;have cN:=Zz (Blk.new wr 240 #[.int .i64 a,.string s]);have iY:=Zz (HO.o.alloc (.cells #[.int .i64 a,.string s] 240));have bn:=Zz (HK.o.alloc (.cells #[.int .i64 a,.string s] 240));have gB:=Zz (fun W=>imay_any W a s o1 o2 o3);have g9:=Zz (fun W=>x_B W a (by omega));have rV:=Zz (fun W=>v_O W s (by omega))
   have Wt:IntKind.u64.wrap (a:Int)=(a:Int):=by rw[q_s];omega
   have z1:(bs (z_k a)).size=8:=by rw[z_b,z_m]
   have z2:(bs (z_v s.data.toList)).size<=3000:=by rw[z_b];unfold z_v;rw[q_b,z_m,z_n];omega
   have sQ:bs (z_k a)++bs (z_v s.data.toList)=bs (z_k a++z_v s.data.toList):=y_f _ _
   have WA:¬(9223372036854775807<8+(bs (z_v s.data.toList)).size):=by omega
   generalize bs (z_k a++z_v s.data.toList)=X at *;generalize bs (z_v s.data.toList)=X2 at *;generalize bs (z_k a)=X1 at *
   go_upto_region 7 with fail
   clear HO HK k0 k1;generalize fY:wr.alloc (.cells #[.int .i64 a,.string s] 240)=w5 at *;clear fY;generalize wr.heap.size=D at *;have c0:=cN.o.c0;have c1:=cN.o.c1;go_wp2_with fail;refine (gB.o _).mono ?_;rintro e w6 ⟨rfl,ap⟩;have bk:=Zz (cN.o.kp ap fun h=>h).drew;have dG:=Zz (iY.o.kp ap fun _ _ h=>h).drew;have aB:=Zz (bn.o.trans ap).drew;clear c0 c1 ap cN iY bn
   go_upto_region 10 with fail
   refine fs ?_;generalize w6.drew=w7 at *;have c0:=bk.o.c0;have c1:=bk.o.c1;refine fp 0 ?_;refine fp 1 ?_;refine f_c 2 c0 ?_;refine fp 3 ?_;refine fp 5 ?_;refine f_c 6 c1 ?_;refine fd 4 fun K Qx hK=>?_;go_simp;refine (g9.o _).mono ?_;rintro e w8 ⟨rfl,aL⟩;have ef:=Zz (bk.o.kp aL fun h=>h);have ia:=Zz (dG.o.kp aL fun _ _ h=>h);have bq:=Zz (aB.o.trans aL);refine hK _ _ (oK (ef.o.cell 1) (oW oN)) ?_;clear hK K c0 c1 aL bk dG aB;refine fd 7 fun K Qx hK=>?_;go_simp;refine (rV.o _).mono ?_;rintro e w9 ⟨rfl,bL⟩;have cT:=Zz (ia.o.kp bL fun _ _ h=>h);have aT:=Zz (bq.o.trans bL);refine hK _ _ (oW (oW oN)) ?_;clear hK K bL ef ia bq;refine fp 8 ?_;refine fd 9 fun K Qx hK=>?_;go_simp;have cy:=Zz (cT.o.alloc (.cells #[.string X] 9));have dK:=Zz (aT.o.alloc (.cells #[.string X] 9));have eQ:Hid (z_g (w9.alloc (.cells #[.string X] 9)) (.slice (some ⟨w9.heap.size,0,none⟩) 1 1) (sv [X])):=Zz (blit w9 #[.string X] 9 (by simp[maxLen]));have qh:Hid (w.heap.size<=(w9.alloc (.cells #[.string X] 9)).heap.size):=Zz dK.o.size;refine hK _ _ (oW (oW oN)) ?_;clear hK K cT aT;generalize w9.alloc (.cells #[.string X] 9)=wA at *;refine y_L 10 rfl rfl (by kernel_rfl) ?_;refine x_S rfl underlying38 x_4 rfl (by decide) rfl rfl (fun u hu=>by obtain ⟨y,_,rfl⟩:=List.mem_map.1 hu;rfl) cy.o eQ.o (by show 0<1;decide) qh.o (by show ((sv (LC.take (i+1))).length+1)*16<=140737488355328;rw[z_c,q_l];omega) ?_;intro v1 wB ho hg;have l8:Hid (Own wB w.heap.size 9 v1 (sv (LC.take (i+1+1)))):=Zz (by rw[show i+1+1=i+2 from rfl,aR.o,w_0];exact ho);have sZ:=Zz (dK.o.then (Kp.of_grown hg (S:=fun q=>some q=u5.ownBlock) fun _ h=>h) fun q hq h=>by have:=(cy.o.lt q h.symm).1;omega)
   clear ho hg cy eQ dK qh;refine ⟨oW (oW oN),?_⟩;refine fp 11 ?_;refine fe ?_;go_wp2;go_roundw
   case rel=>exact ⟨i+1,by omega,by go_num,l8,sZ⟩
   case measure=>simp[intOf];omega
  ·obtain rfl:i=n:=by omega
   rw[eC.o] at HO;have Bj:=Zz (fun W (hW:Lay W) (bE:10<=W.heap.size) u hu=>digest_any W hW bE u LC hu jr.o HZ.o);have bH:=Zz HO.o.reads;go_wp2_with fail;refine (Bj.o _ (bj.o.no HK.o) (by have:=HK.o.size;omega) _ bH.o).mono ?_;rintro e w8 ⟨rfl,aL⟩;have mA:=Zz (HO.o.kp aL fun _ _ h=>h);go_wp2
   go_ret3
   exact ⟨_,rfl,mA.o,HK.o.trans aL⟩
theorem bigN_numB {n:Nat} (hn:n<18446744073709551616):bigN (z_k n)=n:=by
 unfold bigN
 have e0:beW (z_k n) 0=n / 4294967296:=by
  show (b8 (n / 4294967296 / 16777216)).toNat*16777216+(b8 (n / 4294967296 / 65536)).toNat*65536+(b8 (n / 4294967296 / 256)).toNat*256+(b8 (n / 4294967296)).toNat=_;rw[w_5,w_5,w_5,w_5];omega
 have e1:beW (z_k n) 1=n % 4294967296:=by
  show (b8 (n % 4294967296 / 16777216)).toNat*16777216+(b8 (n % 4294967296 / 65536)).toNat*65536+(b8 (n % 4294967296 / 256)).toNat*256+(b8 (n % 4294967296)).toNat=_;rw[w_5,w_5,w_5,w_5];omega
 rw[e0,e1];omega
theorem Rd.num_ok {n:Nat} (hn:n<18446744073709551616) (rest:List UInt8):Rd.num (z_k n++rest,0)=n/\Rd.left (z_k n++rest,0) 8=(rest,0)/\Rd.bad (z_k n++rest,0) 8=0:=by
 have hb:Rd.bad (z_k n++rest,0) 8=0:=if_neg (fun h=>by
  have h2:(z_k n++rest).length<8:=h.2
  rw[q_b,z_m] at h2;omega)
 refine ⟨?_,?_,hb⟩
 ·unfold Rd.num
  rw[if_pos hb];show bigN ((z_k n++rest).take 8)=n;rw[<-z_m n,List.take_left,bigN_numB hn]
 ·unfold Rd.left
  rw[if_pos hb];show ((z_k n++rest).drop 8,0)=(rest,0);rw[<-z_m n,List.drop_left]
theorem Rd.below_ok {n b:Nat} (hn:n<18446744073709551616) (hb:n<b) (rest:List UInt8):Rd.below (z_k n++rest,0) b=n/\Rd.belowS (z_k n++rest,0) b=(rest,0):=by
 obtain ⟨h1,h2,h3⟩:=Rd.num_ok hn rest;unfold Rd.below Rd.belowS;rw[h1,h2,h3,if_pos ⟨rfl,hb⟩,if_neg (fun h=>h.2 hb)];exact ⟨rfl,rfl⟩
theorem Rd.text_ok {c:List UInt8} (hc:c.length<18446744073709551616) (rest:List UInt8):Rd.text (z_v c++rest,0)=c/\Rd.textS (z_v c++rest,0)=(rest,0):=by
 have e:z_v c++rest=z_k c.length++(c++rest):=by unfold z_v;rw[List.append_assoc]
 rw[e];obtain ⟨h1,h2,h3⟩:=Rd.num_ok hc (c++rest)
 have hb:Rd.bad (c++rest,0) c.length=0:=if_neg (fun h=>by
  have h2:(c++rest).length<c.length:=h.2
  rw[q_b] at h2;omega)
 unfold Rd.text Rd.textS;rw[h1,h2];constructor
 ·unfold Rd.took
  rw[if_pos hb];show (c++rest).take c.length=c;rw[List.take_left]
 ·unfold Rd.left
  rw[if_pos hb];show ((c++rest).drop c.length,0)=(rest,0);rw[List.drop_left]
theorem siz_ok {n:Nat} (hn:n<96):sizN (z_k n)=n+1/\sizE (z_k n)=0:=by
 have e:z_k n=z_k n++[]:=(List.append_nil _).symm;obtain ⟨h1,h2⟩:=Rd.below_ok (n:=n) (b:=96) (by omega) hn []
 have hd:sizD (z_k n)=0:=by
  unfold sizD;rw[e,h2];rfl
 unfold sizN sizE;rw[hd];refine ⟨?_,rfl⟩;rw[if_pos rfl,e,h1]
theorem logC_first (l:List Wr):tl (z_o l) 0=bs (z_k l.length):=rfl
theorem v_6 (w:World) (hL:Lay w) (hw:10<=w.heap.size) :
  Cl 89 #[] w fun e w'=>e=.returned (.string z_C)/\Kp NoB w w':=by
 have HP:=Zz (iput_any w hL hw (.slice none 0 0) [] (readsN_nil w 2) (by decide) (by simp));change Hid (Calls _ _ _ w fun e w'=>∃u,e=.returned (.tuple #[u,.string z_C,.int .i64 0])/\_/\_) at HP;generalize z_C=N at *;clear hL;go_enter func89,ntmps89;go_wp2_with fail;refine HP.o.mono ?_;rintro e w1 ⟨u,rfl,hu,hk⟩;go_wp2;go_ret;exact ⟨rfl,hk⟩
theorem infoIW:(prog.info? 240).map (fun i=>(i.zero,i.size,i.bytes))=some (some (.agg #[.int .i64 0,.string ⟨#[]⟩]),2,24):=by kernel_rfl
theorem wrC_take (l:List Wr) (i:Nat) (h:i<l.length):wrC (l.take (i+1))=wrC (l.take i)++[.int .i64 ((l[i]'h).at':Int),.string (l[i]'h).cell]:=by
 rw[q_h h,v_j];rfl
theorem iget_any (w:World) (hL:Lay w) (hw:10<=w.heap.size) (v:Value) (l:List Wr) (hv:z_g w v (sv (z_o l))) (hl:l.length<96) (bI:∀x∈l,x.ok) :
  Cl 185 #[v,.string (y_O (z_o l))] w fun e w'=>∃u,e=.returned (.tuple #[u,.int .i64 0])/\w'.ownsRow w.heap.size 240 2 u l.length (wrC l)/\Kp NoB w w':=by
 have ib:=y_5 l;obtain ⟨A,c,rfl,aK,bf,aa⟩:=hv;have iZ:Hid (∀W,Kp NoB w W->z_g W (.slice A (sv (z_o l)).length c) (sv (z_o l))):=Zz fun W k=>(show z_g w (.slice A (sv (z_o l)).length c) (sv (z_o l)) from ⟨A,c,rfl,aK,bf,aa⟩).below k.below0;rw[z_c,ib] at aK aa iZ ⊢;obtain ⟨b,off,rfl,ae⟩:=aa (by omega);have bj:=Zz hL
 have HZ:Hid (∀i,i<(z_o l).length->(tl (z_o l) i).size<=3000):=Zz fun i hi=>by
  rw[y_5] at hi
  cases i with
  | zero=>show (bs (z_k l.length)).size<=3000;rw[z_b,z_m];decide
  | succ i =>
   have h:i<l.length:=by omega
   have:tl (z_o l) (i+1)=bs (z_k (l[i]'h).at'++z_v (l[i]'h).cell.data.toList):=by simp[tl,z_o,h]
   rw[this,z_b,q_b,z_m];unfold z_v;rw[q_b,z_m,z_n];have:=(bI _ (q_B h)).2.2;omega
 have Bj:=Zz (fun W (hW:Lay W) (bE:10<=W.heap.size) u hu=>digest_any W hW bE u (z_o l) hu (by omega) HZ.o);have eO:=ae 0 (by omega);rw[y_y _ 0 (by omega),logC_first,Nat.add_zero] at eO;have LQ:=Zz (fun W=>isize_any W (z_k l.length) (by rw[z_m];decide));rw[(siz_ok hl).1,(siz_ok hl).2] at LQ
 have bA:Hid (∀i (h:i<l.length),w.cell? ⟨b,off+(i+1),none⟩=some (.string (bs (z_k (l[i]'h).at'++z_v (l[i]'h).cell.data.toList)))):=Zz fun i h=>by
  rw[ae (i+1) (by omega),y_y _ _ (by omega)];simp[tl,z_o,h]
 have iX:Hid (∀i (h:i<l.length),(l[i]'h).ok):=Zz fun i h=>bI _ (q_B h);have kG:=Zz (wrC_take l);have eC:Hid (wrC (l.take l.length)=wrC l):=Zz (by rw[List.take_length])
 have fG:Hid (∀i,(wrC (l.take i)).length<=i*2):=Zz fun i=>by rw[wrC_length,q_l];omega
 have fo:b<w.heap.size:=q_c w _ eO;clear aa ae hL bI;obtain ⟨n,hn⟩:∃n,l.length=n:=⟨_,rfl⟩;have dD:=Zz hn;rw[hn] at aK iZ LQ eC hl eO ib ⊢;clear hn ib;generalize y_O (z_o l)=DG at *;generalize z_k n=NB at *
 have ja:¬(n+1=0):=by omega
 have hN1:((n+1:Nat):Int)-1=(n:Int):=by omega
 have Ra:0<n+1:=by omega
 have o8:Hid (∀i,i<n->i+1<n+1):=Zz fun i h=>by omega
 have DC:n+1<97:=by omega
 generalize n+1=N1 at *
 have WC:((N1:Int)==0)=false:=by rw[q_o];omega
 go_enter func185,ntmps185;go_wp2_with fail;refine (LQ.o _).mono ?_;rintro e w1 ⟨rfl,aX⟩;have aW:=Zz aX;clear aX;go_wp2_with fail;refine (Bj.o _ (bj.o.no aW.o) (by have:=aW.o.size;omega) _ (iZ.o _ aW.o)).mono ?_;rintro e w2 ⟨rfl,ag⟩;have HK:=Zz (aW.o.trans ag);clear ag aW eO;have HO:Hid (w2.ownsRow w.heap.size 240 2 (.slice none 0 0) 0 (wrC (l.take 0))):=Zz (World.ownsRow_nil _ _ _ _)
 go_upto_region 12 with fail
 go_loopw [8,9,10,11,12,41] (fun s8 _ _ _ _ s41 wr=>∃i:Nat,i<=n/\s41=.int .i64 i/\Hid (wr.ownsRow w.heap.size 240 2 s8 i (wrC (l.take i)))/\Hid (Kp NoB w wr)) (fun _ _ _ _ _ s41 _=>n-(intOf s41).toNat)
 case atStart=>exact ⟨0,by omega,rfl,HO,HK⟩
 case round =>
  clear HO HK;obtain ⟨i,hi,rfl,HO,HK⟩:=hrel;by_cases af:i<n
  ·have bt:i<l.length:=by have:=dD.o;omega
   have hx:=bA.o i bt;have k0:=(HK.o.below0.cell (q_c w _ hx)).trans hx;obtain ⟨o1,o2,o3⟩:=iX.o i bt;have aR:=Zz (kG.o i bt);have LS:=o8.o i af
   have bV:(i:Int)<(n:Int):=by omega
   have LT:IntKind.i64.wrap ((i:Int)+1)=((i+1:Nat):Int):=by rw[q_r];omega
   have hI2:(i:Int)+1=((i+1:Nat):Int):=by omega
   have hI3:((i+1:Nat):Int)<(N1:Int):=by omega
   have LU:Hid (i+1<=n):=Zz (by omega);clear hx;generalize (l[i]'bt).at'=a at *;generalize (l[i]'bt).cell=s at *;obtain ⟨e1,e2⟩:=Rd.below_ok (n:=a) (b:=140) (by omega) o2 (z_v s.data.toList);have Rb:z_v s.data.toList=z_v s.data.toList++[]:=(List.append_nil _).symm;obtain ⟨e3,e4⟩:=Rd.text_ok (c:=s.data.toList) (by rw[z_n];omega) [];rw[<-Rb] at e3 e4
   have jP:(z_v s.data.toList).length<=3000:=by unfold z_v;rw[q_b,z_m,z_n];omega
   have eu:=Zz (fun W=>cnew_any W (z_k a++z_v s.data.toList));have gR:=Zz (fun W D h=>w_2 W D (z_k a++z_v s.data.toList,0) (by show (z_k a++z_v s.data.toList).length<=_;rw[q_b,z_m];omega) (by show 0<100;decide) 140 (by decide) (by decide) h);rw[e1,e2] at gR;have ta:=Zz (fun W D h=>rtext_any W D (z_v s.data.toList,0) (by show (z_v s.data.toList).length<=_;omega) h);rw[e3,e4] at ta;rw[x_D] at ta;have DD:=Zz (fun W D h=>done_any W D ([],0) h);rw[show Rd.done ([],0)=0 from rfl] at DD;have gB:=Zz (fun W=>imay_any W a s o1 o2 o3);clear e1 e2 e3 e4 Rb jP;generalize z_k a++z_v s.data.toList=X at *;generalize z_v s.data.toList=X2 at *;generalize rW:i+1=k at *;have uR:=Zz rW;clear rW;go_wp2_with fail;refine (eu.o _).mono ?_;rintro e w3 ⟨rfl,bW,au⟩;have ar:=Zz (HK.o.trans au);have iG:=Zz (z_e HO.o au fun _ _ h=>h);have hDw:w.heap.size<=wr.heap.size:=HK.o.size;have ly:=Zz (fun q (hq:u8.ownBlock=some q)=>(z_u HO.o hq).2);have aJ:=Zz bW;clear au bW HO HK k0;generalize wr.heap.size=D at *;go_wp2_with fail;refine (gR.o _ _ aJ.o).mono ?_;rintro e w4 ⟨rfl,fH,aw⟩;have az:=Zz (ar.o.then aw (T:=(·=D)) fun q hq h=>by have h:q=D:=h;omega);have qi:=Zz (z_e iG.o aw fun q hq h=>by have h:q=D:=h;have:=ly.o q hq;omega);have bR:=Zz fH;clear aw fH aJ iG ar;go_wp2_with fail;refine (ta.o _ _ bR.o).mono ?_;rintro e w5 ⟨rfl,ey,aG⟩;have ax:=Zz ((az.o.then aG (T:=(·=D)) fun q hq h=>by have h:q=D:=h;omega).alloc (.cells #[.int .i64 a,.string s] 240));have n9:=Zz (World.ownsRow.alloc (z_e qi.o aG fun q hq h=>by have h:q=D:=h;have:=ly.o q hq;omega) (.cells #[.int .i64 a,.string s] 240));have aY:=Zz (ey.alloc (.cells #[.int .i64 a,.string s] 240));have mB:=Zz (Blk.new w5 240 #[.int .i64 a,.string s]);clear aG ey bR qi az
   go_upto_region 17 with fail
   generalize LV:w5.alloc (.cells #[.int .i64 a,.string s] 240)=w6 at *;clear LV;generalize w5.heap.size=E at *;have c0:=mB.o.c0;have c1:=mB.o.c1;go_wp2_with fail;refine (DD.o _ _ aY.o).mono ?_;rintro e w7 ⟨rfl,rfl⟩;go_wp2_with fail;refine (gB.o _).mono ?_;rintro e w8 ⟨rfl,aL⟩;have bq:=Zz (ax.o.trans aL);have ia:=Zz (z_e n9.o aL fun _ _ h=>h);have jR:=Zz (mB.o.kp aL fun h=>h);clear aL c0 c1 ax n9 aY mB;have c0:=jR.o.c0;have c1:=jR.o.c1
   have b9:Hid (∀u∈[Value.int .i64 a,.string s],u.oneCell'=true):=Zz (by
    intro u hu;rcases List.mem_cons.1 hu with rfl|hu
    ·rfl
    ·rcases List.mem_cons.1 hu with rfl|hu
     ·rfl
     ·cases hu)
   have ie:=bq.o.size
   go_wp2_with (at_builtin;refine y_v w.heap.size rfl (.tmp 64) (.tmp 66) 182 240 (.agg #[.int .i64 0,.string ⟨#[]⟩]) 2 24 rfl underlying182 infoIW rfl (by decide) (by decide) u8 i (wrC (l.take i)) [.int .i64 a,.string s] rfl rfl rfl b9.o ia.o ie (by omega) ?_;intro v1 w9 dL eR df;have cT:=Zz dL;have aT:=Zz (bq.o.then (Kp.of_grown eR (S:=fun q=>some q=u8.ownBlock) fun _ h=>h) fun q hq h=>by have:=(z_u ia.o h.symm).1;omega);clear dL eR df)
   rw[<-aR.o] at cT;go_roundw
   case rel=>exact ⟨k,LU.o,by go_num,by rw[<-uR.o] at cT ⊢;exact cT,aT⟩
   case measure=>simp[intOf];have:=uR.o;omega
  ·obtain rfl:i=n:=by omega
   rw[eC.o] at HO;go_wp2;go_ret2;exact ⟨_,rfl,HO.o,HK.o⟩
structure Q4 where
 a:Nat
 b:Nat
 c:Nat
 d:Nat
def Q4.step (n m:Nat) (q:Q4):Q4 :=
 let a:=(q.a+q.b) % 4294967296;let d:=rol (q.d ^^^ a) n;let c:=(q.c+d) % 4294967296
 ⟨a,rol (q.b ^^^ c) m,c,d⟩
def Q4.quarter (q:Q4):Q4:=(q.step 16 12).step 8 7
def Q4.ok (q:Q4):Prop:=q.a<4294967296/\q.b<4294967296/\q.c<4294967296/\q.d<4294967296
theorem Q4.step_ok {q:Q4} (h:q.ok) (n m:Nat):(q.step n m).ok:=by
 obtain ⟨h1,h2,h3,h4⟩:=h;have ha:(q.a+q.b) % 4294967296<4294967296:=q_z _ (by decide);have hd:=z_8 (n:=n) (xlt h4 ha);have hc:(q.c+rol (q.d ^^^ ((q.a+q.b) % 4294967296)) n) % 4294967296<4294967296:=q_z _ (by decide);exact ⟨ha,z_8 (xlt h2 hc),hc,hd⟩
theorem results_tmp4 {fn:Func} {t u v x:Tmp} (h:fn.results=#[.tmp t,.tmp u,.tmp v,.tmp x]) (tmps:Array Value) (P:Program) (w:World) :
  (results fn tmps).run P w=.ok (.tuple #[tmps.getD t undef,tmps.getD u undef,tmps.getD v undef,tmps.getD x undef]) w:=by
 simp[results,h]
theorem idxQ (W:World):(Instr.index 354 (.agg #[.int .i64 16,.int .i64 12,.int .i64 8,.int .i64 7]) (.int .i64 0)).run prog W=.ok (.agg #[.int .i64 16,.int .i64 12]) W:=by kernel_rfl
theorem idxQ1 (W:World):(Instr.index 354 (.agg #[.int .i64 16,.int .i64 12,.int .i64 8,.int .i64 7]) (.int .i64 1)).run prog W=.ok (.agg #[.int .i64 8,.int .i64 7]) W:=by kernel_rfl
theorem quarterF_any (w:World) (q:Q4) (hq:q.ok) :
  Cl 270 #[.int .u32 q.a,.int .u32 q.b,.int .u32 q.c,.int .u32 q.d] w fun e w'=>e=.returned (.tuple #[.int .u32 q.quarter.a,.int .u32 q.quarter.b,.int .u32 q.quarter.c,.int .u32 q.quarter.d])/\Kp NoB w w':=by
 have HQ:=Zz hq;have H0:=Zz (Kp.refl NoB w);clear hq;go_enter func270,ntmps270;go_wp2
 go_loopw [0,1,2,3,13,17] (fun s0 s1 s2 s3 _ s17 wr=>∃i:Nat,∃r:Q4,i<=2/\s17=.int .i64 i/\r.ok/\s0=.int .u32 r.a/\s1=.int .u32 r.b/\s2=.int .u32 r.c/\s3=.int .u32 r.d/\Hid (r=[q,q.step 16 12,q.quarter].getD i q)/\Hid (Kp NoB w wr)) (fun _ _ _ _ _ s17 _=>2-(intOf s17).toNat)
 case atStart=>exact ⟨0,q,by omega,rfl,HQ.o,rfl,rfl,rfl,rfl,Zz rfl,H0⟩
 case round =>
  obtain ⟨i,r,hi,rfl,hr,rfl,rfl,rfl,rfl,HR,HK⟩:=hrel;by_cases h2:i=2
  ·subst h2
   have Rc:r=q.quarter:=HR.o;have WD:=Zz Rc;clear Rc;go_wp2
   (try simp only[Exit.inBlock,Exit.then])
   refine bodyPost_ret (results_tmp4 rfl _ _ _) rfl ?_;exact ⟨by rw[WD.o];rfl,HK.o⟩
  ·have h1:i=0\/i=1:=by omega
   rcases h1 with rfl|rfl
   ·obtain ⟨h1,h2,h3,h4⟩:=hr
    have k0:=idxQ wr;have HS:Hid (r.step 16 12=⟨(r.a+r.b) % 4294967296,rol (r.b ^^^ ((r.c+rol (r.d ^^^ ((r.a+r.b) % 4294967296)) 16) % 4294967296)) 12,(r.c+rol (r.d ^^^ ((r.a+r.b) % 4294967296)) 16) % 4294967296,rol (r.d ^^^ ((r.a+r.b) % 4294967296)) 16⟩):=Zz rfl;have iX:=Zz (Q4.step_ok (q:=r) ⟨h1,h2,h3,h4⟩ 16 12)
    have HA:Hid (r=[q,q.step 16 12,q.quarter].getD 0 q->r.step 16 12=[q,q.step 16 12,q.quarter].getD 1 q):=Zz fun e=>by rw[e];rfl
    go_wp2_with fail
    have e1:((r.a:Int)+(r.b:Int)) % 4294967296=(((r.a+r.b) % 4294967296:Nat):Int):=by omega
    have hA:(r.a+r.b) % 4294967296<4294967296:=q_z _ (by decide);rw[e1] at *;clear e1;generalize (r.a+r.b) % 4294967296=A at *;rw[x_k r.d A h4 hA];refine (v_t (r.d ^^^ A) 16 16 rfl (xlt h4 hA) (by decide) _).mono ?_;rintro e w' ⟨rfl,rfl⟩;have hD:=z_8 (n:=16) (xlt h4 hA);generalize rol (r.d ^^^ A) 16=D at *;go_wp2_with fail
    have e2:((r.c:Int)+(D:Int)) % 4294967296=(((r.c+D) % 4294967296:Nat):Int):=by omega
    have hC:(r.c+D) % 4294967296<4294967296:=q_z _ (by decide);rw[e2] at *;clear e2;generalize (r.c+D) % 4294967296=C at *;rw[x_k r.b C h2 hC];refine (v_t (r.b ^^^ C) 12 12 rfl (xlt h2 hC) (by decide) _).mono ?_;rintro e w' ⟨rfl,rfl⟩;have hB:=z_8 (n:=12) (xlt h2 hC);generalize rol (r.b ^^^ C) 12=B at *;go_wp2;go_roundw
    case rel=>exact ⟨1,r.step 16 12,by omega,rfl,iX.o,by rw[HS.o],by rw[HS.o],by rw[HS.o],by rw[HS.o],Zz (HA.o HR.o),Zz (HK.o.alloc _)⟩
    case measure=>simp[intOf]
   ·obtain ⟨h1,h2,h3,h4⟩:=hr
    have k0:=idxQ1 wr;have HS:Hid (r.step 8 7=⟨(r.a+r.b) % 4294967296,rol (r.b ^^^ ((r.c+rol (r.d ^^^ ((r.a+r.b) % 4294967296)) 8) % 4294967296)) 7,(r.c+rol (r.d ^^^ ((r.a+r.b) % 4294967296)) 8) % 4294967296,rol (r.d ^^^ ((r.a+r.b) % 4294967296)) 8⟩):=Zz rfl;have iX:=Zz (Q4.step_ok (q:=r) ⟨h1,h2,h3,h4⟩ 8 7)
    have HA:Hid (r=[q,q.step 16 12,q.quarter].getD 1 q->r.step 8 7=[q,q.step 16 12,q.quarter].getD 2 q):=Zz fun e=>by rw[e];rfl
    go_wp2_with fail
    have e1:((r.a:Int)+(r.b:Int)) % 4294967296=(((r.a+r.b) % 4294967296:Nat):Int):=by omega
    have hA:(r.a+r.b) % 4294967296<4294967296:=q_z _ (by decide);rw[e1] at *;clear e1;generalize (r.a+r.b) % 4294967296=A at *;rw[x_k r.d A h4 hA];refine (v_t (r.d ^^^ A) 8 8 rfl (xlt h4 hA) (by decide) _).mono ?_;rintro e w' ⟨rfl,rfl⟩;have hD:=z_8 (n:=8) (xlt h4 hA);generalize rol (r.d ^^^ A) 8=D at *;go_wp2_with fail
    have e2:((r.c:Int)+(D:Int)) % 4294967296=(((r.c+D) % 4294967296:Nat):Int):=by omega
    have hC:(r.c+D) % 4294967296<4294967296:=q_z _ (by decide);rw[e2] at *;clear e2;generalize (r.c+D) % 4294967296=C at *;rw[x_k r.b C h2 hC];refine (v_t (r.b ^^^ C) 7 7 rfl (xlt h2 hC) (by decide) _).mono ?_;rintro e w' ⟨rfl,rfl⟩;have hB:=z_8 (n:=7) (xlt h2 hC);generalize rol (r.b ^^^ C) 7=B at *;go_wp2;go_roundw
    case rel=>exact ⟨2,r.step 8 7,by omega,rfl,iX.o,by rw[HS.o],by rw[HS.o],by rw[HS.o],by rw[HS.o],Zz (HA.o HR.o),Zz (HK.o.alloc _)⟩
    case measure=>simp[intOf]
def qtr (X:List Nat) (a b c d:Nat):List Nat :=
 let q:=Q4.quarter ⟨X.getD a 0,X.getD b 0,X.getD c 0,X.getD d 0⟩
 (((X.set a q.a).set b q.b).set c q.c).set d q.d
theorem quarter_any (w:World) (p:Nat) (X:List Nat) (hX:X.length=16) (DE:W32 X) (a b c d:Nat) (WE:a<16) (mr:b<16) (xN:c<16) (WF:d<16) (HP:Blk w p 345 (uv X).toArray) :
  Cl 267 #[.pointer (some ⟨p,0,none⟩),.int .i64 a,.int .i64 b,.int .i64 c,.int .i64 d] w fun e w'=>e=.returned (.tuple #[])/\Blk w' p 345 (uv (qtr X a b c d)).toArray/\Kp (·=p) w w':=by
 have cM:=Zz HP.drew;have bZ:=Zz ((Kp.refl NoB w).drew);clear HP;go_enter func267,ntmps267
 have hA:(a:Int)<16:=by omega
 have hB:(b:Int)<16:=by omega
 have hC:(c:Int)<16:=by omega
 have hD:(d:Int)<16:=by omega
 have ha:=z_E cM.o a (by omega);have hb:=z_E cM.o b (by omega);have hc:=z_E cM.o c (by omega);have hd:=z_E cM.o d (by omega);have HQ:Hid (qtr X a b c d=(((X.set a (Q4.quarter ⟨X.getD a 0,X.getD b 0,X.getD c 0,X.getD d 0⟩).a).set b (Q4.quarter ⟨X.getD a 0,X.getD b 0,X.getD c 0,X.getD d 0⟩).b).set c (Q4.quarter ⟨X.getD a 0,X.getD b 0,X.getD c 0,X.getD d 0⟩).c).set d (Q4.quarter ⟨X.getD a 0,X.getD b 0,X.getD c 0,X.getD d 0⟩).d):=Zz rfl;have iX:Hid (Q4.ok ⟨X.getD a 0,X.getD b 0,X.getD c 0,X.getD d 0⟩):=Zz ⟨DE a,DE b,DE c,DE d⟩;have iA:=Zz hX;clear DE hX;generalize X.getD a 0=xa at *;generalize X.getD b 0=xb at *;generalize X.getD c 0=xc at *;generalize X.getD d 0=xd at *;refine fs ?_;generalize w.drew=w0 at *;refine fp 0 ?_;refine fp 1 ?_;refine fp 2 ?_;refine fp 3 ?_;refine fp 4 ?_;refine fp 5 ?_;refine fp 6 ?_;refine fp 7 ?_;refine fp 8 ?_;refine fp 9 ?_;refine fp 10 ?_;refine fp 11 ?_;refine fp 13 ?_;refine fp 14 ?_;refine fp 15 ?_;refine fp 16 ?_;refine fp 18 ?_;refine fp 19 ?_;refine fp 20 ?_;refine fp 21 ?_;refine fp 23 ?_;refine fp 24 ?_;refine fp 25 ?_;refine fp 26 ?_;refine fp 34 ?_;refine fp 37 ?_;refine fp 40 ?_;refine fp 43 ?_;refine f_c 12 ha ?_;refine f_c 17 hb ?_;refine f_c 22 hc ?_;refine f_c 27 hd ?_;refine fd 28 fun K Qx hK=>?_;go_simp;refine (quarterF_any _ ⟨xa,xb,xc,xd⟩ iX.o).mono ?_;rintro e w1 ⟨rfl,hk⟩;refine hK _ _ (oW (oW (oW (oW oN)))) ?_;clear hK K;have HB:=Zz (cM.o.kp hk fun h=>h);have HK:Hid (Kp (·=p) w w1):=Zz ((bZ.o.trans hk).mono fun _ _ h=>h.elim);clear hk ha hb hc hd;generalize (Q4.quarter ⟨xa,xb,xc,xd⟩).a=qa at *;generalize (Q4.quarter ⟨xa,xb,xc,xd⟩).b=qb at *;generalize (Q4.quarter ⟨xa,xb,xc,xd⟩).c=qc at *;generalize (Q4.quarter ⟨xa,xb,xc,xd⟩).d=qd at *;refine fp 29 ?_;refine fp 30 ?_;refine fp 31 ?_;refine fp 32 ?_;refine fp 33 ?_;refine fp 35 ?_;have ga:=z_E HB.o a (by (try simp only[q_k]);rw[iA.o];omega);generalize ((_:List Nat).getD a 0)=olda at ga;have za:=HB.o.frozen a;refine fd 36 fun K Qx hK=>?_;go_simp;refine hK _ _ (oW (oW (oW (oW oN)))) ?_;clear hK K ga za;have am:=Zz (x_I HB.o a qa);have ag:=Zz (HK.o.setCell ⟨p,a,none⟩ (.int .u32 (qa:Nat)) (.inl rfl));clear HB HK;obtain ⟨HB,HK⟩:=And.intro am ag;clear am ag;generalize w1.setCell ⟨p,a,none⟩ (.int .u32 (qa:Nat))=w1 at *;refine fp 38 ?_;have gb:=z_E HB.o b (by (try simp only[q_k]);rw[iA.o];omega);generalize ((_:List Nat).getD b 0)=oldb at gb;have zb:=HB.o.frozen b;refine fd 39 fun K Qx hK=>?_;go_simp;refine hK _ _ (oW (oW (oW (oW oN)))) ?_;clear hK K gb zb;have am:=Zz (x_I HB.o b qb);have ag:=Zz (HK.o.setCell ⟨p,b,none⟩ (.int .u32 (qb:Nat)) (.inl rfl));clear HB HK;obtain ⟨HB,HK⟩:=And.intro am ag;clear am ag;generalize w1.setCell ⟨p,b,none⟩ (.int .u32 (qb:Nat))=w1 at *;refine fp 41 ?_;have gc:=z_E HB.o c (by (try simp only[q_k]);rw[iA.o];omega);generalize ((_:List Nat).getD c 0)=oldc at gc;have zc:=HB.o.frozen c;refine fd 42 fun K Qx hK=>?_;go_simp;refine hK _ _ (oW (oW (oW (oW oN)))) ?_;clear hK K gc zc;have am:=Zz (x_I HB.o c qc);have ag:=Zz (HK.o.setCell ⟨p,c,none⟩ (.int .u32 (qc:Nat)) (.inl rfl));clear HB HK;obtain ⟨HB,HK⟩:=And.intro am ag;clear am ag;generalize w1.setCell ⟨p,c,none⟩ (.int .u32 (qc:Nat))=w1 at *;refine fp 44 ?_;have gd:=z_E HB.o d (by (try simp only[q_k]);rw[iA.o];omega);generalize ((_:List Nat).getD d 0)=oldd at gd;have zd:=HB.o.frozen d;refine fd 45 fun K Qx hK=>?_;go_simp;refine hK _ _ (oW (oW (oW (oW oN)))) ?_
 clear hK K gd zd;have am:=Zz (x_I HB.o d qd);have ag:=Zz (HK.o.setCell ⟨p,d,none⟩ (.int .u32 (qd:Nat)) (.inl rfl));clear HB HK;obtain ⟨HB,HK⟩:=And.intro am ag;clear am ag;generalize w1.setCell ⟨p,d,none⟩ (.int .u32 (qd:Nat))=w1 at *;refine fe ?_
 go_end0
 exact ⟨rfl,by rw[HQ.o];exact HB.o,HK.o⟩
def chS (key nonce:List UInt8) (dh:Nat):List Nat:=y_k ([101,120,112,97,110,100,32,51,50,45,98,121,116,101,32,107]++key)++[dh]++y_k nonce
def colR (X:List Nat):Nat->List Nat
 | 0=>X
 | i+1=>qtr (colR X i) i (i+4) (i+8) (i+12)
def diaR (X:List Nat):Nat->List Nat
 | 0=>X
 | i+1=>qtr (diaR X i) i (4+(i+1) % 4) (8+(i+2) % 4) (12+(i+3) % 4)
def dblR (X:List Nat):Nat->List Nat
 | 0=>X
 | i+1=>diaR (colR (dblR X i) 4) 4
def x_J (X Y:List Nat) (n:Nat):List Nat:=(List.range 16).map fun j=>if j<n then (X.getD j 0+Y.getD j 0) % 4294967296 else X.getD j 0
def z_1 (key nonce:List UInt8) (dh:Nat):List UInt8:=leL (x_J (dblR (chS key nonce dh) 10) (chS key nonce dh) 16)
theorem qtr_len {X:List Nat} (h:X.length=16) (a b c d:Nat):(qtr X a b c d).length=16:=by simp[qtr,h]
theorem Q4.quarter_ok {q:Q4} (h:q.ok):q.quarter.ok:=Q4.step_ok (Q4.step_ok h _ _) _ _
theorem qtr_lt {X:List Nat} (h:W32 X) (a b c d:Nat):W32 (qtr X a b c d):=by
 have hq:=Q4.quarter_ok (q:=⟨X.getD a 0,X.getD b 0,X.getD c 0,X.getD d 0⟩) ⟨h a,h b,h c,h d⟩;exact (((h.set _ _ hq.1).set _ _ hq.2.1).set _ _ hq.2.2.1).set _ _ hq.2.2.2
theorem colR_len {X:List Nat} (h:X.length=16) (n:Nat):(colR X n).length=16:=by
 induction n with
 | zero=>exact h
 | succ n ih=>exact qtr_len ih _ _ _ _
theorem colR_lt {X:List Nat} (h:W32 X) (n:Nat):W32 (colR X n):=by
 induction n with
 | zero=>exact h
 | succ n ih=>exact qtr_lt ih _ _ _ _
theorem diaR_len {X:List Nat} (h:X.length=16) (n:Nat):(diaR X n).length=16:=by
 induction n with
 | zero=>exact h
 | succ n ih=>exact qtr_len ih _ _ _ _
theorem diaR_lt {X:List Nat} (h:W32 X) (n:Nat):W32 (diaR X n):=by
 induction n with
 | zero=>exact h
 | succ n ih=>exact qtr_lt ih _ _ _ _
theorem dblR_len {X:List Nat} (h:X.length=16) (n:Nat):(dblR X n).length=16:=by
 induction n with
 | zero=>exact h
 | succ n ih=>exact diaR_len (colR_len ih 4) 4
theorem dblR_lt {X:List Nat} (h:W32 X) (n:Nat):W32 (dblR X n):=by
 induction n with
 | zero=>exact h
 | succ n ih=>exact diaR_lt (colR_lt ih 4) 4
theorem w_Q (X Y:List Nat) (n:Nat):(x_J X Y n).length=16:=by simp[x_J]
theorem addS_at {X Y:List Nat} {n j:Nat} (hj:j<16):(x_J X Y n).getD j 0=if j<n then (X.getD j 0+Y.getD j 0) % 4294967296 else X.getD j 0:=by
 unfold x_J;rw[q_a,q_j,q_n hj];rfl
theorem addS_zero {X:List Nat} (hX:X.length=16) (Y:List Nat):x_J X Y 0=X:=by
 refine q_G fun j=>?_;unfold x_J;rw[q_j];rcases Nat.lt_or_ge j 16 with h|h
 ·rw[q_n h,q_d (by omega)];simp[q_a,hX,h]
 ·rw[q_q (by simpa using h),q_q (by omega)];rfl
theorem addS_set {X Y:List Nat} {i:Nat} (hi:i<16):(x_J X Y i).set i ((X.getD i 0+Y.getD i 0) % 4294967296)=x_J X Y (i+1):=by
 refine q_G fun j=>?_;rw[q_C];have hl:=w_Q X Y i;rcases Nat.lt_or_ge j 16 with h|h
 ·have h1:(x_J X Y i)[j]?=some ((x_J X Y i).getD j 0):=by rw[q_a,q_d (by omega)];rfl
  have h2:(x_J X Y (i+1))[j]?=some ((x_J X Y (i+1)).getD j 0):=by rw[q_a,q_d (by rw[w_Q];omega)];rfl
  rw[h1,h2,addS_at h,addS_at h];by_cases e:i=j
  ·subst e;rw[if_pos rfl,if_pos (by omega),if_pos (by omega)]
  ·rw[if_neg e]
   by_cases h3:j<i
   ·rw[if_pos h3,if_pos (by omega)]
   ·rw[if_neg h3,if_neg (by omega)]
 ·rw[if_neg (by omega),q_q (by omega),q_q (by rw[w_Q];omega)]
end Go.Proofs.YtdkheklakfbeeaaGreatDoor
