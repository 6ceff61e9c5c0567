/- Part 14 of the proof. -/
import Derived.Test.YtdkheklakfbeeaaGreatDoorM13
set_option linter.all false
set_option maxRecDepth 100000
set_option maxHeartbeats 16000000
namespace Go.Proofs.YtdkheklakfbeeaaGreatDoor
open Go.RowKit Tryz
def lsS (b:List Nat) (i:Nat):List Nat :=
 (b.set (i+1) ((b.getD (i+1) 0+b.getD i 0 / 67108864) % 18446744073709551616)).set i (b.getD i 0 &&& 67108863)
def lsI (b:List Nat):Nat->List Nat
 | 0=>b
 | i+1=>lsS (lsI b i) i
def lsB (B:List Nat):List Nat:=lsI (B.set 0 ((B.getD 0 0+5) % 18446744073709551616)) 4
def lsE (B b:List Nat):List Nat:=if b.getD 4 0 / 67108864=0 then B else b.set 4 (b.getD 4 0 &&& 67108863)
def lsF (A:List Nat):List Nat:=lsE (cyF (cyF A)) (lsB (cyF (cyF A)))
theorem lsI_len {b:List Nat} (h:b.length=5) (i:Nat):(lsI b i).length=5:=by
 induction i with
 | zero=>exact h
 | succ i ih=>simp[lsI,lsS,ih]
theorem lsI_lt {b:List Nat} (h:W64 b) (i:Nat):W64 (lsI b i):=by
 induction i with
 | zero=>exact h
 | succ i ih=>exact (ih.set _ _ (q_z _ (by decide))).set _ _ (Nat.lt_of_le_of_lt Nat.and_le_right (by decide))
theorem lsB_len {B:List Nat} (h:B.length=5):(lsB B).length=5:=lsI_len (by simp[h]) 4
theorem lsB_lt {B:List Nat} (h:W64 B):W64 (lsB B):=lsI_lt (h.set _ _ (q_z _ (by decide))) 4
theorem lsE_len {B b:List Nat} (h:B.length=5) (k:b.length=5):(lsE B b).length=5:=by unfold lsE;split<;>simp[h,k]
theorem lsF_len {A:List Nat} (h:A.length=5):(lsF A).length=5:=lsE_len (w_n (w_n h)) (lsB_len (w_n (w_n h)))
theorem cyE_lt {s:Nat × List Nat} (h:W64 s.2):W64 (cyE s) :=
 ((h.set _ _ (q_z _ (by decide))).set _ _ (q_z _ (by decide))).set _ _ (Nat.lt_of_le_of_lt Nat.and_le_right (by decide))
theorem w_6 {A:List Nat} (h:W64 A):W64 (cyF A):=cyE_lt (cyI_lt h 5)
theorem lsF_lt {A:List Nat} (h:W64 A):W64 (lsF A):=by
 unfold lsF lsE;split
 ·exact w_6 (w_6 h)
 ·exact (lsB_lt (w_6 (w_6 h))).set _ _ (Nat.lt_of_le_of_lt Nat.and_le_right (by decide))
theorem least_any (w:World) (p t:Nat) (A:List Nat) (hA:A.length=5) (ol:W64 A) (HP:Blk w p t (uq A).toArray) :
  Cl 263 #[.pointer (some ⟨p,0,none⟩)] w fun e w'=>e=.returned (.tuple #[])/\Blk w' p t (uq (lsF A)).toArray/\Kp (·=p) w w':=by
 have HB:=Zz HP;have sV:Hid (lsF A=lsE (cyF (cyF A)) (lsB (cyF (cyF A)))):=Zz rfl;have H1:=Zz (w_n hA);have H2:=Zz (w_n (w_n hA));have H3:=Zz (w_6 ol);have H4:=Zz (w_6 (w_6 ol));clear HP;generalize lsF A=R at *;go_enter func263,ntmps263;go_wp2_with fail;refine (carry_any _ p t A hA ol HB.o).mono ?_;rintro e w1 ⟨rfl,ay,aX⟩;have bh:=Zz ay;have aW:=Zz aX;clear ay aX HB;go_wp2_with fail;refine (carry_any _ p t (cyF A) H1.o H3.o bh.o).mono ?_;rintro e w2 ⟨rfl,am,ag⟩;have ak:=Zz am;have al:=Zz (aW.o.trans ag);clear am ag bh aW;generalize cyF (cyF A)=B at *
 have qo:(uq B).toArray.size=5:=by rw[q_y,x_c,H2.o]
 have aD:=all_uq B
 go_wp2_with (first
  | (refine wpList_load_row rfl 341 (.tmp 9) rfl p rfl t _ (0,0) _ ak.o underlying341 rfl (by rw[qo];exact x_z) ?_)
  | (refine wpList_store_row rfl 341 (.tmp 2) (.tmp 10) rfl w2.heap.size _ rfl rfl 341 _ (Blk.new w2 _ _) (by rw[qo];exact x_z) (by rw[qo];rfl) aD ?_;go_must (
    have q:=Zz ((Blk.new w2 341 #[.int .u64 0,.int .u64 0,.int .u64 0,.int .u64 0,.int .u64 0]).setRow (cs':=(uq B).toArray));have kp:=Zz ((al.o.alloc (.cells #[.int .u64 0,.int .u64 0,.int .u64 0,.int .u64 0,.int .u64 0] 341)).setRow w2.heap.size (uq B).toArray (.inr al.o.size));have hb:=Zz ((ak.o.alloc (.cells #[.int .u64 0,.int .u64 0,.int .u64 0,.int .u64 0,.int .u64 0] 341)).farRow (g:=w2.heap.size) (cs':=(uq B).toArray) (q_E ak.o.lt));have bQ:=Zz ak.o.lt;have aj:=al.o.size;obtain ⟨G,hG⟩:∃G,w2.heap.size=G:=⟨_,rfl⟩;obtain ⟨w3,uP⟩:∃w3,(w2.alloc (.cells #[.int .u64 0,.int .u64 0,.int .u64 0,.int .u64 0,.int .u64 0] 341)).setRow w2.heap.size (uq B).toArray=w3:=⟨_,rfl⟩;rw[uP] at q kp hb ⊢;rw[hG] at q bQ aj ⊢;have b6:=Zz aj;clear uP hG aj;have c0:=z_F q.o 0 (by rw[H2.o];decide);have fz:=q.o.frozen 0;obtain ⟨v,hv⟩:∃v,(B.getD 0 0+5) % 18446744073709551616=v:=⟨_,rfl⟩;have HV:=Zz hv;generalize eO:B.getD 0 0=x at *;have iK:=Zz eO;clear eO
    have hs:IntKind.u64.wrap ((x:Int)+5)=(v:Int):=by rw[q_s];omega
    clear hv))
  | fail)
 have aR:Hid (Blk (w3.setCell ⟨G,0,none⟩ (.int .u64 v)) G 341 (uq (lsI (B.set 0 v) 0)).toArray):=Zz (y_E q.o 0 v);have IH:=Zz (hb.o.far (p:=⟨G,0,none⟩) (q_E bQ.o) (.int .u64 v));have DL:=Zz (kp.o.setCell ⟨G,0,none⟩ (.int .u64 v) (.inr b6.o))
 have WN:(B.set 0 v).length=5:=by rw[q_k,H2.o]
 have xF:W64 (B.set 0 v):=H4.o.set _ _ (by rw[<-HV.o];exact q_z _ (by decide));have pF:Hid (lsB B=lsI (B.set 0 v) 4):=Zz (by unfold lsB;rw[show B.getD 0 0=x from iK.o,HV.o]);clear q kp hb c0 fz hs;generalize w3.setCell ⟨G,0,none⟩ (.int .u64 v)=w4 at *;generalize B.set 0 v=b at *
 go_loopw [3,15] (fun _ s15 wr=>∃i:Nat,i<=4/\s15=.int .i64 i/\Hid (Blk wr G 341 (uq (lsI b i)).toArray)/\Hid (Blk wr p t (uq B).toArray)/\Hid (Kp (·=p) w wr)) (fun _ s15 _=>4-(intOf s15).toNat)
 case atStart=>exact ⟨0,by omega,rfl,aR,IH,DL⟩
 case round =>
  clear aR IH DL;obtain ⟨i,hi,rfl,HG,HB,HK⟩:=hrel;by_cases af:i<4
  ·have bt:(i:Int)<4:=by omega
   have ib:=lsI_len WN i;have qe:=Zz (lsI_lt xF i);have Bl:Hid (lsI b (i+1)=((lsI b i).set (i+1) (((lsI b i).getD (i+1) 0+(lsI b i).getD i 0 / 67108864) % 18446744073709551616)).set i ((lsI b i).getD i 0 &&& 67108863)):=Zz rfl;have c0:=z_F HG.o i (by rw[ib];omega);have c1:=z_F HG.o (i+1) (by rw[ib];omega);have fz:=HG.o.frozen (i+1);have ii:=qe.o i;generalize lsI b i=L at *;obtain ⟨n,hn⟩:∃n,i+1=n:=⟨_,rfl⟩
   have Cn:(i:Int)+1=(n:Int):=by omega
   have WM:(n:Int)<5:=by omega
   have hi5:(i:Int)<5:=by omega
   have Wx:IntKind.i64.wrap (n:Int)=(n:Int):=by rw[q_r];omega
   have HN:=Zz hn;rw[hn] at c1 fz;clear hn;generalize eO:L.getD i 0=x0 at *;have HX:=Zz eO;clear eO;obtain ⟨u,hu⟩:∃u,(L.getD n 0+x0 / 67108864) % 18446744073709551616=u:=⟨_,rfl⟩;have HU:=Zz hu;generalize hy:L.getD n 0=y at *;have HY:=Zz hy;clear hy
   have nt:IntKind.u64.wrap ((y:Int)+(x0:Int) / 67108864)=(u:Int):=by rw[q_s];omega
   clear hu;have d0:wr.drew.cell? ⟨G,i,none⟩=_:=c0;have d1:wr.drew.cell? ⟨G,n,none⟩=_:=c1;have dz:wr.drew.frozen? ⟨G,n,none⟩=_:=fz
   go_upto_region 7 with fail
   go_still_tail 9,(by kernel_rfl)
   go_upto_region 8 with fail
   have nS:=Zz (y_E HG.o n u).drew;have aY:=Zz (HB.o.far (p:=⟨G,n,none⟩) (q_E bQ.o) (.int .u64 u)).drew;have ax:=Zz (HK.o.setCell ⟨G,n,none⟩ (.int .u64 u) (.inr b6.o)).drew;clear d0 d1 dz c0 c1 fz HG HB HK nt;generalize (wr.setCell ⟨G,n,none⟩ (.int .u64 u)).drew=w5 at *;have c0:=z_F nS.o i (by rw[q_k,ib];omega);rw[show (L.set n u).getD i 0=x0 by rw[q_a,q_C,if_neg (by have:=HN.o;omega),<-q_a];exact HX.o] at c0;have fz:=nS.o.frozen i;have gq:bits .and .u64 (x0:Int) 67108863=((x0 &&& 67108863:Nat):Int):=and64 x0 67108863 ii (by decide);have bl:Hid (Blk (w5.setCell ⟨G,i,none⟩ (.int .u64 (x0 &&& 67108863:Nat))) G 341 (uq (lsI b (i+1))).toArray):=Zz (by rw[Bl.o,HN.o,HY.o,HU.o];exact y_E nS.o i _);have IH:=Zz (aY.o.far (p:=⟨G,i,none⟩) (q_E bQ.o) (.int .u64 (x0 &&& 67108863:Nat)));have DL:=Zz (ax.o.setCell ⟨G,i,none⟩ (.int .u64 (x0 &&& 67108863:Nat)) (.inr b6.o));generalize x0 &&& 67108863=m at *;clear ib ii nS aY ax;have HI:Hid ((n:Int)=((i+1:Nat):Int)/\i+1<=4):=Zz (by have:=HN.o;omega);go_wp2;go_roundw
   case rel=>exact ⟨i+1,HI.o.2,by rw[<-HI.o.1],bl,IH,DL⟩
   case measure=>simp[intOf];omega
  ·obtain rfl:i=4:=by omega
   have Md:Hid (lsI b 4=lsB B):=Zz pF.o.symm;rw[Md.o] at HG;have ib:=lsB_len H2.o;have af:=(lsB_lt H4.o) 4;have HE:Hid (R=if (lsB B).getD 4 0 / 67108864=0 then B else (lsB B).set 4 ((lsB B).getD 4 0 &&& 67108863)):=Zz sV.o;generalize lsB B=L at *;have c4:=z_F HG.o 4 (by rw[ib];decide);have fz:=HG.o.frozen 4;have WO:=HB.o.lt;obtain ⟨x,hx⟩:∃x,L.getD 4 0=x:=⟨_,rfl⟩;have HX:=Zz hx;rw[hx] at c4 af;clear hx;rw[HX.o] at HE;by_cases h0:x / 67108864=0
   ·have WP:(x:Int) / 67108864=0:=by omega
    have bm:R=B:=by rw[HE.o,if_pos h0]
    clear h0 HE;go_wp2
    go_end0
    exact ⟨rfl,by rw[bm];exact HB.o,HK.o⟩
   ·have WP:¬(x:Int) / 67108864=0:=by omega
    have bm:R=L.set 4 (x &&& 67108863):=by rw[HE.o,if_neg h0]
    have HR:=Zz bm;clear bm h0 HE;have gq:bits .and .u64 (x:Int) 67108863=((x &&& 67108863:Nat):Int):=and64 x 67108863 af (by decide);have nS:Hid (Blk (wr.setCell ⟨G,4,none⟩ (.int .u64 (x &&& 67108863:Nat))) G 341 (uq R).toArray):=Zz (by rw[HR.o];exact y_E HG.o 4 _);have aY:=Zz (HB.o.far (p:=⟨G,4,none⟩) (q_E bQ.o) (.int .u64 (x &&& 67108863:Nat)));have ax:=Zz (HK.o.setCell ⟨G,4,none⟩ (.int .u64 (x &&& 67108863:Nat)) (.inr b6.o))
    have aj:(uq R).toArray.size=5:=by rw[HR.o,q_y,x_c,q_k,ib]
    have qo:(uq B).toArray.size=5:=by rw[q_y,x_c,H2.o]
    have qn:=all_uq R;generalize x &&& 67108863=m at *
    go_wp2_with (first
     | (refine wpList_load_row rfl 341 (.tmp 2) rfl G rfl 341 _ (0,0) _ nS.o underlying341 rfl (by rw[aj];exact x_z) ?_)
     | (refine wpList_store_row rfl 341 (.tmp 44) (.tmp 43) rfl p _ rfl rfl t _ aY.o (by rw[aj];exact x_z) (by rw[aj,qo]) qn ?_))
    go_end0
    exact ⟨rfl,aY.o.setRow,ax.o.setRow p _ (.inl rfl)⟩
def ofW (a b c d above:Nat):List Nat:=[a &&& 67108863,(a / 67108864 ||| b*64) &&& 67108863,(b / 1048576 ||| c*4096) &&& 67108863,(c / 16384 ||| d*262144) &&& 67108863,d / 256 ||| above*16777216]
def ofF (l:List UInt8) (above:Nat):List Nat:=ofW ((y_k l).getD 0 0) ((y_k l).getD 1 0) ((y_k l).getD 2 0) ((y_k l).getD 3 0) above
theorem ofF_len (l:List UInt8) (n:Nat):(ofF l n).length=5:=rfl
theorem w_f {a b:Nat} (ha:a<18446744073709551616) (hb:b<18446744073709551616):a ||| b<18446744073709551616:=Nat.or_lt_two_pow (n:=64) ha hb
theorem and_lt64 (x:Nat):x &&& 67108863<18446744073709551616:=Nat.lt_of_le_of_lt Nat.and_le_right (by decide)
theorem x_t {x:Nat} {L:List Nat} (hx:x<18446744073709551616) (h:W64 L):W64 (x::L):=by
 intro i;rw[q_a]
 cases i with
 | zero=>rw[List.getElem?_cons_zero,Option.getD_some];exact hx
 | succ i=>rw[List.getElem?_cons_succ,<-q_a];exact h i
theorem w64_nil:W64 []:=by
 intro i;rw[q_a,List.getElem?_nil,Option.getD_none];decide
theorem ofW_lt {a b c d n:Nat} (hd:d<4294967296) (hn:n<=1):W64 (ofW a b c d n) :=
 x_t (and_lt64 _) (x_t (and_lt64 _) (x_t (and_lt64 _) (x_t (and_lt64 _) (x_t (w_f (by omega) (by omega)) w64_nil))))
theorem v_w (l:List UInt8) (i:Nat):(y_k l).getD i 0<4294967296:=by
 unfold y_k;rw[q_a,q_j]
 cases h:(List.range (l.length / 4))[i]? with
 | none=>rw[Option.map_none,Option.getD_none];decide
 | some j=>rw[Option.map_some,Option.getD_some];exact leW_lt l j
theorem ofF_lt (l:List UInt8) {n:Nat} (hn:n<=1):W64 (ofF l n):=ofW_lt (v_w l 3) hn
def ofI (L:List Nat) (i:Nat):List Nat:=(List.range 4).map fun j=>if j<i then L.getD j 0 else 0
theorem ofI_len (L:List Nat) (i:Nat):(ofI L i).length=4:=by simp[ofI]
theorem ofI_set (L:List Nat) (i:Nat) (h:i<4):(ofI L i).set i (L.getD i 0)=ofI L (i+1):=wds_set (fun j=>L.getD j 0) 4 i h
theorem zerosQ4:(#[.int .u64 0,.int .u64 0,.int .u64 0,.int .u64 0]:Array Value)=(uq (List.replicate 4 0)).toArray:=rfl
theorem ofI_zero (L:List Nat):ofI L 0=List.replicate 4 0:=rfl
theorem of_any (w:World) (l:List UInt8) (hl:l.length=16) (n:Nat) (hn:n<=1) :
  Cl 261 #[.string (bs l),.int .u64 n] w fun e w'=>e=.returned (.agg (uq (ofF l n)).toArray)/\Kp NoB w w':=by
 have HT:=Zz (fun W=>v_a W (bs l) (by rw[z_b];omega) (by rw[z_b];omega));have l9:=v_w l;have HF:Hid (ofF l n=ofW ((y_k l).getD 0 0) ((y_k l).getD 1 0) ((y_k l).getD 2 0) ((y_k l).getD 3 0) n):=Zz rfl
 have ib:(y_k l).length=4:=by simp[y_k,hl]
 simp only[z_Y] at HT;generalize y_k l=L at *;generalize ofF l n=R at *;go_enter func261,ntmps261
 go_upto_region 1 with fail
 have bh:=Zz (Blk.new w 341 (uq (List.replicate 5 0)).toArray);have aW:=Zz ((Kp.refl NoB w).alloc (.cells (uq (List.replicate 5 0)).toArray 341));rw[zerosQ5];generalize w.alloc (.cells (uq (List.replicate 5 0)).toArray 341)=w1 at *;go_wp2_with fail;refine (HT.o _).mono ?_;rintro e w2 ⟨v,rfl,ho,hb⟩;have HO:=Zz ho;have ak:=Zz (bh.o.below hb bh.o.lt);have al:=Zz (aW.o.trans (Kp.of_below hb _));obtain ⟨P,c,rfl,Di,rT,Dz⟩:=ho.form (by rw[z_l,ib];decide);rw[z_l,ib] at HO ⊢;clear hb ho bh aW;obtain ⟨G,hG⟩:∃G,w.heap.size=G:=⟨_,rfl⟩;rw[hG] at ak ⊢;have xU:=ak.o.lt;have cR:=Zz hG;clear hG
 go_upto_region 4 with fail
 have jN:=Zz (Blk.new w2 350 (uq (ofI L 0)).toArray);rw[zerosQ4,<-ofI_zero L];have iG:=Zz (HO.o.alloc (.cells (uq (ofI L 0)).toArray 350));have aJ:=Zz (ak.o.alloc (.cells (uq (ofI L 0)).toArray 350));have ar:=Zz (al.o.alloc (.cells (uq (ofI L 0)).toArray 350))
 have WQ:P≠w2.heap.size:=by omega
 have Me:G≠w2.heap.size:=by omega
 have om:w.heap.size<=w2.heap.size:=al.o.size;generalize w2.alloc (.cells (uq (ofI L 0)).toArray 350)=w3 at *;generalize w2.heap.size=K at *;clear HO ak al
 go_loopw [8,14] (fun _ s14 wr=>∃i:Nat,i<=4/\s14=.int .i64 i/\Hid (Blk wr K 350 (uq (ofI L i)).toArray)/\Hid (Own wr w1.heap.size 213 (.slice (some ⟨P,0,none⟩) 4 c) (uv L))/\Hid (Blk wr G 341 (uq (List.replicate 5 0)).toArray)/\Hid (Kp NoB w wr)) (fun _ s14 _=>4-(intOf s14).toNat)
 case atStart=>exact ⟨0,by omega,rfl,jN,iG,aJ,ar⟩
 case round =>
  clear jN iG aJ ar;obtain ⟨i,hi,rfl,HW,HO,HB,HK⟩:=hrel;by_cases af:i<4
  ·have bt:(i:Int)<4:=by omega
   have c0:=x_K HO.o ib i (by omega);have c1:=z_F HW.o i (by rw[ofI_len];exact af);have fz:=HW.o.frozen i;have hx:=l9 i;have HS:=Zz (ofI_set L i af);generalize L.getD i 0=x at *
   have Rj:(x:Int) % 18446744073709551616=(x:Int):=by omega
   have bl:Hid (Blk (wr.setCell ⟨K,i,none⟩ (.int .u64 x)) K 350 (uq (ofI L (i+1))).toArray):=Zz (by rw[<-HS.o];exact y_E HW.o i x);have qi:=Zz (HO.o.far (p:=⟨K,i,none⟩) (by simp[Value.ownBlock];exact WQ) (.int .u64 x));have bR:=Zz (HB.o.far (p:=⟨K,i,none⟩) Me (.int .u64 x));have az:=Zz (HK.o.setCell ⟨K,i,none⟩ (.int .u64 x) (.inr om));go_wp2;go_roundw
   case rel=>exact ⟨i+1,by omega,by go_num,bl,qi,bR,az⟩
   case measure=>simp[intOf];omega
  ·obtain rfl:i=4:=by omega
   have eO:=l9 0;have ew:=l9 1;have eN:=l9 2;have jx:=l9 3;have c0:=z_F HW.o 0 (by rw[ofI_len];decide);have c1:=z_F HW.o 1 (by rw[ofI_len];decide);have c2:=z_F HW.o 2 (by rw[ofI_len];decide);have c3:=z_F HW.o 3 (by rw[ofI_len];decide);rw[show (ofI L 4).getD 0 0=L.getD 0 0 from rfl] at c0;rw[show (ofI L 4).getD 1 0=L.getD 1 0 from rfl] at c1;rw[show (ofI L 4).getD 2 0=L.getD 2 0 from rfl] at c2;rw[show (ofI L 4).getD 3 0=L.getD 3 0 from rfl] at c3;generalize L.getD 0 0=x0 at *;generalize L.getD 1 0=x1 at *;generalize L.getD 2 0=x2 at *;generalize L.getD 3 0=x3 at *;have a0:bits .and .u64 (x0:Int) 67108863=((x0 &&& 67108863:Nat):Int):=and64 x0 67108863 (by omega) (by decide);have o1:bits .or .u64 ((x0:Int) / 67108864) ((x1:Int)*64)=((x0 / 67108864 ||| x1*64:Nat):Int):=or64 (x0 / 67108864) (x1*64) (by omega) (by omega);have o2:bits .or .u64 ((x1:Int) / 1048576) ((x2:Int)*4096)=((x1 / 1048576 ||| x2*4096:Nat):Int):=or64 (x1 / 1048576) (x2*4096) (by omega) (by omega);have o3:bits .or .u64 ((x2:Int) / 16384) ((x3:Int)*262144)=((x2 / 16384 ||| x3*262144:Nat):Int):=or64 (x2 / 16384) (x3*262144) (by omega) (by omega);have o4:bits .or .u64 ((x3:Int) / 256) ((n:Int)*16777216)=((x3 / 256 ||| n*16777216:Nat):Int):=or64 (x3 / 256) (n*16777216) (by omega) (by omega);have a1:bits .and .u64 ((x0 / 67108864 ||| x1*64:Nat):Int) 67108863=(((x0 / 67108864 ||| x1*64) &&& 67108863:Nat):Int):=and64 _ 67108863 (w_f (by omega) (by omega)) (by decide);have a2:bits .and .u64 ((x1 / 1048576 ||| x2*4096:Nat):Int) 67108863=(((x1 / 1048576 ||| x2*4096) &&& 67108863:Nat):Int):=and64 _ 67108863 (w_f (by omega) (by omega)) (by decide);have a3:bits .and .u64 ((x2 / 16384 ||| x3*262144:Nat):Int) 67108863=(((x2 / 16384 ||| x3*262144) &&& 67108863:Nat):Int):=and64 _ 67108863 (w_f (by omega) (by omega)) (by decide);have HR:Hid (R=[x0 &&& 67108863,(x0 / 67108864 ||| x1*64) &&& 67108863,(x1 / 1048576 ||| x2*4096) &&& 67108863,(x2 / 16384 ||| x3*262144) &&& 67108863,x3 / 256 ||| n*16777216]):=Zz HF.o;generalize x0 &&& 67108863=y0 at *;generalize x0 / 67108864 ||| x1*64=z1 at *;generalize z1 &&& 67108863=y1 at *;generalize x1 / 1048576 ||| x2*4096=z2 at *;generalize z2 &&& 67108863=y2 at *;generalize x2 / 16384 ||| x3*262144=z3 at *;generalize z3 &&& 67108863=y3 at *;generalize x3 / 256 ||| n*16777216=y4 at *;have aD:=all_uq R
   have aj:(uq R).toArray.size=5:=by rw[HR.o];rfl
   have fQ:(#[.int .u64 y0,.int .u64 y1,.int .u64 y2,.int .u64 y3,.int .u64 y4]:Array Value)=(uq R).toArray:=by rw[HR.o];rfl
   have Mf:=Zz fQ;clear fQ HF
   go_wp2_with (first
    | (refine wpList_store_row rfl 341 (.tmp 4) (.tmp 58) rfl G (uq R).toArray rfl (by rw[<-Mf.o];rfl) 341 _ HB.o (by rw[aj];exact x_z) (by rw[aj];rfl) aD ?_)
    | fail)
   (try simp only[Exit.inBlock,Exit.then])
   refine bodyPost_ret (x_f rfl rfl HB.o.setRow underlying341 rfl (by rw[aj];exact x_z)) rfl ?_;exact ⟨rfl,HK.o.setRow G _ (.inr (Nat.le_of_eq cR.o))⟩
def plW (A:List Nat):List Nat:=[A.getD 0 0 ||| A.getD 1 0*67108864 % 18446744073709551616,A.getD 1 0 / 64 ||| A.getD 2 0*1048576 % 18446744073709551616,A.getD 2 0 / 4096 ||| A.getD 3 0*16384 % 18446744073709551616,A.getD 3 0 / 262144 ||| A.getD 4 0*256 % 18446744073709551616]
def plS (W L:List Nat) (s:Nat × List Nat) (i:Nat):Nat × List Nat:=((s.1+((W.getD i 0 &&& 4294967295)+L.getD i 0)) / 4294967296,s.2.set i ((s.1+((W.getD i 0 &&& 4294967295)+L.getD i 0)) % 4294967296))
def plI (W L:List Nat):Nat->Nat × List Nat
 | 0=>(0,List.replicate 4 0)
 | i+1=>plS W L (plI W L i) i
def plF (A:List Nat) (l:List UInt8):List UInt8:=leL (plI (plW A) (y_k l) 4).2
theorem plI_len (W L:List Nat) (i:Nat):(plI W L i).2.length=4:=by
 induction i with
 | zero=>rfl
 | succ i ih=>simp[plI,plS,ih]
theorem plI_c {W L:List Nat} (hL:∀i,L.getD i 0<4294967296) (i:Nat):(plI W L i).1<4294967296:=by
 induction i with
 | zero=>show 0<_;decide
 | succ i ih =>
  have h1:W.getD i 0 &&& 4294967295<=4294967295:=Nat.and_le_right;have h2:=hL i;show (_+(_+_)) / 4294967296<_;omega
theorem plW_lt {A:List Nat} (h:W64 A):W64 (plW A) :=
 x_t (w_f (h 0) (q_z _ (by decide))) (x_t (w_f (Nat.lt_of_le_of_lt (Nat.div_le_self _ _) (h 1)) (q_z _ (by decide))) (x_t (w_f (Nat.lt_of_le_of_lt (Nat.div_le_self _ _) (h 2)) (q_z _ (by decide))) (x_t (w_f (Nat.lt_of_le_of_lt (Nat.div_le_self _ _) (h 3)) (q_z _ (by decide))) w64_nil)))
theorem plF_len (A:List Nat) (l:List UInt8):(plF A l).length=16:=by unfold plF;rw[v_g,plI_len]
theorem plus_any (w:World) (A:List Nat) (hA:A.length=5) (ol:W64 A) (l:List UInt8) (hl:l.length=16) :
  Cl 264 #[.agg (uq A).toArray,.string (bs l)] w fun e w'=>e=.returned (.string (bs (plF A l)))/\Kp NoB w w':=by
 have HT:=Zz (fun W=>v_a W (bs l) (by rw[z_b];omega) (by rw[z_b];omega));have l9:=v_w l;have HF:Hid (plF A l=leL (plI (plW A) (y_k l) 4).2):=Zz rfl
 have ib:(y_k l).length=4:=by simp[y_k,hl]
 have WR:=Zz (plW_lt ol);have ng:Hid (plW A=[A.getD 0 0 ||| A.getD 1 0*67108864 % 18446744073709551616,A.getD 1 0 / 64 ||| A.getD 2 0*1048576 % 18446744073709551616,A.getD 2 0 / 4096 ||| A.getD 3 0*16384 % 18446744073709551616,A.getD 3 0 / 262144 ||| A.getD 4 0*256 % 18446744073709551616]):=Zz rfl;have Mg:=Zz (show (uq A).toArray.size=5 by rw[q_y,x_c,hA]);simp only[z_Y] at HT;generalize y_k l=L at *;generalize plF A l=R at *;go_enter func264,ntmps264
 go_upto_region 1 with fail
 have bh:=Zz (Blk.new w 341 (uq A).toArray);have aW:=Zz ((Kp.refl NoB w).alloc (.cells (uq A).toArray 341));generalize w.alloc (.cells (uq A).toArray 341)=w1 at *;go_wp2_with fail;refine (HT.o _).mono ?_;rintro e w2 ⟨v,rfl,ho,hb⟩;have HO:=Zz ho;have ak:=Zz (bh.o.below hb bh.o.lt);have al:=Zz (aW.o.trans (Kp.of_below hb _));obtain ⟨P,c,rfl,Di,rT,Dz⟩:=ho.form (by rw[z_l,ib];decide);rw[z_l,ib] at HO ⊢;clear hb ho bh aW;obtain ⟨G,hG⟩:∃G,w.heap.size=G:=⟨_,rfl⟩;rw[hG] at ak ⊢;have xU:=ak.o.lt;have cR:=Zz hG;clear hG;have eO:=ol 0;have ew:=ol 1;have eN:=ol 2;have jx:=ol 3;have kH:=ol 4;have c0:=z_F ak.o 0 (by rw[hA];decide);have c1:=z_F ak.o 1 (by rw[hA];decide);have c2:=z_F ak.o 2 (by rw[hA];decide);have c3:=z_F ak.o 3 (by rw[hA];decide);have c4:=z_F ak.o 4 (by rw[hA];decide);generalize WT:plW A=W at *;generalize A.getD 0 0=x0 at *;generalize A.getD 1 0=x1 at *;generalize A.getD 2 0=x2 at *;generalize A.getD 3 0=x3 at *;generalize A.getD 4 0=x4 at *;have hW:=ng.o;clear ng WT;obtain ⟨z1,dv⟩:∃z,x1*67108864 % 18446744073709551616=z:=⟨_,rfl⟩;obtain ⟨z2,cX⟩:∃z,x2*1048576 % 18446744073709551616=z:=⟨_,rfl⟩;obtain ⟨z3,DM⟩:∃z,x3*16384 % 18446744073709551616=z:=⟨_,rfl⟩;obtain ⟨z4,A5⟩:∃z,x4*256 % 18446744073709551616=z:=⟨_,rfl⟩;rw[dv,cX,DM,A5] at hW
 have s1:IntKind.u64.wrap ((x1:Int)*67108864)=(z1:Int):=by rw[q_s];omega
 have s2:IntKind.u64.wrap ((x2:Int)*1048576)=(z2:Int):=by rw[q_s];omega
 have s3:IntKind.u64.wrap ((x3:Int)*16384)=(z3:Int):=by rw[q_s];omega
 have s4:IntKind.u64.wrap ((x4:Int)*256)=(z4:Int):=by rw[q_s];omega
 have o1:bits .or .u64 (x0:Int) (z1:Int)=((x0 ||| z1:Nat):Int):=or64 x0 z1 eO (by omega);have o2:bits .or .u64 ((x1:Int) / 64) (z2:Int)=((x1 / 64 ||| z2:Nat):Int):=or64 (x1 / 64) z2 (by omega) (by omega);have o3:bits .or .u64 ((x2:Int) / 4096) (z3:Int)=((x2 / 4096 ||| z3:Nat):Int):=or64 (x2 / 4096) z3 (by omega) (by omega);have o4:bits .or .u64 ((x3:Int) / 262144) (z4:Int)=((x3 / 262144 ||| z4:Nat):Int):=or64 (x3 / 262144) z4 (by omega) (by omega);clear dv cX DM A5;generalize x0 ||| z1=y0 at *;generalize x1 / 64 ||| z2=y1 at *;generalize x2 / 4096 ||| z3=y2 at *;generalize x3 / 262144 ||| z4=y3 at *;have HW:=Zz hW;clear hW
 go_upto_region 3 with fail
 have qr:(#[.int .u64 y0,.int .u64 y1,.int .u64 y2,.int .u64 y3]:Array Value)=(uq W).toArray:=by rw[HW.o];rfl
 rw[qr]
 have WU:W.length=4:=by rw[HW.o];rfl
 have jN:=Zz (Blk.new w2 350 (uq W).toArray);have iG:=Zz (HO.o.alloc (.cells (uq W).toArray 350));have ar:=Zz (al.o.alloc (.cells (uq W).toArray 350))
 have xP:(w2.alloc (.cells (uq W).toArray 350)).heap.size=w2.heap.size+1:=by simp
 have hKl:=al.o.size;generalize w2.alloc (.cells (uq W).toArray 350)=w3 at *;generalize w2.heap.size=K at *;have qe:=Zz xP;clear HO ak al c0 c1 c2 c3 c4 s1 s2 s3 s4 o1 o2 o3 o4 qr eO ew eN jx kH xP;have bK:(Instr.makeSlice 215 (.int .i64 4) (.int .i64 4)).run prog w3=.ok (.slice (some ⟨w3.heap.size,0,none⟩) 4 4) (w3.alloc (.cells (madeCells #[.int .u32 0] 4) 213)):=v_7 4 (by decide) w3;have cf:=Own.made_words w3 w3.heap.size 4 (q_e _) (by decide);have Mh:=Zz (jN.o.alloc (.cells (madeCells #[.int .u32 0] 4) 213));have gC:=Zz (iG.o.alloc (.cells (madeCells #[.int .u32 0] 4) 213));have xV:=Zz (ar.o.alloc (.cells (madeCells #[.int .u32 0] 4) 213));obtain ⟨w4,Ba⟩:∃w4,w3.alloc (.cells (madeCells #[.int .u32 0] 4) 213)=w4:=⟨_,rfl⟩;rw[Ba] at bK cf Mh gC xV;have Mi:Hid (Own w4 w3.heap.size 213 (.slice (some ⟨w3.heap.size,0,none⟩) 4 4) (uv (plI W L 0).2)):=Zz cf;have WV:w3.heap.size=K+1:=qe.o;rw[WV] at bK Mi;clear Ba cf jN iG ar qe
 go_upto_region 5 with fail
 clear bK
 go_loopw [9,10,45] (fun s9 _ s45 wr=>∃i:Nat,i<=4/\s45=.int .i64 i/\s9=.int .u64 ((plI W L i).1:Nat)/\Hid (Own wr (K+1) 213 (.slice (some ⟨K+1,0,none⟩) 4 4) (uv (plI W L i).2))/\Hid (Blk wr K 350 (uq W).toArray)/\Hid (Own wr w1.heap.size 213 (.slice (some ⟨P,0,none⟩) 4 c) (uv L))/\Hid (Kp NoB w wr)) (fun _ _ s45 _=>4-(intOf s45).toNat)
 case atStart=>exact ⟨0,by omega,rfl,rfl,Mi,Mh,gC,xV⟩
 case round =>
  clear Mi Mh gC xV;obtain ⟨i,hi,rfl,rfl,HU,HW,HO,HK⟩:=hrel;by_cases af:i<4
  ·have bt:(i:Int)<4:=by omega
   have c0:=x_K HO.o ib i (by omega);have c1:=z_F HW.o i (by rw[WU];exact af);have hc:=plI_c (W:=W) l9 i;have co:=plI_len W L i;have hx:=l9 i;have hy:=WR.o i;have HS:Hid (plI W L (i+1)=(((plI W L i).1+((W.getD i 0 &&& 4294967295)+L.getD i 0)) / 4294967296,(plI W L i).2.set i (((plI W L i).1+((W.getD i 0 &&& 4294967295)+L.getD i 0)) % 4294967296))):=Zz rfl;generalize (plI W L i).1=q at *;generalize (plI W L i).2=O at *;generalize L.getD i 0=x at *;generalize W.getD i 0=y at *;have gq:bits .and .u64 (y:Int) 4294967295=((y &&& 4294967295:Nat):Int):=and64 y 4294967295 hy (by decide);have hm:y &&& 4294967295<=4294967295:=Nat.and_le_right;generalize y &&& 4294967295=m at *
   have aN:IntKind.u64.wrap (x:Int)=(x:Int):=by rw[q_s];omega
   have fi:IntKind.u64.wrap ((m:Int)+(x:Int))=((m+x:Nat):Int):=by rw[q_s];omega
   have eP:m+x<8589934592:=by omega
   generalize m+x=s at *
   have uP:IntKind.u64.wrap ((q:Int)+(s:Int))=((q+s:Nat):Int):=by rw[q_s];omega
   have jP:q+s<17179869184:=by omega
   generalize q+s=r at *;have d0:wr.drew.cell? ⟨P,i,none⟩=_:=c0;have d1:wr.drew.cell? ⟨K,i,none⟩=_:=c1;have Bp:=Zz HU.o.drew;have dR:=Zz HW.o.drew;have pa:=Zz HO.o.drew;have aW:=Zz HK.o.drew
   go_upto_region 7 with fail
   go_still (by kernel_rfl)
   change Exit.then _ _ _ _ wr.drew;clear c0 c1 d0 d1 HU HW HO HK aN fi uP;generalize wr.drew=w5 at *;have cu:=x_K Bp.o co i (by omega);have fz:=Bp.o.frozen i;have bl:Hid (Own (w5.setCell ⟨K+1,i,none⟩ (.int .u32 (r % 4294967296:Nat))) (K+1) 213 (.slice (some ⟨K+1,0,none⟩) 4 4) (uv (plI W L (i+1)).2)):=Zz (by rw[HS.o];exact own_uset Bp.o co i _);have fK:Hid ((plI W L (i+1)).1=r / 4294967296):=Zz (by rw[HS.o]);have WW:=Zz (dR.o.far (p:=⟨K+1,i,none⟩) (by show K≠K+1;omega) (.int .u32 (r % 4294967296:Nat)));have kA:=Zz (pa.o.far (p:=⟨K+1,i,none⟩) (by simp[Value.ownBlock];omega) (.int .u32 (r % 4294967296:Nat)));have al:=Zz (aW.o.setCell ⟨K+1,i,none⟩ (.int .u32 (r % 4294967296:Nat)) (.inr (by show _<=K+1;omega)));clear HS Bp dR pa aW
   have WX:IntKind.u32.wrap (r:Int)=((r % 4294967296:Nat):Int):=by rw[IntKind.wrap_u32];omega
   have WY:(r:Int) / 4294967296=((r / 4294967296:Nat):Int):=by omega
   generalize r % 4294967296=rm at *;generalize r / 4294967296=rd at *;go_wp2;go_roundw
   case rel=>exact ⟨i+1,by omega,by go_num,by rw[fK.o],bl,WW,kA,al⟩
   case measure=>simp[intOf];omega
  ·obtain rfl:i=4:=by omega
   have DN:=HU.o.reads;have mc:=Zz (fun W' h=>w_O W' (.slice (some ⟨K+1,0,none⟩) 4 4) (plI W L 4).2 h (by rw[plI_len];decide));rw[<-HF.o] at mc;go_wp2_with fail;refine (mc.o _ DN).mono ?_;rintro e w6 ⟨rfl,eB⟩;go_wp2;go_ret;exact ⟨rfl,HK.o.trans (Kp.of_below eB _)⟩
theorem z_T.kp {S:Nat->Prop} {w w':World} {g av:Nat} {l:List UInt8} (h:z_T w g l av) (hb:Kp S w w') (hg:¬S g):z_T w' g l av:=by
 have af:=h.lt;obtain ⟨h1,h2,cs,fr,hh,rest⟩:=h;exact ⟨h1,h2,cs,fr,(hb.block g af hg).trans hh,rest⟩
def clB (i:Nat) (x:UInt8):UInt8:=if i % 4=3 then x &&& 15 else if i % 4=0/\0<i then x &&& 252 else x
def clI (l:List UInt8) (i:Nat):List UInt8:=(List.range l.length).map fun j=>if j<i then clB j (l.getD j 0) else l.getD j 0
def clF (l:List UInt8):List UInt8:=clI l l.length
theorem clI_len (l:List UInt8) (i:Nat):(clI l i).length=l.length:=by simp[clI]
theorem clF_len (l:List UInt8):(clF l).length=l.length:=clI_len l _
theorem clI_at (l:List UInt8) (i j:Nat) (hj:j<l.length):(clI l i).getD j 0=if j<i then clB j (l.getD j 0) else l.getD j 0:=by
 unfold clI;rw[q_a,q_j,q_n hj];rfl
theorem clI_zero (l:List UInt8):clI l 0=l:=by
 refine q_m (by simp[clI]) fun j h1 h2=>?_;simp[clI,q_a,h2]
theorem clI_set (l:List UInt8) (i:Nat) (hi:i<l.length):(clI l i).set i (clB i (l.getD i 0))=clI l (i+1):=by
 refine q_m (by simp[clI]) fun j h1 h2=>?_;rw[List.getElem_set];by_cases e:i=j
 ·subst e;rw[if_pos rfl];simp[clI]
 ·rw[if_neg e]
  have:(j<i)=(j<i+1):=by rw[eq_iff_iff];omega
  simp only[clI,List.getElem_map,List.getElem_range,this]
theorem clI_skip (l:List UInt8) (i:Nat) (hi:i<l.length) (h:clB i (l.getD i 0)=l.getD i 0):clI l i=clI l (i+1):=by
 rw[<-clI_set l i hi,h];refine q_m (by simp) fun j h1 h2=>?_;rw[List.getElem_set];by_cases e:i=j
 ·subst e;rw[if_pos rfl];simp[clI]
 ·rw[if_neg e]
theorem and8 (a b:UInt8):bits .and .u8 (a.toNat:Int) (b.toNat:Int)=((a &&& b).toNat:Int):=by
 rw[UInt8.toNat_and];exact (bits_nat .u8 8 (by decide) wraps_u8 a.toNat b.toNat (y_C a) (y_C b)).1
theorem clamp_any (w:World) (l:List UInt8) (hl:l.length=16) :
  Cl 260 #[.string (bs l)] w fun e w'=>e=.returned (.tuple #[.string (bs (clF l)),.int .i64 0])/\Kp NoB w w':=by
 have aj:(bs l).size=16:=by rw[z_b,hl]
 have HF:Hid (clF l=clI l 16):=Zz (by unfold clF;rw[hl]);have kc:=Lib.run_convert_string_bytes (P:=prog) w 9 105 5 (bs l) underlying9 underlying105 underlying5;have hB:=z_T.made w (bs l) l (z_Y l).symm (by omega);have fo:=Lib.bytesWorld_below w 5 (bs l);generalize Lib.bytesWorld w 5 (bs l)=w1 at *;rw[aj] at kc hB;generalize grownCap w 16 0 5=cb at *;rw[<-clI_zero l] at hB;have WZ:=hB.1;rw[clI_len,hl] at WZ;have HB:=Zz hB;have HK:=Zz (Kp.of_below fo NoB);clear hB fo;obtain ⟨G,hG⟩:∃G,w.heap.size=G:=⟨_,rfl⟩;rw[hG] at kc HB;have HG:=Zz hG;clear hG;generalize clF l=R at *;go_enter func260,ntmps260
 go_upto_region 5 with fail
 go_loopw [5,13] (fun _ s13 wr=>∃i:Nat,i<=16/\s13=.int .i64 i/\Hid (z_T wr G (clI l i) cb)/\Hid (Kp NoB w wr)) (fun _ s13 _=>16-(intOf s13).toNat)
 case atStart=>exact ⟨0,by omega,rfl,HB,HK⟩
 case round =>
  clear HB HK kc;obtain ⟨i,hi,rfl,HB,HK⟩:=hrel;by_cases af:i<16
  ·have bt:(i:Int)<16:=by omega
   have hm:((i:Int)).tmod 4=((i % 4:Nat):Int):=by rw[Int.tmod_eq_emod_of_nonneg (by omega)];omega
   have c0:=HB.o.cell i (by rw[clI_len,hl];exact af);have fz:=HB.o.frozen i (by omega);have HA:=Zz (clI_at l i i (by omega));have HS:=Zz (clI_set l i (by omega));have W5:=Zz (clI_skip l i (by omega));have iB:Hid (∀x,clB i x=if i % 4=3 then x &&& 15 else if i % 4=0/\0<i then x &&& 252 else x):=Zz fun _=>rfl;rw[HA.o,if_neg (by omega)] at c0;generalize l.getD i 0=x at *;by_cases h3:i % 4=3
   ·have gq:bits .and .u8 (x.toNat:Int) 15=((x &&& 15).toNat:Int):=and8 x 15
    have bl:Hid (z_T (wr.setCell ⟨G,i,none⟩ (.int .u8 ((x &&& 15).toNat:Int))) G (clI l (i+1)) cb):=Zz (by rw[<-HS.o,iB.o,if_pos h3];exact HB.o.set_ i _);have al:=Zz (HK.o.setCell ⟨G,i,none⟩ (.int .u8 ((x &&& 15).toNat:Int)) (.inr (Nat.le_of_eq HG.o)));generalize x &&& 15=v at *
    have DO:((i % 4:Nat):Int)=3:=by omega
    rw[DO] at hm;go_wp2;go_roundw
    case rel=>exact ⟨i+1,by omega,by go_num,bl,al⟩
    case measure=>simp[intOf];omega
   ·have DO:¬((i % 4:Nat):Int)=3:=by omega
    by_cases h0:i % 4=0/\0<i
    ·have gq:bits .and .u8 (x.toNat:Int) 252=((x &&& 252).toNat:Int):=and8 x 252
     have bl:Hid (z_T (wr.setCell ⟨G,i,none⟩ (.int .u8 ((x &&& 252).toNat:Int))) G (clI l (i+1)) cb):=Zz (by rw[<-HS.o,iB.o,if_neg h3,if_pos h0];exact HB.o.set_ i _);have al:=Zz (HK.o.setCell ⟨G,i,none⟩ (.int .u8 ((x &&& 252).toNat:Int)) (.inr (Nat.le_of_eq HG.o)));generalize x &&& 252=v at *
     have jy:((i % 4:Nat):Int)=0:=by omega
     rw[jy] at hm
     have W6:(0:Int)<(i:Int):=by omega
     go_wp2;go_roundw
     case rel=>exact ⟨i+1,by omega,by go_num,bl,al⟩
     case measure=>simp[intOf];omega
    ·have HX:Hid (z_T wr G (clI l (i+1)) cb):=Zz (by rw[<-W5.o (by rw[iB.o,if_neg h3,if_neg h0])];exact HB.o)
     have KH:¬(((i % 4:Nat):Int)=0/\(0:Int)<(i:Int)):=by omega
     generalize i % 4=m at *;by_cases jy:(m:Int)=0
     ·have W6:¬((0:Int)<(i:Int)):=fun h=>KH ⟨jy,h⟩
      go_wp2;go_roundw
      case rel=>exact ⟨i+1,by omega,by go_num,HX,HK⟩
      case measure=>simp[intOf];omega
     ·go_wp2
      go_roundw
      case rel=>exact ⟨i+1,by omega,by go_num,HX,HK⟩
      case measure=>simp[intOf];omega
  ·obtain rfl:i=16:=by omega
   have bH:=HB.o.reads;rw[clI_len,hl,<-HF.o] at bH;have eq:=y_b (P:=prog) (src:=105) (dst:=9) underlying105 underlying5 underlying9 bH;go_wp2;go_ret2;exact ⟨rfl,HK.o⟩
end Go.Proofs.YtdkheklakfbeeaaGreatDoor
