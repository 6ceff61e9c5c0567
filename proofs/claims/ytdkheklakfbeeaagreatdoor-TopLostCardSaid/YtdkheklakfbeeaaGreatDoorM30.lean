/- Part 30 of the proof. -/
import Derived.Test.YtdkheklakfbeeaaGreatDoorM29
set_option linter.all false
set_option maxRecDepth 100000
set_option maxHeartbeats 16000000
namespace Go.Proofs.YtdkheklakfbeeaaGreatDoor
open Go.RowKit Go.Proofs.Tryz
section
open GfM
structure Shf where
 disk:Nat
 top:ByteArray
 use:Bool
def shC (b s:Nat) (key:List UInt8) (x:Shf):Array Value:=#[.pointer (some ⟨b,0,none⟩),.int .i64 x.disk,.int .i64 s,.string (bs key),.string x.top,.bool x.use]
def shL (b s:Nat) (key:List UInt8) (l:List Shf):List Value:=l.flatMap fun x=>(shC b s key x).toList
theorem shL_append (b s:Nat) (key:List UInt8) (l m:List Shf):shL b s key (l++m)=shL b s key l++shL b s key m:=by simp[shL]
theorem shL_at (b s:Nat) (key:List UInt8) (l:List Shf) (i:Nat) (h:i<l.length) (j:Nat) (hj:j<6):(shL b s key l)[i*6+j]?=(shC b s key (l[i]'h)).toList[j]?:=by
 induction l generalizing i with
 | nil=>simp at h
 | cons x l ih =>
  have hx:(shC b s key x).toList.length=6:=rfl;rw[show shL b s key (x::l)=(shC b s key x).toList++shL b s key l by simp[shL]]
  cases i with
  | zero=>rw[Nat.zero_mul,q_D,q_F (by rw[hx];exact hj)];rfl
  | succ i =>
   rw[q_u (by rw[hx];omega),hx,show (i+1)*6+j-6=i*6+j by omega,ih i (by simpa using h)];rfl
def ldC (n:Nat) (A:Nat->ByteArray) (E:Nat->Int) (i:Nat):List ByteArray:=(List.range n).map fun j=>if j<i/\E j=0 then A j else ByteArray.empty
def ldB (n:Nat) (E:Nat->Int) (i:Nat):List Bool:=(List.range n).map fun j=>decide (j<i/\E j=0)
def ldL (E:Nat->Int):Nat->List Nat
 | 0=>[]
 | i+1=>if E i=0 then ldL E i else ldL E i++[i]
section
variable (n:Nat) (A:Nat->ByteArray) (E:Nat->Int)
theorem ldC_len (i:Nat):(ldC n A E i).length=n:=by simp[ldC]
theorem ldB_len (i:Nat):(ldB n E i).length=n:=by simp[ldB]
theorem ldC_zero:ldC n A E 0=List.replicate n ByteArray.empty:=by
 unfold ldC;apply q_m (by simp);intro k h1 h2;simp
theorem ldB_zero:ldB n E 0=List.replicate n false:=by
 unfold ldB;apply q_m (by simp);intro k h1 h2;simp
theorem v_e {k i:Nat} (h:k≠i):(k<i+1)=(k<i):=by rw[eq_iff_iff];omega
theorem ldC_yes (i:Nat) (h:i<n) (he:E i=0):(ldC n A E i).set i (A i)=ldC n A E (i+1):=by
 apply q_m (by simp[ldC]);intro k h1 h2;rw[List.getElem_set];by_cases e:i=k
 ·subst e;rw[if_pos rfl];simp[ldC,he]
 ·rw[if_neg e];simp only[ldC,List.getElem_map,List.getElem_range,v_e (Ne.symm e)]
theorem ldB_yes (i:Nat) (h:i<n) (he:E i=0):(ldB n E i).set i true=ldB n E (i+1):=by
 apply q_m (by simp[ldB]);intro k h1 h2;rw[List.getElem_set];by_cases e:i=k
 ·subst e;rw[if_pos rfl];simp[ldB,he]
 ·rw[if_neg e];simp only[ldB,List.getElem_map,List.getElem_range,v_e (Ne.symm e)]
theorem ldC_no (i:Nat) (he:E i≠0):ldC n A E (i+1)=ldC n A E i:=by
 apply q_m (by simp[ldC]);intro k h1 h2;simp only[ldC,List.getElem_map,List.getElem_range];by_cases e:k=i
 ·subst e;simp[he]
 ·simp only[v_e e]
theorem ldB_no (i:Nat) (he:E i≠0):ldB n E (i+1)=ldB n E i:=by
 apply q_m (by simp[ldB]);intro k h1 h2;simp only[ldB,List.getElem_map,List.getElem_range];by_cases e:k=i
 ·subst e;simp[he]
 ·have:(k<i+1/\E k=0)=(k<i/\E k=0):=by rw[v_e e]
  rw[decide_eq_decide,this]
theorem ldL_len (i:Nat):(ldL E i).length<=i:=by
 induction i with
 | zero=>exact q_e _
 | succ i ih =>
  unfold ldL;split
  ·omega
  ·rw[q_b,q_x];omega
end
theorem v_N {w:World} {G t:Nat} {xs:List Value} (h:Blk w G t xs.toArray) (n:Nat) (hn:xs.length=n) (hm:n<=100000):z_g w (.slice (some ⟨G,0,none⟩) n n) xs:=by
 subst hn;refine ⟨_,_,rfl,q_e _,by omega,fun _=>⟨G,0,rfl,fun j hj=>?_⟩⟩;rw[q_D,h.cell];simp
theorem w_E {w:World} {G t:Nat} {xs:List Value} (h:Blk w G t xs.toArray) (i:Nat) (v:Value):Blk (w.setCell ⟨G,i,none⟩ v) G t (xs.set i v).toArray:=by
 have:=h.set_ i v
 rwa [q_A] at this
theorem load_any (w:World) (b s t:Nat) (key:List UInt8) (v:Value) (l:List Shf) (hv:z_Q w v 6 l.length (shL b s key l)) (hk:4<=l.length/\l.length<=10) (A:Nat->ByteArray) (E:Nat->Int) (hE:∀c,E c≠21)
  (hG:∀c (h:c<l.length),∀W,Kp NoB w W->Cl 60 #[.agg (shC b s key (l[c]'h)),.int .i64 t] W fun e w'=>e=.returned (.tuple #[.string (A c),.int .i64 (E c)])/\Kp NoB W w') :
  Cl 61 #[v,.int .i64 t] w fun e w'=>∃u vl T e0,e=.returned (.tuple #[u,vl,.int .i64 e0])/\DecR (ldC l.length A E l.length) (ldB l.length E l.length) T e0/\(e0=0->Own w' w.heap.size 9 u (sv T))/\Kp NoB w w':=by
 obtain ⟨AA,cc,rfl,aK,bf,sY,aa⟩:=hv;have iC:=Zz (shL_at b s key l);have HG:=Zz hG;obtain ⟨n,hn⟩:∃n,l.length=n:=⟨_,rfl⟩;have HN:=Zz hn;rw[hn] at aK aa hk ⊢;obtain ⟨rb,off,rfl,ae⟩:=aa (by omega);have bA:=Zz ae
 have HM:Hid (∀W,Cl 59 #[.int .i64 ((n:Int)-2)] W fun e w'=>e=.returned (.bool true)/\w'=W):=Zz (fun W=>by
  have:=smay_any W (n-2) (by omega)
  rwa [show (((n-2:Nat):Int))=(n:Int)-2 by omega] at this)
 have dR:IntKind.i64.wrap ((n:Int)-2)=(n:Int)-2:=by rw[q_r];omega
 have FD:=run_make_row' 38 9 (.string ⟨#[]⟩) 16 underlying38 info9 rfl .i64 .i64 n (by omega) (by omega);have FE:=make_bools n (by omega);have tM:=Zz FD;have SJ:=Zz FE;have N8:=Zz (fun W vc vb h1 h2=>decode_own W vc vb (ldC n A E n) (ldB n E n) h1 h2)
 have ta:Hid (madeCells #[.string ⟨#[]⟩] n=(sv (ldC n A E 0)).toArray):=Zz (by
  apply Array.toList_inj.1
  rw[toList_madeCells_one,ldC_zero];simp only[sv,List.map_replicate];rfl)
 have gR:Hid (madeCells #[.bool false] n=(tv (ldB n E 0)).toArray):=Zz (by
  apply Array.toList_inj.1
  rw[toList_madeCells_one,ldB_zero];simp only[tv,List.map_replicate])
 clear FD FE hG ae aa sY hn;go_enter func61,ntmps61
 go_upto_region 3 with (first
 | (go_at_call 59;refine (HM.o _).mono ?_;rintro e w1 ⟨rfl,rfl⟩))
 go_cut [7,8] (fun s7 s8 wx=>∃G1 G2:Nat,s7=.slice (some ⟨G1,0,none⟩) n n/\s8=.slice (some ⟨G2,0,none⟩) n n/\Hid (G1≠G2/\w1.heap.size<=G1/\w1.heap.size<=G2/\G1<wx.heap.size/\G2<wx.heap.size)/\Hid (Blk wx G1 9 (sv (ldC n A E 0)).toArray)/\Hid (Blk wx G2 4 (tv (ldB n E 0)).toArray)/\Hid (Kp NoB w1 wx))
 case first =>
  have bZ:=Zz (Kp.refl NoB w1).drew;refine fs ?_;generalize w1.drew=w2 at *;have YT:=tM.o w2;have dO:=SJ.o w2;have SK:=tM.o (w2.alloc (.cells (madeCells #[.bool false] n) 4));have lj:=SJ.o (w2.alloc (.cells (madeCells #[.string ⟨#[]⟩] n) 9));have SM:=Zz (Blk.new w2 9 (madeCells #[.string ⟨#[]⟩] n));have SN:=Zz (Blk.new w2 4 (madeCells #[.bool false] n));have FF:=Zz (Blk.new (w2.alloc (.cells (madeCells #[.bool false] n) 4)) 9 (madeCells #[.string ⟨#[]⟩] n));have FG:=Zz (Blk.new (w2.alloc (.cells (madeCells #[.string ⟨#[]⟩] n) 9)) 4 (madeCells #[.bool false] n));rw[ta.o] at YT lj SK SM FG FF;rw[gR.o] at dO SK lj SN FF FG
  have dv:(w2.alloc (.cells (sv (ldC n A E 0)).toArray 9)).heap.size=w2.heap.size+1:=by simp
  have cX:(w2.alloc (.cells (tv (ldB n E 0)).toArray 4)).heap.size=w2.heap.size+1:=by simp
  have SO:=Zz (SM.o.alloc (.cells (tv (ldB n E 0)).toArray 4));have kC:=Zz (SN.o.alloc (.cells (sv (ldC n A E 0)).toArray 9));have yM:=Zz ((bZ.o.alloc (.cells (sv (ldC n A E 0)).toArray 9)).alloc (.cells (tv (ldB n E 0)).toArray 4));have N9:=Zz ((bZ.o.alloc (.cells (tv (ldB n E 0)).toArray 4)).alloc (.cells (sv (ldC n A E 0)).toArray 9));have fI:Hid (w1.heap.size<=w2.heap.size):=Zz bZ.o.size;generalize (sv (ldC n A E 0)).toArray=TT at *;generalize (tv (ldB n E 0)).toArray=BB at *;refine fp 0 ?_;refine fp 1 ?_;refine fp 3 ?_;refine fp 4 ?_;refine w_4 2 5 (by kernel_rfl) ?_ ?_
  ·refine y_a 2 rfl (fun K Qx hK=>?_)
   go_simp;refine hK _ _ oN ?_;clear hK K;refine fp 6 ?_;refine fd 5 fun K Qx hK=>?_;go_simp;refine hK _ _ oN ?_;clear hK K;refine fp 7 ?_;refine fe ?_;go_wp2_with fail
   go_meet
   rw[dv] at FG;exact ⟨_,_,rfl,rfl,Zz ⟨by omega,fI.o,by have:=fI.o;omega,by have:=SO.o.lt;omega,FG.o.lt⟩,SO,FG,yM⟩
  ·refine y_a 5 rfl (fun K Qx hK=>?_)
   go_simp;refine hK _ _ oN ?_;clear hK K;refine fd 2 fun K Qx hK=>?_;go_simp;refine hK _ _ oN ?_;clear hK K;refine fp 6 ?_;refine fp 7 ?_;refine fe ?_;go_wp2_with fail
   go_meet
   rw[cX] at FF;exact ⟨_,_,rfl,rfl,Zz ⟨by omega,by have:=fI.o;omega,fI.o,FF.o.lt,by have:=kC.o.lt;omega⟩,FF,kC,N9⟩
 case rest =>
  obtain ⟨G1,G2,rfl,rfl,aU,bh,ak,HK⟩:=hcut;have HO:Hid (Own wc wc.heap.size 3 (.slice none 0 0) (zv (ldL E 0))):=Zz (Own.nil_ _ _ 3);have fI:Hid (wc.heap.size<=wc.heap.size):=Zz (q_e _);have bj:=Zz (ldL_len E);have YU:Hid (w1.heap.size<=wc.heap.size):=Zz HK.o.size
  go_upto_region 6 with fail
  go_loopw [9,10,11,12,13,29] (fun s9 _ _ _ _ s29 wr=>∃i:Nat,i<=n/\s29=.int .i64 i/\Hid (Own wr wc.heap.size 3 s9 (zv (ldL E i)))/\Hid (Blk wr G1 9 (sv (ldC n A E i)).toArray)/\Hid (Blk wr G2 4 (tv (ldB n E i)).toArray)/\Hid (Kp NoB w1 wr)/\Hid (wc.heap.size<=wr.heap.size)) (fun _ _ _ _ _ s29 _=>n-(intOf s29).toNat)
  case atStart=>exact ⟨0,by omega,rfl,HO,bh,ak,HK,fI⟩
  case round =>
   clear HO bh ak HK fI;obtain ⟨i,hi,rfl,HO,bh,ak,HK,fI⟩:=hrel;by_cases af:i<n
   ·have bt:(i:Int)<(n:Int):=by omega
    have cF:i<l.length:=by rw[HN.o];exact af
    have aa:∀j,j<6->wr.cell? ⟨rb,off+i*6+j,none⟩=(shC b s key (l[i]'cF)).toList[j]?:=fun j hj=>by
     have h1:=(bA.o (i*6+j) (by omega)).trans (iC.o i cF j hj);rw[<-Nat.add_assoc] at h1;have xm:j<(shC b s key (l[i]'cF)).toList.length:=hj;rw[q_d xm] at h1 ⊢;exact (HK.o.below0.cell (q_c w1 _ h1)).trans h1
    have k0:=aa 0 (by decide);have k1:=aa 1 (by decide);have k2:=aa 2 (by decide);have k3:=aa 3 (by decide);have k4:=aa 4 (by decide);have k5:=aa 5 (by decide);have wG:=Zz (HG.o i cF);obtain ⟨⟨xd,xt,xu⟩,hx⟩:∃x,l[i]'cF=x:=⟨_,rfl⟩;rw[hx] at k0 k1 k2 k3 k4 k5 wG;replace k0:wr.cell? ⟨rb,off+i*6,none⟩=some (.pointer (some ⟨b,0,none⟩)):=k0;replace k1:wr.cell? ⟨rb,off+i*6+1,none⟩=some (.int .i64 xd):=k1;replace k2:wr.cell? ⟨rb,off+i*6+2,none⟩=some (.int .i64 s):=k2;replace k3:wr.cell? ⟨rb,off+i*6+3,none⟩=some (.string (bs key)):=k3;replace k4:wr.cell? ⟨rb,off+i*6+4,none⟩=some (.string xt):=k4;replace k5:wr.cell? ⟨rb,off+i*6+5,none⟩=some (.bool xu):=k5;have YV:=Zz (hE i);clear hx aa;have cN:=Zz (Blk.new wr 141 #[.pointer (some ⟨b,0,none⟩),.int .i64 xd,.int .i64 s,.string (bs key),.string xt,.bool xu]);have bn:=Zz (HK.o.alloc (.cells #[.pointer (some ⟨b,0,none⟩),.int .i64 xd,.int .i64 s,.string (bs key),.string xt,.bool xu] 141));have iY:=Zz (z_e HO.o ((Kp.refl NoB wr).alloc (.cells #[.pointer (some ⟨b,0,none⟩),.int .i64 xd,.int .i64 s,.string (bs key),.string xt,.bool xu] 141)) fun _ _ h=>h);have FH:=Zz (bh.o.alloc (.cells #[.pointer (some ⟨b,0,none⟩),.int .i64 xd,.int .i64 s,.string (bs key),.string xt,.bool xu] 141));have FI:=Zz (ak.o.alloc (.cells #[.pointer (some ⟨b,0,none⟩),.int .i64 xd,.int .i64 s,.string (bs key),.string xt,.bool xu] 141));have gZ:Hid (wc.heap.size<=(wr.alloc (.cells #[.pointer (some ⟨b,0,none⟩),.int .i64 xd,.int .i64 s,.string (bs key),.string xt,.bool xu] 141)).heap.size):=Zz (q_g fI.o ((Kp.refl NoB wr).alloc _).size)
    go_upto_region 8 with fail
    clear k0 k1 k2 k3 k4 k5 HO bh ak HK fI;generalize fY:wr.alloc (.cells #[.pointer (some ⟨b,0,none⟩),.int .i64 xd,.int .i64 s,.string (bs key),.string xt,.bool xu] 141)=w5 at *;clear fY;generalize wr.heap.size=D at *;have c0:=cN.o.c0;have c1:=cN.o.c1;have c2:=cN.o.c2;have c3:=cN.o.c3;have c4:=cN.o.c4;have c5:=cN.o.c5;go_wp2_with fail;refine (wG.o _ bn.o).mono ?_;rintro e w6 ⟨rfl,ap⟩;have oH:=Zz (FH.o.kp ap fun h=>h);have eH:=Zz (FI.o.kp ap fun h=>h);have dG:=Zz (z_e iY.o ap fun _ _ h=>h);have aB:=Zz (bn.o.trans ap);have dH:Hid (wc.heap.size<=w6.heap.size):=Zz (q_g gZ.o ap.size);clear ap c0 c1 c2 c3 c4 c5 cN bn iY FH FI gZ;by_cases he:E i=0
    ·have q1:=Zz (ldC_yes n A E i af he)
     have q2:=Zz (ldB_yes n E i af he)
     have q3:ldL E (i+1)=ldL E i:=by rw[ldL,if_pos he]
     have im:i<(sv (ldC n A E i)).length:=by rw[z_c,ldC_len];exact af
     have nt:i<(tv (ldB n E i)).length:=by rw[show (tv (ldB n E i)).length=(ldB n E i).length from q_i _,ldB_len];exact af
     obtain ⟨y1,nj⟩:∃y1,w6.cell? ⟨G1,i,none⟩=some y1:=⟨_,by rw[oH.o.cell,q_p];exact q_d im⟩;obtain ⟨y2,Cw⟩:∃y2,w6.cell? ⟨G2,i,none⟩=some y2:=⟨_,by rw[eH.o.cell,q_p];exact q_d nt⟩;have FJ:=oH.o.frozen i;have YW:=eH.o.frozen i;have aA:=aU.o.1;have FK:=Zz ((w_E oH.o i (.string (A i))).far (p:=⟨G2,i,none⟩) aU.o.1 (.bool true));have qT:=Zz (w_E (eH.o.far (p:=⟨G1,i,none⟩) (Ne.symm aU.o.1) (.string (A i))) i (.bool true));rw[v_q,q1.o] at FK;rw[tv_set,q2.o] at qT;have bC:=Zz ((aB.o.setCell ⟨G1,i,none⟩ (.string (A i)) (.inr aU.o.2.1)).setCell ⟨G2,i,none⟩ (.bool true) (.inr aU.o.2.2.1));have eM:=Zz (z_e dG.o (((Kp.refl (fun q=>q=G1\/q=G2) w6).setCell ⟨G1,i,none⟩ (.string (A i)) (.inl (.inl rfl))).setCell ⟨G2,i,none⟩ (.bool true) (.inl (.inr rfl))) (fun q hq hh=>by have:=(z_u dG.o hq).1;have:=aU.o.2.2.2;rcases hh with rfl|rfl<;>omega));have io:Hid (wc.heap.size<=((w6.setCell ⟨G1,i,none⟩ (.string (A i))).setCell ⟨G2,i,none⟩ (.bool true)).heap.size):=Zz (q_g dH.o (((Kp.refl (fun q=>q=G1\/q=G2) w6).setCell ⟨G1,i,none⟩ (.string (A i)) (.inl (.inl rfl))).setCell ⟨G2,i,none⟩ (.bool true) (.inl (.inr rfl))).size);rw[<-q3] at eM;rw[he];clear oH eH aB dG dH;generalize A i=ai at *
     go_upto_region 15 with fail
     clear FJ YW nj Cw;generalize (w6.setCell ⟨G1,i,none⟩ (.string ai)).setCell ⟨G2,i,none⟩ (.bool true)=w7 at *;go_wp2;go_roundw
     case rel=>exact ⟨i+1,by omega,by go_num,eM,FK,qT,bC,io⟩
     case measure=>simp[intOf];omega
    ·have q1:=Zz (ldC_no n A E i he)
     have q2:=Zz (ldB_no n E i he)
     have q3:zv (ldL E (i+1))=zv (ldL E i)++[.int .i64 i]:=by rw[ldL,if_neg he];simp[zv]
     have zF:=YV.o
     have iy:(E i==0)=false:=by rw[q_o];exact he
     have Oa:(E i==21)=false:=by rw[q_o];exact zF
     have Oc:(zv (ldL E i)).length<=10:=by rw[z_w];have:=bj.o i;omega
     rw[<-q1.o] at oH;rw[<-q2.o] at eH;generalize E i=ei at *;have b9:Hid (∀u∈([.int .i64 i]:List Value),u.oneCell'=true):=Zz (by intro u hu;simp at hu;subst hu;rfl);have YX:=dH.o
     have bS:Hid (∀v1 w7,World.ownsRow w7 wc.heap.size 3 1 v1 ((zv (ldL E i)).length+1) (zv (ldL E i)++[.int .i64 i])->w6.grownBy w7 u9.ownBlock->Own w7 wc.heap.size 3 v1 (zv (ldL E (i+1)))/\Blk w7 G1 9 (sv (ldC n A E (i+1))).toArray/\Blk w7 G2 4 (tv (ldB n E (i+1))).toArray/\Kp NoB w1 w7/\wc.heap.size<=w7.heap.size):=Zz fun v1 w7 h1 h2=>by
      have hk:Kp (fun q=>some q=u9.ownBlock) w6 w7:=Kp.of_grown h2 (fun q h=>h);have m9:∀q,some q=u9.ownBlock->wc.heap.size<=q:=fun q h=>(z_u dG.o h.symm).1;refine ⟨?_,oH.o.kp hk (fun h=>by have:=m9 _ h;have:=aU.o.2.2.2.1;omega),eH.o.kp hk (fun h=>by have:=m9 _ h;have:=aU.o.2.2.2.2;omega),aB.o.then hk (fun q hq h=>(by have:=m9 _ h;have:=YU.o;omega:False)),q_g dH.o hk.size⟩;unfold Own;rw[q3,q_b,q_x];exact h1
     go_upto_region 15 with (at_builtin;refine y_v wc.heap.size rfl (.tmp 41) (.tmp 43) 57 3 (.int .i64 0) 1 8 rfl underlying57 info3 rfl (by decide) (by decide) u9 _ _ [.int .i64 i] rfl rfl rfl b9.o dG.o YX (by omega) ?_;intro v1 w7 Eu o9 _;obtain ⟨X1,X2,X3,X4,X5⟩:=bS.o v1 w7 Eu o9;clear Eu o9)
     have X1:=Zz X1;have X2:=Zz X2;have X3:=Zz X3;have X4:=Zz X4;have X5:=Zz X5;go_wp2;go_roundw
     case rel=>exact ⟨i+1,by omega,by go_num,X1,X2,X3,X4,X5⟩
     case measure=>simp[intOf];omega
   ·obtain rfl:i=n:=by omega
    have R1:=Zz (v_N bh.o i (by rw[z_c,ldC_len]) (by omega));have R2:=Zz (v_N ak.o i (by rw[show (tv (ldB i E i)).length=(ldB i E i).length from q_i _,ldB_len]) (by omega));obtain ⟨A9,c9,rfl⟩:=z_r HO.o;go_wp2_with fail;refine (N8.o _ _ _ R1.o R2.o).mono ?_;rintro e w8 ⟨u,T,e0,rfl,hr,hd,hb⟩;have HR:=Zz (hr.more HK.o.size);have HD:=Zz hd;have bq:=Zz (HK.o.trans (Kp.of_below hb NoB));clear hr hd hb;by_cases h0:e0=0
    ·subst h0
     have hz:((0:Int) != 0)=false:=by decide
     obtain ⟨Au,cu,rfl,_⟩:=id HR.o.reads;go_wp2
     go_ret3
     exact ⟨_,_,T,0,rfl,HD.o,fun _=>HR.o,bq.o⟩
    ·have hz:(e0 != 0)=true:=by rw[bne_iff_ne];exact h0
     obtain ⟨Au,cu,rfl,_⟩:=id HR.o.reads;go_wp2
     go_ret3
     exact ⟨_,_,T,e0,rfl,HD.o,fun h=>absurd h h0,bq.o⟩
end
section
open GfM
theorem sget_no (w:World) (b s:Nat) (key:List UInt8) (x:Shf) (t:Nat) (hu:x.use=false) :
  Cl 60 #[.agg (shC b s key x),.int .i64 t] w fun e w'=>e=.returned (.tuple #[.string ByteArray.empty,.int .i64 24])/\Kp NoB w w':=by
 have HB:=Zz (Blk.new w 141 (shC b s key x));have HK:=Zz ((Kp.refl NoB w).alloc (.cells (shC b s key x) 141));obtain ⟨xd,xt,xu⟩:=x;subst hu;change Cl 60 #[.agg #[.pointer (some ⟨b,0,none⟩),.int .i64 xd,.int .i64 s,.string (bs key),.string xt,.bool false],.int .i64 t] w _;go_enter func60,ntmps60
 go_upto_region 1 with fail
 change Code.wp _ _ _ _ (w.alloc (.cells (shC b s key ⟨xd,xt,false⟩) 141));generalize w.alloc (.cells (shC b s key ⟨xd,xt,false⟩) 141)=w1 at *;generalize w.heap.size=G at *;have c5:=HB.o.c2;have c6:=HB.o.c5;go_wp2;go_ret2;exact ⟨rfl,HK.o⟩
theorem sget_yes (w:World) (b s:Nat) (key:List UInt8) (x:Shf) (t:Nat) (hu:x.use=true) (A:ByteArray) (e0:Int)
  (hG:∀W,Kp NoB w W->Cl 100 #[.agg (slC b x.disk s key),.string x.top,.int .i64 t] W fun e w'=>e=.returned (.tuple #[.string A,.int .i64 e0])/\Kp NoB W w') :
  Cl 60 #[.agg (shC b s key x),.int .i64 t] w fun e w'=>e=.returned (.tuple #[.string A,.int .i64 e0])/\Kp NoB w w':=by
 have HB:=Zz (Blk.new w 141 (shC b s key x));have HK:=Zz ((Kp.refl NoB w).alloc (.cells (shC b s key x) 141));have HG:=Zz hG;clear hG;obtain ⟨xd,xt,xu⟩:=x;subst hu;change Cl 60 #[.agg #[.pointer (some ⟨b,0,none⟩),.int .i64 xd,.int .i64 s,.string (bs key),.string xt,.bool true],.int .i64 t] w _;go_enter func60,ntmps60
 go_upto_region 1 with fail
 change Code.wp _ _ _ _ (w.alloc (.cells (shC b s key ⟨xd,xt,true⟩) 141));generalize w.alloc (.cells (shC b s key ⟨xd,xt,true⟩) 141)=w1 at *;generalize hGG:w.heap.size=G at *;have c0:=HB.o.c0;have c1:=HB.o.c1;have c2:=HB.o.c2;have c3:=HB.o.c3;have c4:=HB.o.c4;have c5:=HB.o.c5;go_wp2_with fail;refine (HG.o _ HK.o).mono ?_;rintro e w2 ⟨rfl,ag⟩;go_wp2;go_ret2;exact ⟨rfl,HK.o.trans ag⟩
section
variable (w:World) (b s t:Nat) (key:List UInt8) (v:Value) (l:List Shf) (hv:z_Q w v 6 l.length (shL b s key l)) (hk:4<=l.length/\l.length<=10) (A:Nat->ByteArray) (E:Nat->Int) (hE:∀c,E c≠21)
  (hG:∀c (h:c<l.length),∀W,Kp NoB w W->Cl 60 #[.agg (shC b s key (l[c]'h)),.int .i64 t] W fun e w'=>e=.returned (.tuple #[.string (A c),.int .i64 (E c)])/\Kp NoB W w')
  (D:List ByteArray) (e2:Int) (hD:∀T e0,DecR (ldC l.length A E l.length) (ldB l.length E l.length) T e0->e0=e2/\(e2=0->T=D))
include hv hk hE hG hD
theorem load_fix :
  Cl 61 #[v,.int .i64 t] w fun e w'=>∃u vl,e=.returned (.tuple #[u,vl,.int .i64 e2])/\(e2=0->Own w' w.heap.size 9 u (sv D))/\Kp NoB w w':=by
 refine (load_any w b s t key v l hv hk A E hE hG).mono ?_;rintro e w' ⟨u,vl,T,e0,rfl,hd,hr,a8⟩;obtain ⟨rfl,hT⟩:=hD T e0 hd;exact ⟨u,vl,rfl,fun h=>by rw[<-hT h];exact hr h,a8⟩
theorem one_any (BW:e2=0->D.length=l.length) (c:Nat) (hc:c<l.length) :
  Cl 36 #[v,.int .i64 t,.int .i64 c] w fun e w'=>e=.returned (.tuple #[.string (if E c=0 then A c else if e2=0 then tl D c else ByteArray.empty),.int .i64 (if E c=0 then 0 else e2)])/\Kp NoB w w':=by
 have oG:=Zz (fun W (k:Kp NoB w W)=>load_fix W b s t key v l (hv.no k) hk A E hE (fun c h W' k'=>hG c h W' (k.trans k')) D e2 hD);have YY:=Zz (hE c);obtain ⟨AA,cc,rfl,aK,bf,sY,aa⟩:=hv;have iC:=Zz (shL_at b s key l);have HG:=Zz hG;have oV:=Zz BW;obtain ⟨n,hn⟩:∃n,l.length=n:=⟨_,rfl⟩;have HN:=Zz hn;rw[hn] at aK aa hk oV oG ⊢;obtain ⟨rb,off,rfl,ae⟩:=aa (by omega)
 have kK:∀j,j<6->w.cell? ⟨rb,off+c*6+j,none⟩=(shC b s key (l[c]'hc)).toList[j]?:=fun j hj=>by
  have h1:=(ae (c*6+j) (by omega)).trans (iC.o c hc j hj)
  rwa [<-Nat.add_assoc] at h1
 have k0:=kK 0 (by decide);have k1:=kK 1 (by decide);have k2:=kK 2 (by decide);have k3:=kK 3 (by decide);have k4:=kK 4 (by decide);have k5:=kK 5 (by decide);have wG:=Zz (HG.o c hc);obtain ⟨⟨xd,xt,xu⟩,hx⟩:∃x,l[c]'hc=x:=⟨_,rfl⟩;rw[hx] at k0 k1 k2 k3 k4 k5 wG;replace k0:w.cell? ⟨rb,off+c*6,none⟩=some (.pointer (some ⟨b,0,none⟩)):=k0;replace k1:w.cell? ⟨rb,off+c*6+1,none⟩=some (.int .i64 xd):=k1;replace k2:w.cell? ⟨rb,off+c*6+2,none⟩=some (.int .i64 s):=k2;replace k3:w.cell? ⟨rb,off+c*6+3,none⟩=some (.string (bs key)):=k3;replace k4:w.cell? ⟨rb,off+c*6+4,none⟩=some (.string xt):=k4;replace k5:w.cell? ⟨rb,off+c*6+5,none⟩=some (.bool xu):=k5
 have HM:Hid (∀W,Cl 59 #[.int .i64 ((n:Int)-2)] W fun e w'=>e=.returned (.bool true)/\w'=W):=Zz (fun W=>by
  have:=smay_any W (n-2) (by omega)
  rwa [show (((n-2:Nat):Int))=(n:Int)-2 by omega] at this)
 have dR:IntKind.i64.wrap ((n:Int)-2)=(n:Int)-2:=by rw[q_r];omega
 have vy:c<n:=by omega
 have ew:¬((c:Int)<0):=by omega
 have eN:¬((n:Int)<=(c:Int)):=by omega
 have jx:decide ((c:Int)<0)=false:=q_v ew;have kH:decide (n<=c)=false:=q_v (by omega);clear hG ae aa sY hn kK hx iC HG hD BW hE;generalize E c=ec at *;generalize A c=ac at *;by_cases he:ec=0
 ·subst he
  rw[if_pos rfl,if_pos rfl];go_enter func36,ntmps36
  go_upto_region 3 with (first
  | (go_at_call 59;refine (HM.o _).mono ?_;rintro e w1 ⟨rfl,rfl⟩))
  go_wp2_with fail;refine (wG.o _ (Kp.refl _ _)).mono ?_;rintro e w2 ⟨rfl,ag⟩;go_wp2;go_ret2;exact ⟨rfl,ag⟩
 ·have zF:=YY.o
  have iy:(ec==0)=false:=by rw[q_o];exact he
  have Oa:(ec==21)=false:=by rw[q_o];exact zF
  rw[if_neg he,if_neg he];generalize hR:(if e2=0 then tl D c else ByteArray.empty)=R at *;have HR:=Zz hR;clear hR;go_enter func36,ntmps36
  go_upto_region 3 with (first
  | (go_at_call 59;refine (HM.o _).mono ?_;rintro e w1 ⟨rfl,rfl⟩))
  go_wp2_with fail;refine (wG.o _ (Kp.refl _ _)).mono ?_;rintro e w2 ⟨rfl,ag⟩;have al:=Zz ag;clear ag k0 k1 k2 k3 k4 k5;go_wp2_with fail;refine (oG.o _ al.o).mono ?_;rintro e w3 ⟨u,vl,rfl,hr,au⟩;have ar:=Zz (al.o.trans au);clear au;by_cases h0:e2=0
  ·subst h0
   have hz:((0:Int) != 0)=false:=by decide
   have SP:=oV.o rfl;obtain ⟨Au,cu,rfl,I3,Nh,Od⟩:=(hr rfl).reads;rw[z_c,SP] at I3 Od;obtain ⟨ub,uo,rfl,SQ⟩:=Od (by omega);have YZ:=(SQ c vy).trans (y_y D c (by omega));clear SQ Od;rw[z_c,SP];have FL:=HR.o;rw[if_pos rfl] at FL;rw[FL] at YZ;go_wp2;go_ret2;exact ⟨rfl,ar.o⟩
  ·have hz:(e2 != 0)=true:=by rw[bne_iff_ne];exact h0
   have FL:=HR.o;rw[if_neg h0] at FL;subst FL;go_wp2;go_ret2;exact ⟨rfl,ar.o⟩
end
end
def x_0 (S:Sup) (i:Nat):ByteArray:=(S.mem[i]?.map Mem.top).getD ByteArray.empty
theorem topA_at {S:Sup} {i:Nat} (h:i<S.mem.length):x_0 S i=(S.mem[i]'h).top:=by simp[x_0,h]
def y_j (S:Sup) (t:Nat):List Shf:=(List.range (S.data+2)).map fun c=>⟨(c+t) % (S.data+2),x_0 S ((c+t) % (S.data+2)),decide (stA S ((c+t) % (S.data+2))=1)⟩
theorem w_M (S:Sup) (t:Nat):(y_j S t).length=S.data+2:=by simp[y_j]
theorem shfL_at (S:Sup) (t c:Nat) (h:c<S.data+2):(y_j S t)[c]'(by rw[w_M];exact h)=⟨(c+t) % (S.data+2),x_0 S ((c+t) % (S.data+2)),decide (stA S ((c+t) % (S.data+2))=1)⟩:=by simp[y_j]
theorem infoSH:(prog.info? 141).map (fun i=>(i.zero,i.size,i.bytes))=some (some (.agg #[.pointer none,.int .i64 0,.int .i64 0,.string ⟨#[]⟩,.string ⟨#[]⟩,.bool false]),6,64):=by kernel_rfl
theorem shC_one (b s:Nat) (key:List UInt8) (x:Shf):∀u∈(shC b s key x).toList,u.oneCell'=true:=by
 intro u hu;simp[shC] at hu;rcases hu with rfl|rfl|rfl|rfl|rfl|rfl<;>rfl
section
variable {w:World} {st b n an sp t:Nat} {key:List UInt8} {S:Sup} {vs vm:Value}
theorem v_T (hL:Lay w) (h:Blk w st 116 (stC b an key S vs vm sp)) (hR:y_P w S vs vm) (hS:SupOk S) (ht:t<S.slots) :
  Cl 37 #[.pointer (some ⟨st,0,none⟩),.int .i64 t] w fun e w'=>∃u,e=.returned u/\w'.ownsRow w.heap.size 141 6 u (S.data+2) (shL b S.slots key (y_j S t))/\Kp NoB w w':=by
 have kN:lyOk S.data S.slots:=⟨hS.d2,by have:=hS.d8;omega,hS.sl⟩;have Oe:Hid (Cl 34 #[.pointer (some ⟨st,0,none⟩)] w fun e w'=>e=.returned (.agg #[.int .i64 S.data,.int .i64 S.slots,.int .i64 0,.bool false])/\Kp NoB w w'):=Zz (y_Y h);have DT:=Zz (fun W (hL:Lay W)=>v_9 W hL S.data S.slots kN t ht);have mz:=Zz (fun W (hL:Lay W) c (hc:c<S.data+2)=>lyseat_any W hL S.data S.slots kN t c ht hc);have fx:Hid (∀(W:World) (i:Nat),Cl 64 #[.agg #[.pointer (some ⟨b,0,none⟩),.pointer (some ⟨an,0,none⟩),.string (bs key)],.int .i64 i,.int .i64 S.slots] W fun e w'=>e=.returned (.agg #[.pointer (some ⟨b,0,none⟩),.int .i64 i,.int .i64 S.slots,.string (bs key)])/\Kp NoB W w'):=Zz (fun W i=>w_j W b an i S.slots key);obtain ⟨As,cs,Am,cm,cQ,cq⟩:=hR.shape;have iJ:=hS.n1;have zG:=hS.d8;have db:=hS.d2;obtain ⟨rb,off,mE,_⟩:=hR.memAt (Kp.refl _ _) cq (by omega);subst mE;obtain ⟨sb,so,yd,_⟩:=hR.seatAt (Kp.refl _ _) cQ;subst yd;have gB:=Zz (fun w' (k:Kp NoB w w')=>hR.memAt k cq (by omega));have kF:=Zz (fun w' (k:Kp NoB w w')=>hR.seatAt k cQ);have wJ:=Zz (fun i (hi:i<S.mem.length) (hd:i<S.data+2)=>(hS.mem i hi).2.2.1 hd);subst cQ cq;have HS:=Zz h;have bj:=Zz hL
 have pg:Hid (∀c (hc:c<S.data+2),shL b S.slots key ((y_j S t).take (c+1))=shL b S.slots key ((y_j S t).take c)++(shC b S.slots key ⟨(c+t) % (S.data+2),x_0 S ((c+t) % (S.data+2)),decide (stA S ((c+t) % (S.data+2))=1)⟩).toList):=Zz fun c hc=>by
  rw[q_h (by rw[w_M];exact hc),shL_append,shfL_at S t c hc];simp[shL]
 have eC:Hid ((y_j S t).take (S.data+2)=y_j S t):=Zz (q_t (by rw[w_M];exact q_e _));have Y0:=Zz (fun i (hi:i<S.mem.length)=>(⟨topA_at hi,x_6 hi⟩:x_0 S i=(S.mem[i]'hi).top/\stA S i=(S.mem[i]'hi).st));clear hL h hR hS kN;go_enter func37,ntmps37;go_wp2_with fail;refine Oe.o.mono ?_;rintro e w2 ⟨rfl,ag⟩;have al:=Zz ag;clear ag Oe;have qN:=Zz (Blk.new w2 84 #[.int .i64 S.data,.int .i64 S.slots,.int .i64 0,.bool false]);have wK:=Zz (al.o.alloc (.cells #[.int .i64 S.data,.int .i64 S.slots,.int .i64 0,.bool false] 84))
 go_upto_region 2 with fail
 change Code.wp _ _ _ _ (w2.alloc (.cells #[.int .i64 S.data,.int .i64 S.slots,.int .i64 0,.bool false] 84));generalize w2.alloc (.cells #[.int .i64 S.data,.int .i64 S.slots,.int .i64 0,.bool false] 84)=w3 at *;generalize w2.heap.size=Y at *;have fJ:=Zz (HS.o.kp wK.o fun h=>h);have y0:=qN.o.c0;have y1:=qN.o.c1;have y2:=qN.o.c2;have y3:=qN.o.c3;go_wp2_with fail;refine (DT.o _ (bj.o.no wK.o)).mono ?_;rintro e w4 ⟨rfl,aw⟩;have SR:=Zz (qN.o.kp aw fun h=>h);have BX:=Zz (fJ.o.kp aw fun h=>h);have az:=Zz (wK.o.trans aw);have FM:=aw.size;have Y1:=Zz FM
 have hdz:¬((S.data:Int)=0):=by omega
 have Y2:((S.data:Int)==0)=false:=by rw[q_o];omega
 have qi:Hid (w4.ownsRow w3.heap.size 141 6 (.slice none 0 0) 0 (shL b S.slots key ((y_j S t).take 0))):=Zz (World.ownsRow_nil _ _ _ _);have FN:Hid (Kp NoB w3 w4):=Zz aw;clear aw y0 y1 y2 y3 FM
 go_upto_region 7 with fail
 go_loopw [7,8,9,10,11,12,13,23] (fun s7 _ _ _ _ _ _ s23 wr=>∃i:Nat,i<=S.data+2/\s23=.int .i64 i/\Hid (wr.ownsRow w3.heap.size 141 6 s7 i (shL b S.slots key ((y_j S t).take i)))/\Hid (Blk wr Y 84 (lyC S.data S.slots))/\Hid (Blk wr st 116 (stC b an key S (.slice (some ⟨sb,so,none⟩) (S.data+2) cs) (.slice (some ⟨rb,off,none⟩) S.mem.length cm) sp))/\Hid (Kp NoB w3 wr)) (fun _ _ _ _ _ _ _ s23 _=>S.data+2-(intOf s23).toNat)
 case atStart=>exact ⟨0,by omega,rfl,qi,SR,BX,FN⟩
 case round =>
  clear qi SR BX FN;obtain ⟨i,hi,rfl,HO,HY,ip,HK⟩:=hrel;by_cases af:i<S.data+2
  ·have bV:(i:Int)<(S.data:Int)+2:=by omega
   have y0:=HY.o.c0;have y1:=HY.o.c1;have y2:=HY.o.c2;have y3:=HY.o.c3;have zH:=Zz (pg.o i af);have hr:(i+t) % (S.data+2)<S.data+2:=q_z _ (by omega);have gZ:=Zz (mz.o wr (bj.o.no (wK.o.trans HK.o)) i af);generalize Nj:(i+t) % (S.data+2)=r at *;clear Nj;go_wp2_with fail;refine gZ.o.mono ?_;rintro e sq ⟨rfl,au⟩;have ar:=Zz (HK.o.trans au);have iG:=Zz (z_e HO.o au fun _ _ h=>h);have Jl:=Zz (HY.o.kp au fun h=>h);have fJ:=Zz (ip.o.kp au fun h=>h)
   have Bq:r<S.mem.length:=by omega
   obtain ⟨rY,gz,he,aa⟩:=gB.o sq (wK.o.trans ar.o);cases he;obtain ⟨k0,k1,k2⟩:=aa r Bq;obtain ⟨Xk,Xl,he,lL⟩:=kF.o sq (wK.o.trans ar.o);cases he;have q0:=lL r hr;have zI:=Zz (wJ.o r Bq hr);have tW:=Zz (Y0.o r Bq);have c10:=fJ.o.cell 10;have c11:=fJ.o.cell 11
   have hrI:(r:Int)<(S.data:Int)+2:=by omega
   have Y3:(r:Int)<(S.mem.length:Int):=by omega
   clear aa lL au HO HY ip HK gZ y0 y1 y2 y3;obtain ⟨⟨kg,tp,lg⟩,hx⟩:∃x,S.mem[r]'Bq=x:=⟨_,rfl⟩;rw[hx] at k0 k1 k2 zI tW
   dsimp only at k0 k1 k2 zI tW
   clear hx;replace c10:sq.cell? ⟨st,10,none⟩=some (.slice (some ⟨sb,so,none⟩) (S.data+2) cs):=c10;replace c11:sq.cell? ⟨st,11,none⟩=some (.slice (some ⟨rb,off,none⟩) S.mem.length cm):=c11;rw[tW.o.1,tW.o.2] at zH;rcases zI.o with aH|aH
   ·subst aH
    have oI:Hid (shL b S.slots key ((y_j S t).take (i+1))=shL b S.slots key ((y_j S t).take i)++(shC b S.slots key ⟨r,tp,true⟩).toList):=zH;have eF:=Zz (Blk.new sq 108 #[.int .i64 1,.string tp,.string lg]);have bn:=Zz (ar.o.alloc (.cells #[.int .i64 1,.string tp,.string lg] 108));have gZ:=Zz (fJ.o.alloc (.cells #[.int .i64 1,.string tp,.string lg] 108));have FO:=Zz (Jl.o.alloc (.cells #[.int .i64 1,.string tp,.string lg] 108));have iY:=Zz (World.ownsRow.alloc iG.o (.cells #[.int .i64 1,.string tp,.string lg] 108));have c8:=gZ.o.cell 8
    have b1:((1:Int)==1)=true:=by decide
    go_upto_region 12 with fail
    clear k0 k1 k2 c10 c11 q0 ar fJ Jl iG;generalize sq.alloc (.cells #[.int .i64 1,.string tp,.string lg] 108)=w5 at *;obtain ⟨D,hD⟩:∃D,sq.heap.size=D:=⟨_,rfl⟩;rw[hD] at eF ⊢;clear hD;have d0:=eF.o.c0
    go_upto_region 13 with fail
    clear d0 c8;have dH:=Zz gZ.o.drew;have jZ:=Zz eF.o.drew;have FP:=Zz FO.o.drew;have aB:=Zz bn.o.drew;have dG:Hid (w5.drew.ownsRow w3.heap.size 141 6 u7 i (shL b S.slots key ((y_j S t).take i))):=iY;clear gZ eF FO bn iY;refine fs ?_;generalize w5.drew=w6 at *;have c0:=dH.o.c0;have c1:=dH.o.c1;have c2:=dH.o.c2;have c6:=dH.o.c6;have d1:=jZ.o.c1;refine fp 0 ?_;refine fp 1 ?_;refine fp 2 ?_;refine fp 3 ?_;refine fq 4 (fun W=>W.cell? ⟨st,0,none⟩=some (.pointer (some ⟨b,0,none⟩))/\W.cell? ⟨st,1,none⟩=some (.pointer (some ⟨an,0,none⟩))/\W.cell? ⟨st,2,none⟩=some (.string (bs key))) ⟨c0,c1,c2⟩ ?_;refine fp 5 ?_;refine fp 6 ?_;refine fp 7 ?_;refine fp 8 ?_;refine fp 9 ?_;refine f_c 10 c6 ?_;refine fp 12 ?_;refine f_c 13 d1 ?_;refine fp 14 ?_;refine fd 11 fun K Qx hK=>?_;go_simp;refine (fx.o w6 r).mono ?_;rintro e w7 ⟨rfl,aM⟩;have bC:=Zz (aB.o.trans aM);have eM:=Zz (z_e dG.o aM fun _ _ h=>h);have zJ:=Zz (FP.o.kp aM fun h=>h)
    have io:=Zz (dH.o.kp aM fun h=>h);have iM:=Zz (jZ.o.kp aM fun h=>h);refine hK _ _ (oK (iM.o.cell 1) (oW (oW oN))) ?_;clear hK K aM c0 c1 c2 c6 d1 aB dG FP dH jZ iM;refine fp 15 ?_;refine fd 16 fun K Qx hK=>?_;go_simp;have eQ:=Zz (v_c w7 141 6 (shC b S.slots key ⟨r,tp,true⟩).toList rfl (by decide));have dK:=Zz (bC.o.alloc (.cells (shC b S.slots key ⟨r,tp,true⟩) 141));have cy:=Zz (World.ownsRow.alloc eM.o (.cells (shC b S.slots key ⟨r,tp,true⟩) 141));have zK:=Zz (zJ.o.alloc (.cells (shC b S.slots key ⟨r,tp,true⟩) 141));have mS:=Zz (io.o.alloc (.cells (shC b S.slots key ⟨r,tp,true⟩) 141));refine hK _ _ (oW (oW (oW oN))) ?_;clear hK K bC eM zJ io;change Fr _ _ _ _ _ _ _ (w7.alloc (.cells (shC b S.slots key ⟨r,tp,true⟩) 141));have eQ:Hid (z_Q (w7.alloc (.cells (shC b S.slots key ⟨r,tp,true⟩) 141)) (.slice (some ⟨w7.heap.size,0,none⟩) 1 1) 6 1 (shC b S.slots key ⟨r,tp,true⟩).toList):=eQ;generalize w7.alloc (.cells (shC b S.slots key ⟨r,tp,true⟩) 141)=w8 at *;refine y_L 17 rfl rfl (by kernel_rfl) ?_;refine v_b (m:=1) (k:=i) rfl underlying93 infoSH rfl (by decide) (by decide) rfl rfl (shC_one b S.slots key ⟨r,tp,true⟩) cy.o eQ.o (by decide) dK.o.size (by omega) ?_;intro v1 w9 ho hg;have aC:Kp (fun z=>some z=u7.ownBlock) w8 w9:=Kp.of_grown hg fun _ h=>h;have re:shL b S.slots key ((y_j S t).take i)++(shC b S.slots key ⟨r,tp,true⟩).toList=shL b S.slots key ((y_j S t).take (i+1)):=oI.o.symm;rw[re] at ho;have cT:=Zz ho;have aT:=Zz (dK.o.then aC fun z hz h=>(by have:=(z_u cy.o h.symm).1;omega:False));have Of:=Zz (zK.o.kp aC (z_7 cy.o zK.o (by decide)));have ig:=Zz (mS.o.kp aC (z_7 cy.o mS.o (by decide)));refine ⟨oW (oW (oW oN)),?_⟩;clear ho hg aC re cy eQ dK zK mS;refine fp 18 ?_;refine fe ?_;go_wp2;go_roundw
    case rel=>exact ⟨i+1,by omega,by go_num,cT,Of,ig,aT⟩
    case measure=>simp[intOf];omega
   ·subst aH
    have oI:Hid (shL b S.slots key ((y_j S t).take (i+1))=shL b S.slots key ((y_j S t).take i)++(shC b S.slots key ⟨r,tp,false⟩).toList):=zH;have eF:=Zz (Blk.new sq 108 #[.int .i64 2,.string tp,.string lg]);have bn:=Zz (ar.o.alloc (.cells #[.int .i64 2,.string tp,.string lg] 108));have gZ:=Zz (fJ.o.alloc (.cells #[.int .i64 2,.string tp,.string lg] 108));have FO:=Zz (Jl.o.alloc (.cells #[.int .i64 2,.string tp,.string lg] 108));have iY:=Zz (World.ownsRow.alloc iG.o (.cells #[.int .i64 2,.string tp,.string lg] 108));have c8:=gZ.o.cell 8
    have b1:((2:Int)==1)=false:=by decide
    go_upto_region 12 with fail
    clear k0 k1 k2 c10 c11 q0 ar fJ Jl iG;generalize sq.alloc (.cells #[.int .i64 2,.string tp,.string lg] 108)=w5 at *;obtain ⟨D,hD⟩:∃D,sq.heap.size=D:=⟨_,rfl⟩;rw[hD] at eF ⊢;clear hD;have d0:=eF.o.c0
    go_upto_region 13 with fail
    clear d0 c8;have dH:=Zz gZ.o.drew;have jZ:=Zz eF.o.drew;have FP:=Zz FO.o.drew;have aB:=Zz bn.o.drew;have dG:Hid (w5.drew.ownsRow w3.heap.size 141 6 u7 i (shL b S.slots key ((y_j S t).take i))):=iY;clear gZ eF FO bn iY;refine fs ?_;generalize w5.drew=w6 at *;have c0:=dH.o.c0;have c1:=dH.o.c1;have c2:=dH.o.c2;have c6:=dH.o.c6;have d1:=jZ.o.c1;refine fp 0 ?_;refine fp 1 ?_;refine fp 2 ?_;refine fp 3 ?_;refine fq 4 (fun W=>W.cell? ⟨st,0,none⟩=some (.pointer (some ⟨b,0,none⟩))/\W.cell? ⟨st,1,none⟩=some (.pointer (some ⟨an,0,none⟩))/\W.cell? ⟨st,2,none⟩=some (.string (bs key))) ⟨c0,c1,c2⟩ ?_;refine fp 5 ?_;refine fp 6 ?_;refine fp 7 ?_;refine fp 8 ?_;refine fp 9 ?_;refine f_c 10 c6 ?_;refine fp 12 ?_;refine f_c 13 d1 ?_;refine fp 14 ?_;refine fd 11 fun K Qx hK=>?_;go_simp;refine (fx.o w6 r).mono ?_;rintro e w7 ⟨rfl,aM⟩;have bC:=Zz (aB.o.trans aM);have eM:=Zz (z_e dG.o aM fun _ _ h=>h);have zJ:=Zz (FP.o.kp aM fun h=>h)
    have io:=Zz (dH.o.kp aM fun h=>h);have iM:=Zz (jZ.o.kp aM fun h=>h);refine hK _ _ (oK (iM.o.cell 1) (oW (oW oN))) ?_;clear hK K aM c0 c1 c2 c6 d1 aB dG FP dH jZ iM;refine fp 15 ?_;refine fd 16 fun K Qx hK=>?_;go_simp;have eQ:=Zz (v_c w7 141 6 (shC b S.slots key ⟨r,tp,false⟩).toList rfl (by decide));have dK:=Zz (bC.o.alloc (.cells (shC b S.slots key ⟨r,tp,false⟩) 141));have cy:=Zz (World.ownsRow.alloc eM.o (.cells (shC b S.slots key ⟨r,tp,false⟩) 141));have zK:=Zz (zJ.o.alloc (.cells (shC b S.slots key ⟨r,tp,false⟩) 141));have mS:=Zz (io.o.alloc (.cells (shC b S.slots key ⟨r,tp,false⟩) 141));refine hK _ _ (oW (oW (oW oN))) ?_;clear hK K bC eM zJ io;change Fr _ _ _ _ _ _ _ (w7.alloc (.cells (shC b S.slots key ⟨r,tp,false⟩) 141));have eQ:Hid (z_Q (w7.alloc (.cells (shC b S.slots key ⟨r,tp,false⟩) 141)) (.slice (some ⟨w7.heap.size,0,none⟩) 1 1) 6 1 (shC b S.slots key ⟨r,tp,false⟩).toList):=eQ;generalize w7.alloc (.cells (shC b S.slots key ⟨r,tp,false⟩) 141)=w8 at *;refine y_L 17 rfl rfl (by kernel_rfl) ?_;refine v_b (m:=1) (k:=i) rfl underlying93 infoSH rfl (by decide) (by decide) rfl rfl (shC_one b S.slots key ⟨r,tp,false⟩) cy.o eQ.o (by decide) dK.o.size (by omega) ?_;intro v1 w9 ho hg;have aC:Kp (fun z=>some z=u7.ownBlock) w8 w9:=Kp.of_grown hg fun _ h=>h;have re:shL b S.slots key ((y_j S t).take i)++(shC b S.slots key ⟨r,tp,false⟩).toList=shL b S.slots key ((y_j S t).take (i+1)):=oI.o.symm;rw[re] at ho;have cT:=Zz ho;have aT:=Zz (dK.o.then aC fun z hz h=>(by have:=(z_u cy.o h.symm).1;omega:False));have Of:=Zz (zK.o.kp aC (z_7 cy.o zK.o (by decide)));have ig:=Zz (mS.o.kp aC (z_7 cy.o mS.o (by decide)));refine ⟨oW (oW (oW oN)),?_⟩;clear ho hg aC re cy eQ dK zK mS;refine fp 18 ?_;refine fe ?_;go_wp2;go_roundw
    case rel=>exact ⟨i+1,by omega,by go_num,cT,Of,ig,aT⟩
    case measure=>simp[intOf];omega
  ·obtain rfl:i=S.data+2:=by omega
   rw[eC.o] at HO;have HR:=Zz (w_r HO.o wK.o.size);clear HO HY ip;go_wp2;go_ret;exact ⟨_,rfl,HR.o,wK.o.trans HK.o⟩
end
end Go.Proofs.YtdkheklakfbeeaaGreatDoor
