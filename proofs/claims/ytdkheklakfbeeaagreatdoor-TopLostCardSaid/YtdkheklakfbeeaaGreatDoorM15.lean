/- Part 15 of the proof. -/
import Derived.Lib.BufferWrite
import Derived.Test.YtdkheklakfbeeaaGreatDoorM14
set_option linter.all false
set_option maxRecDepth 100000
set_option maxHeartbeats 16000000
namespace Go.Proofs.YtdkheklakfbeeaaGreatDoor
open Go.RowKit Tryz
section
variable {P:Program} {ρ:Operand->Value} {w:World} {o:Oper}
theorem ex_copyS {d s:Operand} {dT sT elem:TypeId} {g off dLen dCap:Nat} {aQ:Array Value} {t:TypeId} {ys:List UInt8} {R:Value->World->Prop}
  (h:o.op=.call { callee:=.builtin .copy,args:=#[d,s],argTypes:=#[dT,sT] }) (hu:P.underlying dT=some (.slice elem)) (aj:(P.info? elem).map (·.size)=some 1)
  (hd:ρ d=.slice (some ⟨g,off,none⟩) dLen dCap) (hs:ρ s=.string (bs ys)) (hg:Blk w g t aQ) (hn:ys.length<=dLen) (gX:off+ys.length<=aQ.size)
  (hR:R (goInt ys.length) (w.setRow g (aQ.toList.take off++bv ys++aQ.toList.drop (off+ys.length)).toArray)):∃v1 w1,(execOp ρ o).run P w=.ok (.value v1) w1/\R v1 w1:=by
 have iU:=Lib.run_copy_row_string (P:=P) w dT sT o.type elem g off dLen dCap (bs ys) aQ t hu aj hg (by rw[z_b];exact hn) (by rw[z_b];exact gX);rw[z_b,z_Y] at iU;refine ⟨_,_,?_,hR⟩;unfold execOp;simp only[h,resolve,invoke,builtin,Sem.run_bind,Sem.run_pure,Result.andThen_ok,List.map_toArray,List.map_cons,List.map_nil,hd,hs,iU];rfl
end
def adQ (A X:List Nat) (i:Nat):List Nat:=(List.range 5).map fun j=>if j<i then (A.getD j 0+X.getD j 0) % 18446744073709551616 else A.getD j 0
theorem adQ_len (A X:List Nat) (i:Nat):(adQ A X i).length=5:=by simp[adQ]
theorem adQ_at {A X:List Nat} {i j:Nat} (hj:j<5):(adQ A X i).getD j 0=if j<i then (A.getD j 0+X.getD j 0) % 18446744073709551616 else A.getD j 0:=by
 unfold adQ;rw[q_a,q_j,q_n hj];rfl
theorem adQ_zero {A:List Nat} (hA:A.length=5) (X:List Nat):adQ A X 0=A:=by
 refine q_m (by simp[adQ,hA]) fun j h1 h2=>?_;simp[adQ,q_a,h2]
theorem adQ_set {A X:List Nat} {i:Nat} (hi:i<5):(adQ A X i).set i ((A.getD i 0+X.getD i 0) % 18446744073709551616)=adQ A X (i+1):=by
 refine q_m (by simp[adQ]) fun j h1 h2=>?_;rw[List.getElem_set];by_cases e:i=j
 ·subst e;rw[if_pos rfl];simp[adQ]
 ·rw[if_neg e]
  have:(j<i)=(j<i+1):=by rw[eq_iff_iff];omega
  simp only[adQ,List.getElem_map,List.getElem_range,this]
theorem adQ_lt (A X:List Nat):W64 (adQ A X 5):=by
 intro j;by_cases hj:j<5
 ·rw[adQ_at hj,if_pos hj];exact q_z _ (by decide)
 ·rw[q_a,q_q (by rw[adQ_len];omega),Option.getD_none];decide
theorem timF_lt (A R:List Nat):W64 (timF A R):=w_6 (mulI_lt A R 5)
def smI (R:List Nat) (l:List UInt8):Nat->List Nat
 | 0=>List.replicate 5 0
 | j+1=>timF (adQ (smI R l j) (ofF ((l.drop (16*j)).take 16) 1) 5) R
theorem smI_len (R:List Nat) (l:List UInt8) (j:Nat):(smI R l j).length=5:=by
 cases j with
 | zero=>rfl
 | succ j=>exact timF_len _ _
theorem smI_lt (R:List Nat) (l:List UInt8) (j:Nat):W64 (smI R l j):=by
 cases j with
 | zero =>
  intro i;show (List.replicate 5 0).getD i 0<_;rw[q_a,List.getElem?_replicate]
  split<;>decide
 | succ j=>exact timF_lt _ _
def polF (key l:List UInt8):List UInt8:=plF (lsF (smI (ofF (clF (key.take 16)) 0) l (l.length / 16))) (key.drop 16)
theorem polF_len (key l:List UInt8):(polF key l).length=16:=plF_len _ _
theorem bv_zeros17:(#[.int .u8 0,.int .u8 0,.int .u8 0,.int .u8 0,.int .u8 0,.int .u8 0,.int .u8 0,.int .u8 0,.int .u8 0,.int .u8 0,.int .u8 0,.int .u8 0,.int .u8 0,.int .u8 0,.int .u8 0,.int .u8 0,.int .u8 0]:Array Value)=(bv (List.replicate 17 0)).toArray:=rfl
theorem blk_bcell {w:World} {G t:Nat} {l:List UInt8} (h:Blk w G t (bv l).toArray) (i:Nat) (hi:i<l.length):w.cell? ⟨G,i,none⟩=some (.int .u8 ((l.getD i 0).toNat:Int)):=by
 rw[h.cell,q_p,bv_at l i hi]
theorem blk_bset {w:World} {G t:Nat} {l:List UInt8} (h:Blk w G t (bv l).toArray) (i:Nat) (x:UInt8):Blk (w.setCell ⟨G,i,none⟩ (.int .u8 x.toNat)) G t (bv (l.set i x)).toArray:=by
 have:=h.set_ i (.int .u8 x.toNat)
 rwa [q_A,bv_set] at this
theorem blk_breads {w:World} {G t:Nat} {l:List UInt8} (h:Blk w G t (bv l).toArray) (n c:Nat) (hn:n<=l.length) (hc:n<=c) (hm:c<=9223372036854775807):z_g w (.slice (some ⟨G,0,none⟩) n c) (bv (l.take n)):=by
 have hl:(bv (l.take n)).length=n:=by rw[z_D,q_l];omega
 refine ⟨some ⟨G,0,none⟩,c,by rw[hl],by rw[hl];exact hc,hm,fun _=>⟨G,0,rfl,fun j hj=>?_⟩⟩;rw[hl] at hj;rw[q_D,blk_bcell h j (by omega),bv_at _ _ (by rw[q_l];omega)];simp[q_a,List.getElem?_take,hj]
theorem conv_rd (W:World) {v:Value} {l:List UInt8} (h:z_g W v (bv l)):(convert 105 9 v).run prog W=.ok (.string (bs l)) W:=y_b underlying105 underlying5 underlying9 h
theorem set_last16 {c:List UInt8} (h:c.length=16) (x y:UInt8):(c++[x]).set 16 y=c++[y]:=by
 rw[List.set_append_right 16 y (by omega),h];rfl
theorem size1_5:(prog.info? 5).map (·.size)=some 1:=by kernel_rfl
theorem poly_any (w:World) (key l:List UInt8) (hk:key.length=32) (n:Nat) (hl:l.length=16*n) (hn:n<=4096) :
  Cl 242 #[.string (bs key),.string (bs l)] w fun e w'=>e=.returned (.tuple #[.string (bs (polF key l)),.int .i64 0])/\Kp NoB w w':=by
 have HF:Hid (polF key l=plF (lsF (smI (ofF (clF (key.take 16)) 0) l n)) (key.drop 16)):=Zz (by unfold polF;rw[hl,Nat.mul_div_cancel_left _ (by decide)])
 have dN:(bs key).size=32:=by rw[z_b,hk]
 have ib:(bs l).size=16*n:=by rw[z_b,hl]
 have LK:(bs key).extract 0 16=bs (key.take 16):=by rw[z_0];simp
 have Q7:(bs key).extract 16 32=bs (key.drop 16):=by rw[z_0,q_t (by rw[List.length_drop];omega)]
 have kB:=Zz (fun W=>clamp_any W (key.take 16) (by rw[q_l];omega));have DP:=Zz (fun W=>of_any W (clF (key.take 16)) (by rw[clF_len,q_l];omega) 0 (by decide));have ly:=Zz (ofF_len (clF (key.take 16)) 0);have IA:=Zz (ofF_lt (clF (key.take 16)) (n:=0) (by decide));have kI:=Zz (fun W A hA hW=>plus_any W A hA hW (key.drop 16) (by rw[List.length_drop];omega));generalize polF key l=RES at *;generalize ofF (clF (key.take 16)) 0=R at *;generalize clF (key.take 16)=y_d at *;generalize key.take 16=k1 at *;generalize key.drop 16=k2 at *;have rM:=Zz (show (uq R).toArray.size=5 by rw[q_y,x_c,ly.o]);have aD:=all_uq R;go_enter func242,ntmps242;go_wp2_with fail;refine (kB.o _).mono ?_;rintro e w1 ⟨rfl,aX⟩;go_wp2_with fail;refine (DP.o _).mono ?_;rintro e w2 ⟨rfl,ag⟩;have al:=Zz (aX.trans ag);clear aX ag
 go_wp2_with (first
  | (refine wpList_store_row rfl 341 (.tmp 8) (.tmp 29) rfl w2.heap.size _ rfl rfl 341 _ (Blk.new w2 _ _) (by rw[rM.o];exact x_z) (by rw[rM.o];rfl) aD ?_;go_must (
    rw[World.setRow_alloc_new];have AU:=Zz (Blk.new w2 341 (uq R).toArray);have ar:=Zz (al.o.alloc (.cells (uq R).toArray 341))
    have hz:(w2.alloc (.cells (uq R).toArray 341)).heap.size=w2.heap.size+1:=by simp
    have om:=al.o.size;generalize w2.alloc (.cells (uq R).toArray 341)=w3 at *
    generalize w2.heap.size=G at *))
  | fail)
 rw[zerosQ5];have HA:=Zz (Blk.new w3 341 (uq (List.replicate 5 0)).toArray);rw[hz] at HA;have AU:=Zz (AU.o.alloc (.cells (uq (List.replicate 5 0)).toArray 341));have az:=Zz (ar.o.alloc (.cells (uq (List.replicate 5 0)).toArray 341));clear ar al hz;generalize w3.alloc (.cells (uq (List.replicate 5 0)).toArray 341)=w4 at *;have HA:Hid (Blk w4 (G+1) 341 (uq (smI R l 0)).toArray):=HA
 go_loopw [1,10,11,12,13,52] (fun s1 _ _ _ _ _ wr=>∃j:Nat,j<=n/\s1=.string (bs (l.drop (16*j)))/\Hid (Blk wr (G+1) 341 (uq (smI R l j)).toArray)/\Hid (Blk wr G 341 (uq R).toArray)/\Hid (Kp NoB w wr)) (fun s1 _ _ _ _ _ _=>strLen s1)
 case atStart=>exact ⟨0,by omega,rfl,HA,AU,az⟩
 case round =>
  clear HA AU az;obtain ⟨j,hj,rfl,HA,HR,HK⟩:=hrel;by_cases af:j<n
  ·have iV:Hid (smI R l (j+1)=timF (adQ (smI R l j) (ofF ((l.drop (16*j)).take 16) 1) 5) R):=Zz rfl
   have W7:Hid (∀j1,j1=j+1->l.drop (16*j1)=(l.drop (16*j)).drop 16):=Zz (fun j1 e=>by rw[List.drop_drop,e];congr 1)
   have Bq:(l.drop (16*j)).length=16*(n-j):=by rw[List.length_drop,hl];omega
   have fx:=Zz (smI_len R l j);have ll:=Zz (smI_lt R l j);generalize l.drop (16*j)=rest at *;generalize DQ:smI R l j=A at *;clear DQ;obtain ⟨m,hm⟩:∃m,16*(n-j)=m:=⟨_,rfl⟩;rw[hm] at Bq
   have DR:16<=m:=by omega
   have me:m<=65536:=by omega
   have aj:(bs rest).size=m:=by rw[z_b,Bq]
   have nX:0<m:=by omega
   have DJ:min (m:Int) 16=16:=by omega
   have hem:¬((m:Int)<16):=by omega
   have W8:(16:Int)<=(m:Int):=by omega
   have Xa:(bs rest).extract 0 16=bs (rest.take 16):=by rw[z_0];simp
   have Xb:(bs rest).extract 16 m=bs (rest.drop 16):=by rw[z_0,q_t (by rw[List.length_drop];omega)]
   have co:(rest.take 16).length=16:=by rw[q_l];omega
   clear hm;generalize mx:rest.take 16=c at *;clear mx;have jv:Hid ((List.take 0 (bv (List.replicate 17 0)).toArray.toList++bv c++List.drop (0+c.length) (bv (List.replicate 17 0)).toArray.toList).toArray=(bv (c++[0])).toArray):=Zz (by rw[co,w_h];rfl)
   go_upto_region 11 with fail
   rw[bv_zeros17];have fj:=Zz (Blk.new wr 343 (bv (List.replicate 17 0)).toArray).drew;have Rk:=Zz (HA.o.alloc (.cells (bv (List.replicate 17 0)).toArray 343)).drew;have kJ:=Zz (HR.o.alloc (.cells (bv (List.replicate 17 0)).toArray 343)).drew;have bZ:=Zz (HK.o.alloc (.cells (bv (List.replicate 17 0)).toArray 343)).drew;have hGB:G+1<wr.heap.size:=HA.o.lt;have Rl:w.heap.size<=wr.heap.size:=HK.o.size;clear HA HR HK;refine v_C (by kernel_rfl) ?_;change Fr _ _ _ _ _ _ _ (wr.alloc (.cells (bv (List.replicate 17 0)).toArray 343)).drew;generalize (wr.alloc (.cells (bv (List.replicate 17 0)).toArray 343)).drew=w5 at *;generalize wr.heap.size=B at *;refine fp 0 ?_;refine fp 1 ?_;refine fp 2 ?_;refine fp 3 ?_;refine y_L 4 rfl rfl (by kernel_rfl) ?_;refine ex_copyS rfl underlying105 size1_5 rfl rfl fj.o (by omega) (by simp[z_D];omega) ?_;rw[jv.o];have bk:=Zz (fj.o.setRow (cs':=(bv (c++[0])).toArray));have mf:=Zz (Rk.o.farRow (g:=B) (cs':=(bv (c++[0])).toArray) (by omega));have ns:=Zz (kJ.o.farRow (g:=B) (cs':=(bv (c++[0])).toArray) (by omega));have aB:=Zz (bZ.o.setRow B (bv (c++[0])).toArray (.inr Rl));clear fj Rk kJ bZ;generalize w5.setRow B (bv (c++[0])).toArray=w6 at *;refine ⟨oN,?_⟩;refine fe ?_;have Xc:=blk_bcell bk.o 16 (by simp[co]);have fz:=bk.o.frozen 16;have dM:Hid (Blk (w6.setCell ⟨B,16,none⟩ (.int .u8 1)) B 343 (bv (c++[1])).toArray):=Zz (by have:=blk_bset bk.o 16 1;rwa [set_last16 co 0 1] at this);have nu:=Zz (mf.o.far (p:=⟨B,16,none⟩) (by show G+1≠B;omega) (.int .u8 1));have rX:=Zz (ns.o.far (p:=⟨B,16,none⟩) (by show G≠B;omega) (.int .u8 1));have bC:=Zz (aB.o.setCell ⟨B,16,none⟩ (.int .u8 1) (.inr Rl))
   go_upto_region 14 with fail
   have dM:=Zz dM.o.drew;have nu:=Zz nu.o.drew;have rX:=Zz rX.o.drew;have bC:=Zz bC.o.drew;clear Xc fz bk mf ns aB;refine v_C (by kernel_rfl) ?_;change Fr _ _ _ _ _ _ _ (w6.setCell ⟨B,16,none⟩ (.int .u8 1)).drew;generalize (w6.setCell ⟨B,16,none⟩ (.int .u8 1)).drew=w7 at *;have bH:=blk_breads dM.o 16 17 (by simp[co]) (by decide) (by decide);rw[show (c++[(1:UInt8)]).take 16=c by rw[<-co,List.take_left]] at bH
   have xN:w7.cell? ⟨B,16,none⟩=some (.int .u8 1):=by
    have:=blk_bcell dM.o 16 (by simp[co])
    rwa [show (c++[(1:UInt8)]).getD 16 0=1 by rw[q_a,q_u (by omega),co];rfl] at this
   have vj:=Zz (fun W=>of_any W c co 1 (by decide));have iA:=Zz (ofF_len c 1);generalize ofF c 1=X at *;refine fp 0 ?_;have hq:=conv_rd _ bH;refine w_k 1 (fun W=>z_g W (.slice (some ⟨B,0,none⟩) 16 17) (bv c)) rfl rfl (by kernel_rfl) (by kernel_rfl) bH (fun K hK=>?_);go_simp;refine hK _ (fun W hW=>by have jt:=conv_rd _ hW;go_simp) ?_;clear hK K hq;refine fp 2 ?_;refine f_c 3 xN ?_;refine fp 4 ?_;refine fp 6 ?_;refine fd 5 fun K Qx hK=>?_;go_simp;refine (vj.o _).mono ?_;rintro e w8 ⟨rfl,aL⟩;refine hK _ _ (oW (oW oN)) ?_;clear hK K;have lz:=Zz (nu.o.kp aL fun h=>h);have qs:=Zz (rX.o.kp aL fun h=>h);have bq:=Zz (bC.o.trans aL);clear aL dM nu rX bC bH xN;refine fe ?_;have lz:Hid (Blk w8 (G+1) 341 (uq (adQ A X 0)).toArray):=Zz (by rw[adQ_zero fx.o];exact lz.o)
   go_upto_region 15 with fail
   go_loopw [12,13,52] (fun _ _ s52 wr=>∃i:Nat,i<=5/\s52=.int .i64 i/\Hid (Blk wr (G+1) 341 (uq (adQ A X i)).toArray)/\Hid (Blk wr G 341 (uq R).toArray)/\Hid (Kp NoB w wr)) (fun _ _ s52 _=>5-(intOf s52).toNat)
   case atStart=>exact ⟨0,by omega,rfl,lz,qs,bq⟩
   case round =>
    clear lz qs bq;obtain ⟨i,hi,rfl,HA,HR,HK⟩:=hrel;by_cases II:i<5
    ·have bt:(i:Int)<5:=by omega
     have L8:=run_index_q underlying341 iA.o i II wr;have c1:=z_F HA.o i (by rw[adQ_len];exact II);rw[adQ_at II,if_neg (by omega)] at c1;have fz:=HA.o.frozen i;have HS:=Zz (adQ_set (A:=A) (X:=X) II);have hx:=ll.o i;obtain ⟨v,hv⟩:∃v,(A.getD i 0+X.getD i 0) % 18446744073709551616=v:=⟨_,rfl⟩;rw[hv] at HS;generalize A.getD i 0=x at *;generalize X.getD i 0=y at *;have hs:=wrap64u x y v hv;clear hv;have bl:Hid (Blk (wr.setCell ⟨G+1,i,none⟩ (.int .u64 v)) (G+1) 341 (uq (adQ A X (i+1))).toArray):=Zz (by rw[<-HS.o];exact y_E HA.o i v);have pL:=Zz (HR.o.far (p:=⟨G+1,i,none⟩) (by show G≠G+1;omega) (.int .u64 v));have al:=Zz (HK.o.setCell ⟨G+1,i,none⟩ (.int .u64 v) (.inr (by show _<=G+1;omega)));go_wp2;go_roundw
     case rel=>exact ⟨i+1,by omega,by go_num,bl,pL,al⟩
     case measure=>simp[intOf];omega
    ·obtain rfl:i=5:=by omega
     go_wp2_with (first
      | (refine wpList_load_row rfl 341 (.tmp 8) rfl G rfl 341 _ (0,0) _ HR.o underlying341 rfl (by rw[rM.o];exact x_z) ?_)
      | fail)
     refine (times_any _ (G+1) 341 (adQ A X 5) R (adQ_len _ _ _) (adQ_lt _ _) ly.o IA.o HA.o).mono ?_;rintro e w9 ⟨rfl,Rm,bL⟩;have Mk:Hid (Blk w9 (G+1) 341 (uq (smI R l (j+1))).toArray):=Zz (by rw[iV.o];exact Rm);have mg:=Zz (HR.o.kp bL (by show ¬G=G+1;omega));have aT:=Zz (HK.o.then bL (T:=(·=G+1)) fun q hq h=>by have h:q=G+1:=h;omega);have vk:=Zz (W7.o (j+1) rfl);clear Rm bL;go_wp2;go_roundw
     case rel=>exact ⟨j+1,by omega,by rw[vk.o],Mk,mg,aT⟩
     case measure=>simp[strLen,z_b];omega
  ·obtain rfl:j=n:=by omega
   have uW:l.drop (16*j)=[]:=List.drop_eq_nil_of_le (by omega);rw[uW];have mu:(bs []).size=0:=rfl;have fx:=Zz (smI_len R l j);have ll:=Zz (smI_lt R l j);go_wp2_with fail;refine (least_any _ (G+1) 341 (smI R l j) fx.o ll.o HA.o).mono ?_;rintro e w6 ⟨rfl,Rn,ap⟩;have mf:=Zz Rn.drew;have aB:=Zz (HK.o.then ap (T:=(·=G+1)) fun q hq h=>by have h:q=G+1:=h;omega).drew;clear Rn ap;have cM:=Zz (fun W=>kI.o W (lsF (smI R l j)) (lsF_len fx.o) (lsF_lt ll.o));rw[<-HF.o] at cM;have bj:=Zz (lsF_len fx.o);generalize lsF (smI R l j)=Z at *
   have Io:(uq Z).toArray.size=5:=by rw[q_y,x_c,bj.o]
   go_upto_region 21 with fail
   refine fs ?_;generalize w6.drew=w7 at *;refine fr_rdx 0 (fun W=>Blk W (G+1) 341 (uq Z).toArray) rfl rfl rfl (by kernel_rfl) (by kernel_rfl) mf.o (fun W hW=>z_aa rfl rfl hW underlying341 rfl (by rw[Io];exact x_z)) ?_;refine fp 1 ?_;refine fp 2 ?_;refine fd 3 fun K Qx hK=>?_;go_simp;refine (cM.o _).mono ?_;rintro e w8 ⟨rfl,aL⟩;refine hK _ _ (oW oN) ?_;clear hK K;have bq:=Zz (aB.o.trans aL);clear aL mf aB;refine fp 4 ?_;refine fp 5 ?_;refine fe ?_;go_wp2;go_ret2;exact ⟨rfl,bq.o⟩
theorem peq_any (w:World) (l:List UInt8) (hl:l.length<=1000) :
  Cl 208 #[.string (bs l),.string (bs l)] w fun e w'=>e=.returned (.bool true)/\Kp NoB w w':=by
 have HK:=Zz (Kp.refl NoB w);have aj:(bs l).size=l.length:=z_b l;go_enter func208,ntmps208;go_wp2
 go_loopw [5,6,14] (fun s5 _ s14 wr=>∃i:Nat,i<=l.length/\s14=.int .i64 i/\s5=.int .u8 0/\Hid (Kp NoB w wr)) (fun _ _ s14 _=>l.length-(intOf s14).toNat)
 case atStart=>exact ⟨0,by omega,rfl,rfl,HK⟩
 case round =>
  clear HK;obtain ⟨i,hi,rfl,rfl,HK⟩:=hrel;by_cases af:i<l.length
  ·have bt:(i:Int)<(l.length:Int):=by omega
   have Qh:=w_J (bs l) i
   have cJ:bits .xor .u8 (((bs l).data.toList.getD i 0).toNat:Int) (((bs l).data.toList.getD i 0).toNat:Int)=0:=by
    have:=w_x .u8 8 (by decide) wraps_u8 ((bs l).data.toList.getD i 0).toNat ((bs l).data.toList.getD i 0).toNat (y_C _) (y_C _);rw[this];simp
   have hbo:bits .or .u8 0 0=0:=by decide
   generalize ((bs l).data.toList.getD i 0).toNat=x at *;have aW:=Zz HK.o.drew
   go_upto_region 7 with fail
   go_still (by kernel_rfl)
   go_wp2;go_roundw
   case rel=>exact ⟨i+1,by omega,by go_num,rfl,aW⟩
   case measure=>simp[intOf];omega
  ·obtain rfl:i=l.length:=by omega
   go_wp2;go_ret;exact ⟨rfl,HK.o⟩
theorem bs_nil:(⟨#[]⟩:ByteArray)=bs []:=rfl
theorem pad_any (w:World) (l:List UInt8) (h:l.length % 16=0) (hl:l.length<=100000) :
  Cl 243 #[.string (bs l)] w fun e w'=>e=.returned (.string (bs l))/\w'=w:=by
 have aj:(bs l).size=l.length:=z_b l
 have hr:((l.length:Int)).tmod 16=0:=by rw[Int.tmod_eq_emod_of_nonneg (by omega)];omega
 have h16:(16:Int).tmod 16=0:=by decide
 have h0:¬(9223372036854775807<(bs l).size+(⟨#[]⟩:ByteArray).size):=by rw[aj];show ¬(9223372036854775807<l.length+0);omega
 have nU:bs l++(⟨#[]⟩:ByteArray)=bs l:=by rw[bs_nil,y_f,List.append_nil]
 have HA:=Zz nU;have Ml:=Zz (Tryz.strings_Repeat_zero ⟨#[0]⟩);clear nU;go_enter func243,ntmps243;go_wp2_with fail;refine (Ml.o _).mono ?_;rintro e w1 ⟨rfl,rfl⟩;go_wp2;go_ret;exact ⟨by show Ending.returned (.string (bs l++⟨#[]⟩))=_;rw[HA.o],rfl⟩
theorem aeshape_any (w:World) (key nonce:List UInt8) (hk:key.length=32) (hn:nonce.length=12) :
  Cl 207 #[.string (bs key),.string (bs nonce)] w fun e w'=>e=.returned (.bool true)/\w'=w:=by
 have h1:(bs key).size=32:=by rw[z_b,hk]
 have h2:(bs nonce).size=12:=by rw[z_b,hn]
 go_enter func207,ntmps207;go_wp2;go_ret;exact ⟨rfl,rfl⟩
def lnF (T:List ByteArray):List Nat:=T.flatMap fun s=>[s.size,0]
theorem lnF_len (T:List ByteArray):(lnF T).length=2*T.length:=by
 induction T with
 | nil=>rfl
 | cons s T ih=>simp only[lnF,List.flatMap_cons,q_b,List.length_cons] at ih ⊢;rw[ih];simp;omega
theorem lnF_take (T:List ByteArray) (i:Nat) (h:i<T.length):lnF (T.take (i+1))=lnF (T.take i)++[(tl T i).size,0]:=by
 rw[q_h h];unfold lnF;rw[List.flatMap_append];simp[tl,h]
theorem uv_append (L M:List Nat):uv (L++M)=uv L++uv M:=by simp[uv]
theorem lengths_any (w:World) (v:Value) (T:List ByteArray) (hv:z_g w v (sv T)) (hT:T.length<=8) (hs:∀i,(tl T i).size<=100000) :
  Cl 244 #[v] w fun e w'=>e=.returned (.string (bs (leL (lnF T))))/\Kp NoB w w':=by
 obtain ⟨A,c,rfl,aK,bf,aa⟩:=hv;rw[z_c] at aK aa ⊢;have HC:=Zz aa;have HT:=Zz (lnF_take T)
 have aD:lnF (T.take T.length)=lnF T:=by rw[List.take_length]
 have eC:=Zz aD;have HL:=Zz (fun i=>lnF_len (T.take i))
 have fu:Hid (∀i,(T.take i).length<=8):=Zz fun i=>by rw[q_l];omega
 have sS:=Zz (y_y T);have dD:=Zz hT;have mc:=Zz (fun W' u h=>w_O W' u (lnF T) h (by rw[lnF_len];omega));generalize leL (lnF T)=R at *;obtain ⟨n,hn⟩:∃n,T.length=n:=⟨_,rfl⟩;rw[hn] at aK HC HT eC hT sS ⊢;have hO:Hid (Own w w.heap.size 213 (.slice none 0 0) (uv (lnF (T.take 0)))):=Zz (Own.nil_ _ _ _);have hK:=Zz (Below.refl w.heap.size w);clear aa aD hn;go_enter func244,ntmps244
 go_upto_region 3 with fail
 go_loopw [3,5,6,9] (fun s3 _ _ s9 wr=>∃i:Nat,i<=n/\s9=.int .i64 i/\Hid (Own wr w.heap.size 213 s3 (uv (lnF (T.take i))))/\Hid (Below w.heap.size w wr)) (fun _ _ _ s9 _=>n-(intOf s9).toNat)
 case atStart=>exact ⟨0,by omega,rfl,hO,hK⟩
 case round =>
  clear hO hK;obtain ⟨i,hi,rfl,HO,HB⟩:=hrel;by_cases af:i<n
  ·obtain ⟨b,off,rfl,ae⟩:=HC.o (by omega)
   have hx:=ae i af;rw[sS.o i af] at hx;have hk:=(HB.o.cell (q_c w _ hx)).trans hx;have dw:=HT.o i af;have Ro:=hs i
   have kz:((uv (lnF (T.take i))).length+(uv [(tl T i).size,0]).length)*4<=140737488355328:=by
    rw[z_l,z_l,HL.o];have:=fu.o i;simp;omega
   have fX:=Zz kz;have aR:=Zz dw
   have bV:(i:Int)<(n:Int):=by omega
   generalize tl T i=s at *;obtain ⟨z,hz⟩:∃z,s.size=z:=⟨_,rfl⟩;rw[hz] at Ro fX aR
   have dv:((z:Int)) / 4294967296=0:=by omega
   have cX:IntKind.u64.wrap (z:Int)=(z:Int):=by rw[q_s];omega
   have DM:IntKind.u32.wrap (z:Int)=(z:Int):=by rw[IntKind.wrap_u32];omega
   have dE:=Zz (fun p q:Value=>blit wr #[p,q] 213 (by simp[maxLen]));have cy:=Zz (fun o:Obj=>HO.o.alloc o);have gp:=Zz (fun o:Obj=>HB.o.alloc HB.o.size o)
   have b6:Hid (∀o:Obj,w.heap.size<=(wr.alloc o).heap.size):=Zz fun o=>by have:=HB.o.size;simp;omega
   have nL:Hid (∀u∈uv [z,0],u.oneCell'=true):=Zz (w_u _);clear ae hx kz dw
   go_wp2_with (at_builtin;refine y_t (w0:=w) w.heap.size rfl (.tmp 16) (.tmp 22) 215 213 (.int .u32 0) 4 rfl underlying215 infoU rfl (by decide) _ _ _ (uv [z,0]) rfl rfl (dE.o _ _) nL.o (cy.o _) (gp.o _) (b6.o _) fX.o ?_;intro v1 w2 kZ dO bJ sH)
   rw[<-uv_append,<-aR.o] at kZ;have kA:=Zz kZ;have ak:=Zz dO;clear kZ dO bJ sH;go_roundw
   case rel=>exact ⟨i+1,by omega,by go_num,kA,ak⟩
   case measure=>simp[intOf];omega
  ·obtain rfl:i=n:=by omega
   rw[eC.o] at HO;go_wp2_with fail;refine (mc.o _ _ HO.o.reads).mono ?_;rintro e w6 ⟨rfl,eB⟩;go_wp2;go_ret;exact ⟨rfl,(Kp.of_below HB.o NoB).trans (Kp.of_below eB _)⟩
theorem v_s (key nonce:List UInt8) (c:Nat):(z_1 key nonce c).length=64:=by unfold z_1;rw[v_g,w_Q]
def tagF (key nonce wt s:List UInt8):List UInt8:=polF ((z_1 key nonce 0).take 32) (wt++s++leL (lnF [bs wt,bs s]))
theorem tagF_len (key nonce wt s:List UInt8):(tagF key nonce wt s).length=16:=polF_len _ _
theorem tag_any (w:World) (key nonce wt s:List UInt8) (hk:key.length=32) (hn:nonce.length=12) (hw:wt.length=16) (hs:s.length=32) :
  Cl 209 #[.string (bs key),.string (bs nonce),.string (bs wt),.string (bs s)] w fun e w'=>e=.returned (.string (bs (tagF key nonce wt s)))/\Kp NoB w w':=by
 have eS:=Zz (fun W=>chblock_any W key nonce hk hn 0 (by decide));have eP:=v_s key nonce 0;have oU:=Zz (fun W=>pad_any W wt (by omega) (by omega));have ee:=Zz (fun W=>pad_any W s (by omega) (by omega))
 have jr:=Zz (fun W v h=>lengths_any W v [bs wt,bs s] h (by simp) (fun i=>by
  match i with
  | 0=>show (bs wt).size<=_;rw[z_b];omega
  | 1=>show (bs s).size<=_;rw[z_b];omega
  | i+2=>show (ByteArray.empty).size<=_;decide))
 have HF:Hid (tagF key nonce wt s=polF ((z_1 key nonce 0).take 32) (wt++s++leL (lnF [bs wt,bs s]))):=Zz rfl
 have DS:(leL (lnF [bs wt,bs s])).length=16:=by rw[v_g,lnF_len];rfl
 have z1:(bs wt).size=16:=by rw[z_b,hw]
 have z2:(bs s).size=32:=by rw[z_b,hs]
 have z3:(bs (wt++s)).size=48:=by rw[z_b,q_b];omega
 have z4:(bs (leL (lnF [bs wt,bs s]))).size=16:=by rw[z_b,DS]
 have z5:(bs (z_1 key nonce 0)).size=64:=by rw[z_b,eP]
 have jb:(wt++s++leL (lnF [bs wt,bs s])).length=16*4:=by rw[q_b,q_b];omega
 have Xd:bs wt++bs s=bs (wt++s):=y_f _ _;have xX:bs (wt++s)++bs (leL (lnF [bs wt,bs s]))=bs (wt++s++leL (lnF [bs wt,bs s])):=y_f _ _
 have LK:(bs (z_1 key nonce 0)).extract 0 32=bs ((z_1 key nonce 0).take 32):=by rw[z_0];simp
 have lX:=Zz (fun W=>poly_any W ((z_1 key nonce 0).take 32) (wt++s++leL (lnF [bs wt,bs s])) (by rw[q_l];omega) 4 jb (by decide));rw[<-HF.o] at lX;have dc:Hid (∀W:World,z_g (W.alloc (.cells #[.string (bs wt),.string (bs s)] 9)) (.slice (some ⟨W.heap.size,0,none⟩) 2 2) (sv [bs wt,bs s])):=Zz fun W=>blit W #[.string (bs wt),.string (bs s)] 9 (by simp[maxLen]);clear jb DS eP;generalize tagF key nonce wt s=RES at *;generalize wt++s++leL (lnF [bs wt,bs s])=ALL at *;generalize leL (lnF [bs wt,bs s])=LN at *;generalize wt++s=WS at *;generalize (z_1 key nonce 0).take 32=K1 at *;generalize z_1 key nonce 0=S at *;go_enter func209,ntmps209;go_wp2_with fail;refine (eS.o _).mono ?_;rintro e w1 ⟨rfl,aX⟩;have aW:=Zz aX.drew;clear aX
 go_upto_region 2 with fail
 go_cut [11] (fun s11 wx=>s11=.string (bs RES)/\Hid (Kp NoB w wx))
 case first =>
  refine fs ?_;generalize w1.drew=w2 at *;refine fp 0 ?_;refine fp 1 ?_;refine fp 2 ?_;refine fp 4 ?_;refine fp 7 ?_;refine fp 8 ?_;have ar:=Zz (aW.o.alloc (.cells #[.string (bs wt),.string (bs s)] 9));have bH:=dc.o w2;refine w_4 3 9 (by kernel_rfl) ?_ ?_
  ·refine y_a 3 rfl (fun K Qx hK=>?_)
   go_simp;refine (oU.o _).mono ?_;rintro e w3 ⟨rfl,rfl⟩;refine hK _ _ oN ?_;clear hK K;refine w_4 5 9 (by kernel_rfl) ?_ ?_
   ·refine y_a 5 rfl (fun K Qx hK=>?_)
    go_simp;refine (ee.o _).mono ?_;rintro e w3 ⟨rfl,rfl⟩;refine hK _ _ oN ?_;clear hK K;refine fp 6 ?_;refine fd 9 fun K Qx hK=>?_;go_simp;refine hK _ _ oN ?_;clear hK K;generalize w3.alloc (.cells #[.string (bs wt),.string (bs s)] 9)=w4 at *;refine fd 10 fun K Qx hK=>?_;go_simp;refine (jr.o _ _ bH).mono ?_;rintro e w5 ⟨rfl,aG⟩;refine hK _ _ oN ?_;clear hK K;have ax:=Zz (ar.o.trans aG);clear aG ar bH;refine fp 11 ?_;refine fd 12 fun K Qx hK=>?_;go_simp;refine (lX.o _).mono ?_;rintro e w6 ⟨rfl,ap⟩;refine hK _ _ oN ?_;clear hK K;have aB:=Zz (ax.o.trans ap);clear ap ax;refine fp 13 ?_;refine fp 14 ?_;refine fp 15 ?_;refine fp 16 ?_;refine fp 17 ?_;refine fe ?_;go_wp2_with fail
    go_meet
    exact ⟨rfl,aB⟩
   ·refine y_a 9 rfl (fun K Qx hK=>?_)
    go_simp;refine hK _ _ oN ?_;clear hK K;generalize w3.alloc (.cells #[.string (bs wt),.string (bs s)] 9)=w4 at *;refine fd 5 fun K Qx hK=>?_;go_simp;refine (ee.o _).mono ?_;rintro e w7 ⟨rfl,rfl⟩;refine hK _ _ oN ?_;clear hK K;refine fp 6 ?_;refine fd 10 fun K Qx hK=>?_;go_simp;refine (jr.o _ _ bH).mono ?_;rintro e w5 ⟨rfl,aG⟩;refine hK _ _ oN ?_;clear hK K;have ax:=Zz (ar.o.trans aG);clear aG ar bH;refine fp 11 ?_;refine fd 12 fun K Qx hK=>?_;go_simp;refine (lX.o _).mono ?_;rintro e w6 ⟨rfl,ap⟩;refine hK _ _ oN ?_;clear hK K;have aB:=Zz (ax.o.trans ap);clear ap ax;refine fp 13 ?_;refine fp 14 ?_;refine fp 15 ?_;refine fp 16 ?_;refine fp 17 ?_;refine fe ?_;go_wp2_with fail
    go_meet
    exact ⟨rfl,aB⟩
  ·refine y_a 9 rfl (fun K Qx hK=>?_)
   go_simp;refine hK _ _ oN ?_;clear hK K;generalize w2.alloc (.cells #[.string (bs wt),.string (bs s)] 9)=w4 at *;refine fd 3 fun K Qx hK=>?_;go_simp;refine (oU.o _).mono ?_;rintro e w7 ⟨rfl,rfl⟩;refine hK _ _ oN ?_;clear hK K;refine fd 5 fun K Qx hK=>?_;go_simp;refine (ee.o _).mono ?_;rintro e w7 ⟨rfl,rfl⟩;refine hK _ _ oN ?_;clear hK K;refine fp 6 ?_;refine fd 10 fun K Qx hK=>?_;go_simp;refine (jr.o _ _ bH).mono ?_;rintro e w5 ⟨rfl,aG⟩;refine hK _ _ oN ?_;clear hK K;have ax:=Zz (ar.o.trans aG);clear aG ar bH;refine fp 11 ?_;refine fd 12 fun K Qx hK=>?_;go_simp;refine (lX.o _).mono ?_;rintro e w6 ⟨rfl,ap⟩;refine hK _ _ oN ?_;clear hK K;have aB:=Zz (ax.o.trans ap);clear ap ax;refine fp 13 ?_;refine fp 14 ?_;refine fp 15 ?_;refine fp 16 ?_;refine fp 17 ?_;refine fe ?_;go_wp2_with fail
   go_meet
   exact ⟨rfl,aB⟩
 case rest =>
  obtain ⟨rfl,hk⟩:=hcut;go_wp2;go_ret;exact ⟨rfl,hk.o⟩
theorem ext_left (a b:List UInt8) (h:a.length=32):(bs (a++b)).extract 0 32=bs a:=by
 rw[z_0,List.drop_zero,<-h,Nat.sub_zero,List.take_left]
theorem ext_right (a b:List UInt8) (h:a.length=32) (k:b.length=16):(bs (a++b)).extract 32 48=bs b:=by
 rw[z_0,<-h,List.drop_left,q_t (by omega)]
def y_n (key nonce wt p:List UInt8):List UInt8:=z_H p (z_1 key nonce 1)++tagF key nonce wt (z_H p (z_1 key nonce 1))
theorem xorL_len (a b:List UInt8):(z_H a b).length=min a.length b.length:=by unfold z_H;rw[List.length_zipWith]
theorem v_I (key nonce wt p:List UInt8) (h:p.length=32):(y_n key nonce wt p).length=48:=by
 unfold y_n;rw[q_b,tagF_len,xorL_len,v_s,h];rfl
theorem xorL_back (a b:List UInt8) (h:a.length<=b.length):z_H (z_H a b) b=a:=by
 induction a generalizing b with
 | nil=>cases b<;>rfl
 | cons x a ih =>
  cases b with
  | nil=>simp at h
  | cons y b =>
   show (x ^^^ y ^^^ y)::z_H (z_H a b) b=x::a;rw[ih b (by simpa using h)];congr 1;apply UInt8.toNat_inj.1;rw[UInt8.toNat_xor,UInt8.toNat_xor,Nat.xor_assoc,Nat.xor_self,Nat.xor_zero]
theorem seal_any (w:World) (key nonce wt p:List UInt8) (hk:key.length=32) (hn:nonce.length=12) (hw:wt.length=16) (hp:p.length=32) :
  Cl 163 #[.string (bs key),.string (bs nonce),.string (bs wt),.string (bs p)] w fun e w'=>e=.returned (.tuple #[.string (bs (y_n key nonce wt p)),.int .i64 0])/\Kp NoB w w':=by
 have HS:=Zz (fun W=>aeshape_any W key nonce hk hn);have HC:=Zz (fun W=>crypt_any W key nonce p hk hn 1 (by decide) (by omega) (by omega))
 have ii:(z_H p (z_1 key nonce 1)).length=32:=by rw[xorL_len,v_s,hp];rfl
 have HT:=Zz (fun W=>tag_any W key nonce wt (z_H p (z_1 key nonce 1)) hk hn hw ii)
 have z1:(bs wt).size=16:=by rw[z_b,hw]
 have z2:(bs p).size=32:=by rw[z_b,hp]
 have z3:(bs (z_H p (z_1 key nonce 1))).size=32:=by rw[z_b,ii]
 have z4:(bs (tagF key nonce wt (z_H p (z_1 key nonce 1)))).size=16:=by rw[z_b,tagF_len]
 have sQ:bs (z_H p (z_1 key nonce 1))++bs (tagF key nonce wt (z_H p (z_1 key nonce 1)))=bs (y_n key nonce wt p):=y_f _ _;clear ii;generalize y_n key nonce wt p=RES at *;generalize tagF key nonce wt (z_H p (z_1 key nonce 1))=T at *;generalize z_H p (z_1 key nonce 1)=S at *;go_enter func163,ntmps163;go_wp2_with fail;refine (HS.o _).mono ?_;rintro e w1 ⟨rfl,rfl⟩;go_wp2_with fail;refine (HC.o _).mono ?_;rintro e w2 ⟨rfl,ag⟩;have al:=Zz ag;clear ag;go_wp2_with fail;refine (HT.o _).mono ?_;rintro e w3 ⟨rfl,au⟩;have ar:=Zz (al.o.trans au);clear au;go_wp2;go_ret2;exact ⟨rfl,ar.o⟩
theorem open_any (w:World) (key nonce wt p:List UInt8) (hk:key.length=32) (hn:nonce.length=12) (hw:wt.length=16) (hp:p.length=32) :
  Cl 152 #[.string (bs key),.string (bs nonce),.string (bs wt),.string (bs (y_n key nonce wt p))] w fun e w'=>e=.returned (.tuple #[.string (bs p),.int .i64 0])/\Kp NoB w w':=by
 have HS:=Zz (fun W=>aeshape_any W key nonce hk hn)
 have ii:(z_H p (z_1 key nonce 1)).length=32:=by rw[xorL_len,v_s,hp];rfl
 have HC:=Zz (fun W=>crypt_any W key nonce (z_H p (z_1 key nonce 1)) hk hn 1 (by decide) (by omega) (by omega));rw[xorL_back p (z_1 key nonce 1) (by rw[v_s];omega)] at HC;have HT:=Zz (fun W=>tag_any W key nonce wt (z_H p (z_1 key nonce 1)) hk hn hw ii);have HE:=Zz (fun W=>peq_any W (tagF key nonce wt (z_H p (z_1 key nonce 1))) (by rw[tagF_len];decide))
 have z1:(bs wt).size=16:=by rw[z_b,hw]
 have z4:(bs (y_n key nonce wt p)).size=48:=by rw[z_b,v_I _ _ _ _ hp]
 have vp:y_n key nonce wt p=z_H p (z_1 key nonce 1)++tagF key nonce wt (z_H p (z_1 key nonce 1)):=by unfold y_n;rfl
 have xY:=ext_left (z_H p (z_1 key nonce 1)) (tagF key nonce wt (z_H p (z_1 key nonce 1))) ii;have kD:=ext_right (z_H p (z_1 key nonce 1)) (tagF key nonce wt (z_H p (z_1 key nonce 1))) ii (tagF_len _ _ _ _);rw[<-vp] at xY kD;clear vp;clear ii;generalize y_n key nonce wt p=RES at *;generalize tagF key nonce wt (z_H p (z_1 key nonce 1))=T at *;generalize z_H p (z_1 key nonce 1)=S at *;go_enter func152,ntmps152;go_wp2_with fail;refine (HS.o _).mono ?_;rintro e w1 ⟨rfl,rfl⟩
 go_upto_region 8 with fail
 have bZ:=Zz (Kp.refl NoB w1).drew;refine fs ?_;generalize w1.drew=w2 at *;refine fp 0 ?_;refine fp 1 ?_;refine fp 2 ?_;refine fp 3 ?_;refine fp 4 ?_;refine fp 5 ?_;refine fp 6 ?_;refine fp 7 ?_;refine fp 8 ?_;refine fd 9 fun K Qx hK=>?_;go_simp;refine (HT.o _).mono ?_;rintro e w3 ⟨rfl,au⟩;refine hK _ _ oN ?_;clear hK K;have ar:=Zz (bZ.o.trans au);clear au;refine fd 10 fun K Qx hK=>?_;go_simp;refine (HE.o _).mono ?_;rintro e w4 ⟨rfl,aw⟩;refine hK _ _ oN ?_;clear hK K;have az:=Zz (ar.o.trans aw);clear aw;refine fp 11 ?_;refine fp 12 ?_;refine fe ?_;go_wp2_with fail;refine (HC.o _).mono ?_;rintro e w5 ⟨rfl,aG⟩;have ax:=Zz (az.o.trans aG);clear aG;go_wp2;go_ret2;exact ⟨rfl,ax.o⟩
def zv (L:List Nat):List Value:=L.map fun n:Nat=>.int .i64 n
theorem z_w (L:List Nat):(zv L).length=L.length:=by simp[zv]
theorem zv_at (L:List Nat) (i:Nat) (h:i<L.length):(zv L)[i]?=some (.int .i64 (L.getD i 0:Nat)):=by
 simp[zv,q_a,h]
def z_p (s t:Nat):List Nat:=if s=2 then [1] else [1,2+t / 2]
theorem y_1 (s t:Nat):(z_p s t).length=dep s:=by unfold z_p dep;split<;>rfl
def sl (s:Nat):Prop:=s=2\/s=4
def w_Z:Prop:=∀(w:World) (s t:Nat),sl s->t<s->Lay w->10<=w.heap.size ->
 Cl 171 #[.int .i64 s,.int .i64 t] w fun e w'=>∃u,e=.returned (.tuple #[u,.int .i64 0])/\z_g w' u (zv (z_p s t))/\Kp NoB w w'
def slC (b i s:Nat) (key:List UInt8):Array Value:=#[.pointer (some ⟨b,0,none⟩),.int .i64 i,.int .i64 s,.string (bs key)]
section
variable {w:World} {b n i s t:Nat} {key:List UInt8} {σ:Nat->DkS} {F:Nat->Prop}
theorem bdisk_any (h:Bk w b n σ F) (i:Nat) (hi:i<n) :
  Cl 45 #[.pointer (some ⟨b,0,none⟩),.int .i64 i] w fun e w'=>∃d,e=.returned (.pointer (some ⟨d,0,none⟩))/\w'=w:=by
 obtain ⟨G,c,st,A,Φ,h0,hF⟩:=h;refine (v_f h0 i hi).mono ?_;rintro e w' ⟨rfl,rfl⟩;exact ⟨_,rfl,rfl⟩
theorem w_9 (hP:w_Z) (hL:Lay w) (h:Bk w b n σ F) (hw:10<=w.heap.size) (hi:i<n) (hs:sl s) (hk:key.length=32) :
  Cl 140 #[.agg (slC b i s key)] w fun e w'=>e=.returned (.bool true)/\Kp NoB w w':=by
 have HB:=Zz (Blk.new w 139 (slC b i s key));have HK:=Zz ((Kp.refl NoB w).alloc (.cells (slC b i s key) 139));have cM:=Zz (fun W hW bE=>hP W s 0 hs (by rcases hs with rfl|rfl<;>decide) hW bE);have eS:=Zz h;have bj:=Zz hL
 have hz:(bs key).size=32:=by rw[z_b,hk]
 clear hP hs hL;change Cl 140 #[.agg #[.pointer (some ⟨b,0,none⟩),.int .i64 i,.int .i64 s,.string (bs key)]] w _;go_enter func140,ntmps140
 go_upto_region 1 with fail
 change Code.wp _ _ _ _ (w.alloc (.cells (slC b i s key) 139));generalize aN:w.alloc (.cells (slC b i s key) 139)=w1 at *;clear aN
 have fi:10<=w1.heap.size:=by have:=HK.o.size;omega
 generalize w.heap.size=G at *;have c0:=HB.o.c0;have c1:=HB.o.c1;have c2:=HB.o.c2;have c3:=HB.o.c3;go_wp2_with fail;refine (cM.o _ (bj.o.no HK.o) fi).mono ?_;rintro e w2 ⟨u,rfl,hu,ag⟩;have ak:=Zz (HB.o.kp ag fun h=>h);have al:=Zz (HK.o.trans ag);clear ag c0 c1 c2 c3 HB HK hu;have c0:=ak.o.c0;have c1:=ak.o.c1;have c3:=ak.o.c3;go_wp2_with fail;refine (bdisk_any (eS.o.no al.o) i hi).mono ?_;rintro e w3 ⟨d,rfl,rfl⟩;go_wp2;go_ret;exact ⟨rfl,al.o⟩
theorem v_L (hP:w_Z) (hL:Lay w) (h:Bk w b n σ F) (hw:10<=w.heap.size) (hi:i<n) (hs:sl s) (hk:key.length=32) (ht:t<s) :
  Cl 150 #[.agg (slC b i s key),.int .i64 t] w fun e w'=>e=.returned (.int .i64 0)/\Kp NoB w w':=by
 have HB:=Zz (Blk.new w 139 (slC b i s key));have HK:=Zz ((Kp.refl NoB w).alloc (.cells (slC b i s key) 139))
 have aN:10<=(w.alloc (.cells (slC b i s key) 139)).heap.size:=by have:=HK.o.size;omega
 have HG:=Zz (w_9 hP (hL.no HK.o) (h.no HK.o) aN hi hs hk)
 have Bf:¬((s:Int)<=(t:Int)):=by omega
 have uY:¬((t:Int)<0):=by omega
 have iD:decide (s<=t)=false:=q_v (by omega);clear hP hs hL h aN;change Cl 150 #[.agg #[.pointer (some ⟨b,0,none⟩),.int .i64 i,.int .i64 s,.string (bs key)],.int .i64 t] w _;go_enter func150,ntmps150
 go_upto_region 1 with fail
 change Code.wp _ _ _ _ (w.alloc (.cells (slC b i s key) 139));generalize aN:w.alloc (.cells (slC b i s key) 139)=w1 at *;clear aN;generalize w.heap.size=G at *;have c0:=HB.o.c0;have c1:=HB.o.c1;have c2:=HB.o.c2;have c3:=HB.o.c3;go_wp2_with fail;refine HG.o.mono ?_;rintro e w2 ⟨rfl,ag⟩;have ak:=Zz (HB.o.kp ag fun h=>h);have al:=Zz (HK.o.trans ag);clear ag c0 c1 c2 c3 HB HK;have c2:=ak.o.c2;go_wp2;go_ret;exact ⟨rfl,al.o⟩
def y_m (i t:Nat):List UInt8:=z_k i++z_k t
theorem withB_len (i t:Nat):(y_m i t).length=16:=by unfold y_m;rw[q_b,z_m,z_m]
theorem slwith_any (w:World) (b i s t:Nat) (key:List UInt8) (hi:i<1000) (ht:t<1000) :
  Cl 153 #[.agg (slC b i s key),.int .i64 t] w fun e w'=>e=.returned (.string (bs (y_m i t)))/\Kp NoB w w':=by
 have HB:=Zz (Blk.new w 139 (slC b i s key));have HK:=Zz ((Kp.refl NoB w).alloc (.cells (slC b i s key) 139));have g9:=Zz (fun W=>x_B W i (by omega));have qt:=Zz (fun W=>x_B W t (by omega))
 have z1:(bs (z_k i)).size=8:=by rw[z_b,z_m]
 have z2:(bs (z_k t)).size=8:=by rw[z_b,z_m]
 have sQ:bs (z_k i)++bs (z_k t)=bs (y_m i t):=y_f _ _
 have Mm:IntKind.u64.wrap (i:Int)=(i:Int):=by rw[q_s];omega
 have Qn:IntKind.u64.wrap (t:Int)=(t:Int):=by rw[q_s];omega
 generalize y_m i t=R at *
 generalize bs (z_k i)=X at *;generalize bs (z_k t)=Y at *;change Cl 153 #[.agg #[.pointer (some ⟨b,0,none⟩),.int .i64 i,.int .i64 s,.string (bs key)],.int .i64 t] w _;go_enter func153,ntmps153
 go_upto_region 1 with fail
 change Code.wp _ _ _ _ (w.alloc (.cells (slC b i s key) 139));generalize aN:w.alloc (.cells (slC b i s key) 139)=w1 at *;clear aN;generalize w.heap.size=G at *;have c1:=HB.o.c1;go_wp2_with fail;refine (g9.o _).mono ?_;rintro e w2 ⟨rfl,ag⟩;have al:=Zz (HK.o.trans ag);go_wp2_with fail;refine (qt.o _).mono ?_;rintro e w3 ⟨rfl,au⟩;have ar:=Zz (al.o.trans au);go_wp2;go_ret;exact ⟨rfl,ar.o⟩
def chkB (key nonce:List UInt8) (i t:Nat) (p:List UInt8):ByteArray:=bs (nonce++y_n key nonce (y_m i t) p)
theorem chkB_size (key nonce:List UInt8) (i t:Nat) (p:List UInt8) (hn:nonce.length=12) (hp:p.length=32):(chkB key nonce i t p).size=60:=by
 unfold chkB;rw[z_b,q_b,v_I _ _ _ _ hp,hn]
theorem slseal_any (hP:w_Z) (hL:Lay w) (h:Bk w b n σ F) (hw:10<=w.heap.size) (hi:i<n) (hn:n<=12) (hs:sl s) (hk:key.length=32) (ht:t<s) (nonce p:List UInt8) (ls:nonce.length=12) (hp:p.length=32) :
  Cl 106 #[.agg (slC b i s key),.int .i64 t,.string (bs nonce),.string (bs p)] w fun e w'=>e=.returned (.tuple #[.string (chkB key nonce i t p),.int .i64 0])/\Kp NoB w w':=by
 have HB:=Zz (Blk.new w 139 (slC b i s key));have HK:=Zz ((Kp.refl NoB w).alloc (.cells (slC b i s key) 139))
 have aN:10<=(w.alloc (.cells (slC b i s key) 139)).heap.size:=by have:=HK.o.size;omega
 have HG:=Zz (v_L hP (hL.no HK.o) (h.no HK.o) aN hi hs hk ht);have DT:=Zz (fun W=>slwith_any W b i s t key (by omega) (by rcases hs with rfl|rfl<;>omega));have mz:=Zz (fun W=>seal_any W key nonce (y_m i t) p hk ls (withB_len i t) hp)
 have z1:(bs nonce).size=12:=by rw[z_b,ls]
 have z2:(bs p).size=32:=by rw[z_b,hp]
 have z3:(bs (y_n key nonce (y_m i t) p)).size=48:=by rw[z_b,v_I _ _ _ _ hp]
 have sQ:bs nonce++bs (y_n key nonce (y_m i t) p)=chkB key nonce i t p:=y_f _ _;have Mn:(slC b i s key).size=4:=rfl
 have ae:(prog.info? 139).map (·.size)=some 4:=by kernel_rfl
 have bA:=Zz ae;clear hP hs hL h aN ae;generalize chkB key nonce i t p=R at *;generalize bs (y_n key nonce (y_m i t) p)=SF at *;generalize y_m i t=WB at *;change Cl 106 #[.agg #[.pointer (some ⟨b,0,none⟩),.int .i64 i,.int .i64 s,.string (bs key)],.int .i64 t,.string (bs nonce),.string (bs p)] w _;go_enter func106,ntmps106
 go_upto_region 1 with fail
 change Code.wp _ _ _ _ (w.alloc (.cells (slC b i s key) 139));generalize aN:w.alloc (.cells (slC b i s key) 139)=w1 at *;clear aN;generalize w.heap.size=G at *;have c0:=HB.o.c0;have c1:=HB.o.c1;have c2:=HB.o.c2;have c3:=HB.o.c3;go_wp2_with fail;refine HG.o.mono ?_;rintro e w2 ⟨rfl,ag⟩;have ak:=Zz (HB.o.kp ag fun h=>h).drew;have al:=Zz (HK.o.trans ag).drew;clear ag c0 c1 c2 c3 HB HK
 go_upto_region 6 with fail
 refine fs ?_;generalize w2.drew=w3 at *;have c3:=ak.o.c3;refine fp 0 ?_;refine f_c 1 c3 ?_;refine fp 2 ?_;refine fr_rdx 3 (fun W=>Blk W G 139 (slC b i s key)) rfl rfl rfl (by kernel_rfl) (by kernel_rfl) ak.o (fun W hW=>z_aa rfl rfl hW underlying139 rfl bA.o) ?_;refine fp 4 ?_;refine fp 6 ?_;refine fd 5 fun K Qx hK=>?_;go_simp;refine (DT.o _).mono ?_;rintro e w4 ⟨rfl,aw⟩;have bR:=Zz (ak.o.kp aw fun h=>h);have az:=Zz (al.o.trans aw);refine hK _ _ (oW (oK (bR.o.cell 3) oN)) ?_;clear hK K c3 aw ak al;refine fd 7 fun K Qx hK=>?_;go_simp;refine (mz.o _).mono ?_;rintro e w5 ⟨rfl,aG⟩;have ax:=Zz (az.o.trans aG);refine hK _ _ (oW (oW oN)) ?_;clear hK K aG bR az;refine fp 8 ?_;refine fp 9 ?_;refine fp 10 ?_;refine fp 11 ?_;refine fp 12 ?_;refine fe ?_;go_wp2;go_ret2;exact ⟨rfl,ax.o⟩
end
end Go.Proofs.YtdkheklakfbeeaaGreatDoor
