/- Part 13 of the proof. -/
import Derived.Lib.AppendStr
import Derived.Test.YtdkheklakfbeeaaGreatDoorM12
set_option linter.all false
set_option maxRecDepth 100000
set_option maxHeartbeats 16000000
namespace Go.Proofs.YtdkheklakfbeeaaGreatDoor
open Go.RowKit Tryz
theorem leWs_length (l:List UInt8):(y_k l).length=l.length / 4:=by simp[y_k]
theorem zerosU16:(#[.int .u32 0,.int .u32 0,.int .u32 0,.int .u32 0,.int .u32 0,.int .u32 0,.int .u32 0,.int .u32 0,.int .u32 0,.int .u32 0,.int .u32 0,.int .u32 0,.int .u32 0,.int .u32 0,.int .u32 0,.int .u32 0]:Array Value)=(uv (List.replicate 16 0)).toArray:=by rfl
theorem W32.app {a b:List Nat} (ha:W32 a) (hb:W32 b):W32 (a++b):=by
 intro i;rw[q_a];rcases Nat.lt_or_ge i a.length with h|h
 ·rw[q_F h,<-q_a];exact ha i
 ·rw[q_u h,<-q_a];exact hb _
theorem leWs_w32 (l:List UInt8):W32 (y_k l):=by
 intro i;unfold y_k;rw[q_a,q_j]
 cases e:(List.range (l.length / 4))[i]? with
 | none=>simp
 | some j =>
  rw[Option.map_some,Option.getD_some];exact leW_lt l j
theorem W32.one {c:Nat} (h:c<4294967296):W32 [c]:=by
 intro i
 cases i with
 | zero=>exact h
 | succ i=>simp
theorem chS_lt (key nonce:List UInt8) {dh:Nat} (h:dh<4294967296):W32 (chS key nonce dh):=((leWs_w32 _).app (.one h)).app (leWs_w32 _)
theorem sizeA16:(prog.info? 345).map (·.size)=some 16:=by kernel_rfl
theorem stream_any (w:World) (key nonce:List UInt8) (hk:key.length=32) (hn:nonce.length=12) (dh:Nat) (hc:dh<4294967296) :
  Cl 246 #[.string (bs key),.string (bs nonce),.int .u32 dh] w fun e w'=>e=.returned (.string (bs (z_1 key nonce dh)))/\Kp NoB w w':=by
 have LM:Hid ((⟨#[101,120,112,97,110,100,32,51,50,45,98,121,116,101,32,107]⟩:ByteArray)++bs key=bs ([101,120,112,97,110,100,32,51,50,45,98,121,116,101,32,107]++key)):=Zz (y_f [101,120,112,97,110,100,32,51,50,45,98,121,116,101,32,107] key)
 have h48:¬(9223372036854775807<16+(bs key).size):=by rw[z_b,hk];omega
 have aR:Hid (z_1 key nonce dh=leL (x_J (dblR (chS key nonce dh) 10) (chS key nonce dh) 16)):=Zz rfl;have iV:Hid (y_k ([101,120,112,97,110,100,32,51,50,45,98,121,116,101,32,107]++key)++[dh]++y_k nonce=chS key nonce dh):=Zz rfl;have AX:=Zz (chS_lt key nonce hc);generalize z_1 key nonce dh=RES at *;generalize chS key nonce dh=X at *;have fX:Hid ((bs ([101,120,112,97,110,100,32,51,50,45,98,121,116,101,32,107]++key)).size=48):=Zz (by rw[z_b,q_b,hk];rfl);go_enter func246,ntmps246;go_wp2_with fail;rw[LM.o];refine (v_a _ _ (by rw[fX.o];omega) (by rw[fX.o])).mono ?_;rintro e w1 ⟨vl,rfl,LW,ay⟩;have ly:=Zz LW;have aW:=Zz (Kp.of_below ay NoB);have af:∀q,vl.ownBlock=some q->q<w1.heap.size:=fun q hq=>(LW.lt q hq).2;have fG:=Zz af;clear af;clear LW ay;go_wp2_with fail;refine (v_a _ _ (by rw[z_b,hn];omega) (by rw[z_b,hn])).mono ?_;rintro e w2 ⟨vn,rfl,LX,am⟩
 have aA:vn.ownBlock=none\/vn.ownBlock≠vl.ownBlock:=by
  cases h:vn.ownBlock with
  | none=>exact .inl rfl
  | some q=>exact .inr fun e=>by have h1:=fG.o q e.symm;have h2:=(LX.lt q h).1;omega
 have qk:=Zz aA;have AZ:=Zz LX;clear aA;have xO:=Zz (ly.o.kp (Kp.of_below am NoB) fun _ _ h=>h);have al:=Zz (aW.o.trans (Kp.of_below am NoB));clear LX am ly aW;obtain ⟨lw,xP⟩:∃l,y_k ([101,120,112,97,110,100,32,51,50,45,98,121,116,101,32,107]++key)=l:=⟨_,rfl⟩;rw[z_Y,xP] at xO;rw[xP] at iV;have qe:Hid (lw.length=12):=Zz (by rw[<-xP,leWs_length,q_b,hk];rfl);obtain ⟨nw,rP⟩:∃l,y_k nonce=l:=⟨_,rfl⟩;rw[z_Y,rP] at AZ;rw[rP] at iV;have eu:Hid (nw.length=3):=Zz (by rw[<-rP,leWs_length,hn]);clear xP rP;obtain ⟨an,cn,rfl⟩:=AZ.o.shape
 go_upto_region 4 with fail
 rw[zerosU16];have HF:=Zz (Blk.new w2 345 (uv (List.replicate 16 0)).toArray).drew;have ID:=Zz ((AZ.o.alloc (.cells (uv (List.replicate 16 0)).toArray 345)).drew);have iG:=Zz ((xO.o.alloc (.cells (uv (List.replicate 16 0)).toArray 345)).drew);have ar:=Zz ((al.o.alloc (.cells (uv (List.replicate 16 0)).toArray 345)).drew);have WG:=Zz al.o.size;clear AZ xO al;refine v_C (by kernel_rfl) ?_;change Fr _ _ _ _ _ _ _ (w2.alloc (.cells (uv (List.replicate 16 0)).toArray 345)).drew;generalize (w2.alloc (.cells (uv (List.replicate 16 0)).toArray 345)).drew=w4 at *;generalize w2.heap.size=F at *;refine fp 0 ?_;refine fp 1 ?_;refine fp 2 ?_;refine fp 5 ?_;refine fd 3 fun K Qx hK=>?_;go_simp;refine hK _ _ oN ?_;clear hK K;have LY:=Zz (HF.o.alloc (.cells #[.int .u32 dh] 213));have oe:=Zz (ID.o.alloc (.cells #[.int .u32 dh] 213));have n9:=Zz (iG.o.alloc (.cells #[.int .u32 dh] 213));have ax:=Zz (ar.o.alloc (.cells #[.int .u32 dh] 213));have ql:=Zz ((Own.lit_ w4 w4.heap.size 213 #[.int .u32 dh] (q_e _) (by show 1<=maxLen;decide)).reads);clear HF ID iG ar;generalize w4.alloc (.cells #[.int .u32 dh] 213)=w5 at *;generalize w4.heap.size=g4 at *;refine y_L 4 rfl rfl (by kernel_rfl) ?_;refine x_S rfl underlying215 infoU rfl (by decide) rfl rfl (w_u [dh]) n9.o ql.o (by show 0<1;decide) ax.o.size (by rw[z_l,z_l,qe.o];show (12+1)*4<=140737488355328;omega) ?_;intro v1 w6 tc qm;refine ⟨oN,?_⟩;have hF:some F≠vl.ownBlock:=LY.o.own_no n9.o (by decide);have LZ:=Zz (LY.o.grown qm hF);have ns:=Zz (oe.o.keep qm qk.o);have aB:=Zz (ax.o.then (Kp.of_grown qm (S:=fun q=>some q=vl.ownBlock) fun _ h=>h) fun q hq h=>by have:=(n9.o.lt q h.symm).1;omega);have dG:=Zz tc;clear LY oe ax n9 ql tc qm hF;refine y_L 6 rfl rfl (by kernel_rfl) ?_;refine x_S rfl underlying215 infoU rfl (by decide) rfl rfl (w_u nw) dG.o ns.o.reads (by rw[z_l,eu.o];decide) aB.o.size (by rw[q_b,z_l,z_l,z_l,qe.o,eu.o];show (12+1+3)*4<=140737488355328;omega) ?_;intro v2 w7 td o9;refine ⟨oN,?_⟩;have hF:some F≠v1.ownBlock:=LZ.o.own_no dG.o (by decide);have L1:=Zz (LZ.o.grown o9 hF);have bC:=Zz (aB.o.then (Kp.of_grown o9 (S:=fun q=>some q=v1.ownBlock) fun _ h=>h) fun q hq h=>by have:=(dG.o.lt q h.symm).1;omega)
 have Re:uv lw++uv [dh]++uv nw=uv X:=by rw[<-iV.o];simp[uv]
 rw[Re] at td;have eM:=Zz td;have iA:Hid (X.length=16):=Zz (by rw[<-iV.o,q_b,q_b,qe.o,eu.o];rfl);clear LZ ns aB dG td o9 hF Re;obtain ⟨a2,c2,rfl⟩:=eM.o.shape;refine y_L 7 rfl rfl (by kernel_rfl) ?_;refine ex_copy rfl underlying215 sizeU rfl rfl L1.o eM.o.reads (by rw[z_l,iA.o];decide) (by rw[z_l,iA.o];decide) (by rw[z_l,iA.o];decide) (w_u X) ?_;refine ⟨oN,?_⟩;refine fe ?_
 have he:(List.take 0 (uv (List.replicate 16 0)).toArray.toList++uv X++List.drop (0+(uv X).length) (uv (List.replicate 16 0)).toArray.toList).toArray=(uv X).toArray:=by
  have h1:List.drop (0+(uv X).length) (uv (List.replicate 16 0)).toArray.toList=[]:=List.drop_eq_nil_of_le (by show (List.replicate 16 (0:Nat)).length<=_;rw[z_l,iA.o];decide);rw[h1];simp
 rw[he];have IE:=Zz (L1.o.setRow (cs':=(uv X).toArray));have bq:=Zz (bC.o.setRow F (uv X).toArray (.inr WG.o));clear L1 bC eM qk fG he iV;generalize w7.setRow F (uv X).toArray=w8 at *;simp only[Act.put,q_A,List.set_cons_zero,List.set_cons_succ,List.getElem_toArray,List.getElem_cons_succ,List.getElem_cons_zero];have ms:Hid ((uv X).toArray.size=16):=Zz (by rw[q_y,z_l,iA.o]);have aD:=all_uv X;have L2:=IE.o.lt
 go_wp2_with (first
  | (refine wpList_load_row rfl 345 (.tmp 11) rfl F rfl 345 _ (0,0) _ IE.o underlying345 rfl (by rw[ms.o];exact sizeA16) ?_)
  | (refine wpList_store_row rfl 345 (.tmp 12) (.tmp 35) rfl w8.heap.size _ rfl rfl 345 _ (Blk.new w8 _ _) (by rw[ms.o];exact sizeA16) (by rw[ms.o];rfl) aD ?_;go_must (
    rw[zerosU16];have ig:=Zz ((Blk.new w8 345 (uv (List.replicate 16 0)).toArray).setRow (cs':=(uv X).toArray));have L3:=Zz ((IE.o.alloc (.cells (uv (List.replicate 16 0)).toArray 345)).farRow (g:=w8.heap.size) (cs':=(uv X).toArray) (q_E L2));have aT:=Zz ((bq.o.alloc (.cells (uv (List.replicate 16 0)).toArray 345)).setRow w8.heap.size (uv X).toArray (.inr bq.o.size));have ll:=Zz bq.o.size;have te:=Zz L2;obtain ⟨w9,Rf⟩:∃w9,(w8.alloc (.cells (uv (List.replicate 16 0)).toArray 345)).setRow w8.heap.size (uv X).toArray=w9:=⟨_,rfl⟩;rw[Rf] at ig L3 aT ⊢;clear Rf IE bq L2
    generalize w8.heap.size=S at *)))
 go_loopw [13,14,36,38,50] (fun _ _ s36 _ _ wr=>∃i:Nat,i<=10/\s36=.int .i64 i/\Hid (Blk wr S 345 (uv (dblR X i)).toArray)/\Hid (Blk wr F 345 (uv X).toArray)/\Hid (Kp NoB w wr)) (fun _ _ s36 _ _ _=>10-(intOf s36).toNat)
 case atStart=>exact ⟨0,by omega,rfl,ig,L3,aT⟩
 case round =>
  clear ig L3 aT;obtain ⟨i,hi,rfl,HS,HF,HK⟩:=hrel;by_cases af:i<10
  ·have bt:(i:Int)<10:=by omega
   go_wp2
   go_loopw [13,38] (fun _ s38 wr=>∃k:Nat,k<=4/\s38=.int .i64 k/\Hid (Blk wr S 345 (uv (colR (dblR X i) k)).toArray)/\Hid (Blk wr F 345 (uv X).toArray)/\Hid (Kp NoB w wr)) (fun _ s38 _=>4-(intOf s38).toNat)
   case atStart=>exact ⟨0,by omega,rfl,HS,HF,HK⟩
   case round =>
    clear HS HF HK;obtain ⟨k,aw,rfl,HS,HF,HK⟩:=hrel;by_cases bo:k<4
    ·have dN:(k:Int)<4:=by omega
     go_wp2_with fail;rw[show (k:Int)+4=((k+4:Nat):Int) by omega,show (k:Int)+8=((k+8:Nat):Int) by omega,show (k:Int)+12=((k+12:Nat):Int) by omega];refine (quarter_any _ S (colR (dblR X i) k) (colR_len (dblR_len iA.o i) k) (colR_lt (dblR_lt AX.o i) k) k (k+4) (k+8) (k+12) (by omega) (by omega) (by omega) (by omega) HS.o).mono ?_;rintro e wq ⟨rfl,DF,xR⟩;have fh:Hid (Blk wq S 345 (uv (colR (dblR X i) (k+1))).toArray):=Zz DF;have jM:=Zz (HF.o.kp xR (fun h=>by have h:F=S:=h;have:=te.o;omega));have al:=Zz (HK.o.then xR (T:=(·=S)) fun q hq h=>by have h:q=S:=h;have:=ll.o;omega);clear DF xR HS HF HK;go_wp2;go_roundw
     case rel=>exact ⟨k+1,by omega,by go_num,fh,jM,al⟩
     case measure=>simp[intOf];omega
    ·obtain rfl:k=4:=by omega
     go_wp2;have fI:Hid (Blk wr S 345 (uv (diaR (colR (dblR X i) 4) 0)).toArray):=HS;clear HS
     go_loopw [14,50] (fun _ s50 wr=>∃k:Nat,k<=4/\s50=.int .i64 k/\Hid (Blk wr S 345 (uv (diaR (colR (dblR X i) 4) k)).toArray)/\Hid (Blk wr F 345 (uv X).toArray)/\Hid (Kp NoB w wr)) (fun _ s50 _=>4-(intOf s50).toNat)
     case atStart=>exact ⟨0,by omega,rfl,fI,HF,HK⟩
     case round =>
      clear fI HF HK;obtain ⟨k,aw,rfl,HS,HF,HK⟩:=hrel;by_cases bo:k<4
      ·have dN:(k:Int)<4:=by omega
       go_wp2_with fail;rw[show (4:Int)+((k:Int)+1) % 4=((4+(k+1) % 4:Nat):Int) by omega,show (8:Int)+((k:Int)+2) % 4=((8+(k+2) % 4:Nat):Int) by omega,show (12:Int)+((k:Int)+3) % 4=((12+(k+3) % 4:Nat):Int) by omega];refine (quarter_any _ S (diaR (colR (dblR X i) 4) k) (diaR_len (colR_len (dblR_len iA.o i) 4) k) (diaR_lt (colR_lt (dblR_lt AX.o i) 4) k) k (4+(k+1) % 4) (8+(k+2) % 4) (12+(k+3) % 4) (by omega) (by omega) (by omega) (by omega) HS.o).mono ?_;rintro e wq ⟨rfl,DF,xR⟩;have fh:Hid (Blk wq S 345 (uv (diaR (colR (dblR X i) 4) (k+1))).toArray):=Zz DF;have jM:=Zz (HF.o.kp xR (fun h=>by have h:F=S:=h;have:=te.o;omega));have al:=Zz (HK.o.then xR (T:=(·=S)) fun q hq h=>by have h:q=S:=h;have:=ll.o;omega);clear DF xR HS HF HK;go_wp2;go_roundw
       case rel =>
        refine ⟨_,_,_,_,_,_,_,_,_,_,_,_,_,_,_,_,_,_,_,?_,rfl⟩;exact ⟨k+1,by omega,by go_num,fh,jM,al⟩
       case measure=>simp[intOf];omega
      ·obtain rfl:k=4:=by omega
       go_wp2;go_roundw
       case rel=>exact ⟨i+1,by omega,by go_num,HS,HF,HK⟩
       case measure=>simp[intOf];omega
  ·obtain rfl:i=10:=by omega
   have Rg:=addS_zero (dblR_len iA.o 10) X;generalize dblR X 10=Y at *;go_wp2
   go_loopw [15,69] (fun _ s69 wr=>∃j:Nat,j<=16/\s69=.int .i64 j/\Hid (Blk wr S 345 (uv (x_J Y X j)).toArray)/\Hid (Blk wr F 345 (uv X).toArray)/\Hid (Kp NoB w wr)) (fun _ s69 _=>16-(intOf s69).toNat)
   case atStart=>exact ⟨0,by omega,rfl,by rw[Rg];exact HS,HF,HK⟩
   case round =>
    clear HS HF HK Rg;obtain ⟨j,hj,rfl,HS,HF,HK⟩:=hrel;by_cases af:j<16
    ·have cF:(j:Int)<16:=by omega
     have c1:=z_E HS.o j (by rw[w_Q];exact af);rw[addS_at af,if_neg (Nat.lt_irrefl j)] at c1;have c2:=z_E HF.o j (by rw[iA.o];exact af);have fz:=HS.o.frozen j;have cL:∀x:Nat,Blk (wr.drew.setCell ⟨S,j,none⟩ (.int .u32 x)) S 345 (uv ((x_J Y X j).set j x)).toArray:=fun x=>x_I HS.o.drew j x;have bl:=Zz cL;clear cL;have L5:=Zz (addS_set (X:=Y) (Y:=X) af);have aA:=te.o;have vh:∀x:Nat,Blk (wr.drew.setCell ⟨S,j,none⟩ (.int .u32 x)) F 345 (uv X).toArray:=fun x=>HF.o.drew.far (p:=⟨S,j,none⟩) (q_E aA) _;have DH:=Zz vh;clear vh;obtain ⟨q,hq⟩:∃q,(Y.getD j 0+X.getD j 0) % 4294967296=q:=⟨_,rfl⟩;have HQ:=Zz hq;generalize Y.getD j 0=y at *;generalize X.getD j 0=x at *;have hs:=w_A y x q hq;clear hq;go_wp2;have d1:wr.drew.cell? ⟨S,j,none⟩=_:=c1;have d2:wr.drew.cell? ⟨F,j,none⟩=_:=c2;have dz:wr.drew.frozen? ⟨S,j,none⟩=_:=fz
     go_still_tail 7,(by kernel_rfl)
     go_wp2;go_roundw
     case rel =>
      refine ⟨_,_,_,_,_,_,_,_,_,_,_,_,_,?_,rfl⟩;exact ⟨j+1,by omega,by go_num,Zz (by rw[<-L5.o,HQ.o];exact bl.o q),Zz (DH.o q),Zz (HK.o.drew.setCell ⟨S,j,none⟩ _ (.inr ll.o))⟩
     case measure=>simp[intOf];omega
    ·obtain rfl:j=16:=by omega
     have L6:=w_Q Y X 16;generalize x_J Y X 16=Z at *;go_wp2_with fail
     have bH:z_g wr (.slice (some ⟨S,0,none⟩) 16 16) (uv Z):=by
      refine ⟨_,16,by rw[z_l,L6],by rw[z_l,L6];omega,by omega,fun _=>⟨S,0,rfl,fun j hj=>?_⟩⟩;rw[q_D,HS.o.cell,q_p]
     refine (w_O _ _ Z bH (by rw[L6];omega)).mono ?_;rintro e wf ⟨rfl,xT⟩;have WH:=Zz (HK.o.trans (Kp.of_below xT _));rw[<-aR.o];go_wp2;go_ret;exact ⟨rfl,WH.o⟩
theorem chshape_any (w:World) (key nonce:List UInt8) (hk:key.length=32) (hn:nonce.length=12) :
  Cl 245 #[.string (bs key),.string (bs nonce)] w fun e w'=>e=.returned (.bool true)/\w'=w:=by
 have h1:(bs key).size=32:=by rw[z_b,hk]
 have h2:(bs nonce).size=12:=by rw[z_b,hn]
 generalize bs key=s at *;generalize bs nonce=t at *;go_enter func245,ntmps245;go_wp2;go_ret;exact ⟨rfl,rfl⟩
theorem chblock_any (w:World) (key nonce:List UInt8) (hk:key.length=32) (hn:nonce.length=12) (dh:Nat) (hc:dh<4294967296) :
  Cl 241 #[.string (bs key),.string (bs nonce),.int .u32 dh] w fun e w'=>e=.returned (.tuple #[.string (bs (z_1 key nonce dh)),.int .i64 0])/\Kp NoB w w':=by
 have HS:=Zz (chshape_any w key nonce hk hn);have HT:=Zz (stream_any w key nonce hk hn dh hc);generalize z_1 key nonce dh=R at *;go_enter func241,ntmps241;go_wp2_with fail;refine HS.o.mono ?_;rintro e w1 ⟨rfl,rfl⟩;go_wp2_with fail;refine HT.o.mono ?_;rintro e w2 ⟨rfl,ag⟩;go_wp2;go_ret2;exact ⟨rfl,ag⟩
theorem strCells_bv (l:List UInt8):Lib.strCells (bs l)=bv l:=by simp[Lib.strCells,bs,bv]
theorem ex_appendS {P:Program} {ρ:Operand->Value} {w:World} {o:Oper} {s x:Operand} {t u e:TypeId} {base:Nat} {v:Value} {xs:List Value} {l:List UInt8} {R:Value->World->Prop} (h:o.op=.call { callee:=.builtin .append,args:=#[s,x],argTypes:=#[t,u] })
  (ht:P.underlying t=some (.slice e)) (hu:P.underlying u=some .string) (b5:(P.info? e).map (fun i=>(i.zero,i.size,i.bytes))=some (some (.int .u8 0),1,1))
  (hs:ρ s=v) (hx:ρ x=.string (bs l)) (HO:Own w base e v xs) (aP:base<=w.heap.size) (hl:xs.length+l.length<=140737488355328)
  (hR:∀v1 w1,Own w1 base e v1 (xs++bv l)->w.grownBy w1 v.ownBlock->R v1 w1):∃v1 w1,(execOp ρ o).run P w=.ok (.value v1) w1/\R v1 w1:=by
 obtain ⟨i0,hi,dB,dv,cX⟩:=info_parts b5;obtain ⟨v1,w1,nf,h2,hg,_⟩:=Lib.run_append_own_string (P:=P) w base t u o.type e i0 ht hu hi dB dv cX v xs.length xs HO (bs l) (by rw[z_b];simp only[maxLen];omega) (by rw[z_b];exact hl) aP;rw[strCells_bv] at h2;refine ⟨v1,w1,?_,hR v1 w1 (by unfold Own;rw[q_b,z_D];rw[z_b] at h2;exact h2) hg⟩;unfold execOp;simp only[h,resolve,invoke,builtin,Sem.run_bind,Sem.run_pure,Result.andThen_ok,List.map_toArray,List.map_cons,List.map_nil,hs,hx,nf]
theorem crypt_any (w:World) (key nonce l:List UInt8) (hk:key.length=32) (hn:nonce.length=12) (dh:Nat) (hc:dh<4294967295) (oT:0<l.length) (hl:l.length<=64) :
  Cl 210 #[.string (bs key),.string (bs nonce),.int .u32 dh,.string (bs l)] w fun e w'=>e=.returned (.tuple #[.string (bs (z_H l (z_1 key nonce dh))),.int .i64 0])/\Kp NoB w w':=by
 have HS:=Zz (chshape_any w key nonce hk hn);have HT:=Zz (fun W=>stream_any W key nonce hk hn dh (by omega));have HX:=Zz (fun W=>xor_ba (bs l) (bs (z_1 key nonce dh)) l (z_1 key nonce dh) rfl rfl (by rw[z_b];omega) W);have iA:Hid ((z_H l (z_1 key nonce dh)).length<=64):=Zz (by unfold z_H;rw[List.length_zipWith];omega);have aj:(bs l).size=l.length:=z_b l;have WI:(bs []).size=0:=rfl
 have LJ:¬((65536:Int)<(l.length:Int)):=by omega
 have bK:=make0 l.length (by omega) w;have cf:=Own.made0 w w.heap.size l.length (q_e _) (by omega);have bx:=(Kp.refl NoB w).alloc (.cells (madeCells #[.int .u8 0] l.length) 5);have DI:Hid ((bs l).extract 0 l.length=bs l):=Zz (by rw[z_0];simp);have WJ:Hid ((bs l).extract l.length l.length=bs []):=Zz (by rw[z_0];simp);obtain ⟨w0,dX⟩:∃w0,w.alloc (.cells (madeCells #[.int .u8 0] l.length) 5)=w0:=⟨_,rfl⟩;rw[dX] at bK cf bx;have HO:=Zz cf;have HK:=Zz bx;clear cf bx dX;generalize z_1 key nonce dh=T at *;generalize z_H l T=R at *;go_enter func210,ntmps210;go_wp2_with fail;refine HS.o.mono ?_;rintro e w1 ⟨rfl,rfl⟩;go_wp2;clear bK
 go_loopw [2,3,10,11] (fun s2 s3 s10 _ wr=>∃i:Nat,i<=1/\s2=.int .u32 (dh+i:Nat)/\s3=.string (if i=0 then bs l else bs [])/\Hid (Own wr w1.heap.size 5 s10 (bv (if i=0 then [] else R)))/\Hid (Kp NoB w1 wr)) (fun _ s3 _ _ _=>strLen s3)
 case atStart=>exact ⟨0,by omega,rfl,rfl,HO,HK⟩
 case round =>
  clear HO HK;obtain ⟨i,hi,rfl,rfl,HO,HK⟩:=hrel;rcases (by omega:i=0\/i=1) with rfl|rfl
  ·have nX:(0:Int)<(l.length:Int):=by omega
   have DJ:min (l.length:Int) 64=(l.length:Int):=by omega
   have IF:Hid (Own wr w1.heap.size 5 u10 (bv [])):=HO;have DK:=Zz IF.o.drew;have fZ:=Zz HK.o.drew;clear HO IF HK;simp only[if_true,Nat.add_zero]
   go_upto_region 9 with fail
   have LK:=DI.o;refine fs ?_;generalize wr.drew=w4 at *;refine fp 0 ?_;refine fp 1 ?_;refine fp 2 ?_;refine fp 3 ?_;refine fp 4 ?_;refine fp 5 ?_;refine fp 6 ?_;refine fd 7 fun K Qx hK=>?_;go_simp;refine (HT.o _).mono ?_;rintro e w5 ⟨rfl,aG⟩;refine hK _ _ oN ?_;clear hK K;have n9:=Zz (DK.o.kp aG fun _ _ h=>h);have ax:=Zz (fZ.o.trans aG);clear aG DK fZ;refine fd 8 fun K Qx hK=>?_;go_simp;refine (HX.o _).mono ?_;rintro e w6 ⟨rfl,eB⟩;refine hK _ _ oN ?_;clear hK K;have dG:=Zz (n9.o.below eB);have aB:=Zz (ax.o.trans (Kp.of_below eB _));clear eB n9 ax;refine y_L 9 rfl rfl (by kernel_rfl) ?_;refine ex_appendS rfl underlying105 underlying9 info5 rfl rfl dG.o aB.o.size (by have:=iA.o;simp only[z_D,List.length_nil];omega) ?_;intro v7 w7 td o9;have eM:Hid (Own w7 w1.heap.size 5 v7 (bv R)):=Zz td;have bC:=Zz (aB.o.then (Kp.of_grown o9 (S:=fun q=>some q=u10.ownBlock) fun _ h=>h) fun q hq h=>by have:=(dG.o.lt q h.symm).1;omega);clear td o9 dG aB;refine ⟨oN,?_⟩;refine fp 10 ?_;refine fe ?_;have Q7:=WJ.o
   have WK:((dh:Int)+1) % 4294967296=((dh+1:Nat):Int):=by omega
   go_wp2;go_roundw
   case rel=>exact ⟨1,by omega,rfl,rfl,eM,bC⟩
   case measure=>simp[strLen];omega
  ·have IF:Hid (Own wr w1.heap.size 5 u10 (bv R)):=HO
   clear HO;have eq:=y_b (P:=prog) (src:=105) (dst:=9) underlying105 underlying5 underlying9 IF.o.reads
   have aA:¬((1:Nat)=0):=by decide
   simp only[if_neg aA];go_wp2;go_ret2;exact ⟨rfl,HK.o⟩
def uq (L:List Nat):List Value:=L.map fun (x:Nat)=>.int .u64 x
theorem x_c (L:List Nat):(uq L).length=L.length:=by simp[uq]
theorem uq_at (L:List Nat) (i:Nat) (h:i<L.length):(uq L)[i]?=some (.int .u64 (L.getD i 0:Nat)):=by
 simp[uq,q_a,h]
theorem uq_set (L:List Nat) (i x:Nat):(uq L).set i (.int .u64 x)=uq (L.set i x):=by simp[uq,List.map_set]
theorem uq_one (L:List Nat):∀u∈uq L,u.oneCell'=true:=by
 intro u hu;simp[uq] at hu;obtain ⟨x,_,rfl⟩:=hu;rfl
theorem z_F {w:World} {G t:Nat} {L:List Nat} (h:Blk w G t (uq L).toArray) (i:Nat) (hi:i<L.length):w.cell? ⟨G,i,none⟩=some (.int .u64 (L.getD i 0:Nat)):=by
 rw[h.cell,q_p,uq_at L i hi]
theorem y_E {w:World} {G t:Nat} {L:List Nat} (h:Blk w G t (uq L).toArray) (i x:Nat):Blk (w.setCell ⟨G,i,none⟩ (.int .u64 x)) G t (uq (L.set i x)).toArray:=by
 have:=h.set_ i (.int .u64 x)
 rwa [q_A,uq_set] at this
def W64 (L:List Nat):Prop:=∀i,L.getD i 0<18446744073709551616
theorem W64.set {L:List Nat} (h:W64 L) (i x:Nat) (hx:x<18446744073709551616):W64 (L.set i x):=by
 intro j;rw[q_a,q_C];split
 ·split
  ·exact hx
  ·simp
 ·rw[<-q_a];exact h j
theorem wrap64u (a b q:Nat) (hq:(a+b) % 18446744073709551616=q):IntKind.u64.wrap ((a:Int)+(b:Int))=(q:Int):=by rw[q_s];omega
theorem and64 (a b:Nat) (ha:a<18446744073709551616) (hb:b<18446744073709551616):bits .and .u64 (a:Int) (b:Int)=((a &&& b:Nat):Int):=(bits_nat .u64 64 (by decide) wraps_u64 a b ha hb).1
theorem or64 (a b:Nat) (ha:a<18446744073709551616) (hb:b<18446744073709551616):bits .or .u64 (a:Int) (b:Int)=((a ||| b:Nat):Int):=(bits_nat .u64 64 (by decide) wraps_u64 a b ha hb).2
def cyS:Nat × List Nat->Nat->Nat × List Nat:=fun s i=>(((s.2.getD i 0+s.1) % 18446744073709551616) / 67108864,s.2.set i (((s.2.getD i 0+s.1) % 18446744073709551616) &&& 67108863))
def cyI (A:List Nat):Nat->Nat × List Nat
 | 0=>(0,A)
 | i+1=>cyS (cyI A i) i
def cyE (s:Nat × List Nat):List Nat :=
 let a0:=(s.2.getD 0 0+s.1*5 % 18446744073709551616) % 18446744073709551616;let B:=s.2.set 0 a0;let C:=B.set 1 ((B.getD 1 0+a0 / 67108864) % 18446744073709551616)
 C.set 0 (a0 &&& 67108863)
def cyF (A:List Nat):List Nat:=cyE (cyI A 5)
theorem cyI_len {A:List Nat} (h:A.length=5) (i:Nat):(cyI A i).2.length=5:=by
 induction i with
 | zero=>exact h
 | succ i ih=>simp[cyI,cyS,ih]
theorem cyI_lt {A:List Nat} (h:W64 A) (i:Nat):W64 (cyI A i).2:=by
 induction i with
 | zero=>exact h
 | succ i ih=>exact ih.set _ _ (Nat.lt_of_le_of_lt Nat.and_le_right (by decide))
theorem carry_any (w:World) (p t:Nat) (A:List Nat) (hA:A.length=5) (ol:W64 A) (HP:Blk w p t (uq A).toArray) :
  Cl 268 #[.pointer (some ⟨p,0,none⟩)] w fun e w'=>e=.returned (.tuple #[])/\Blk w' p t (uq (cyF A)).toArray/\Kp (·=p) w w':=by
 have HB:=Zz HP;have HK:=Zz (Kp.refl (·=p) w);clear HP;go_enter func268,ntmps268;go_wp2
 go_loopw [2,3,4] (fun s2 _ s4 wr=>∃i:Nat,i<=5/\s4=.int .i64 i/\s2=.int .u64 ((cyI A i).1:Nat)/\Hid (Blk wr p t (uq (cyI A i).2).toArray)/\Hid (Kp (·=p) w wr)) (fun _ _ s4 _=>5-(intOf s4).toNat)
 case atStart=>exact ⟨0,by omega,rfl,rfl,HB,HK⟩
 case round =>
  clear HB HK;obtain ⟨i,hi,rfl,rfl,HB,HK⟩:=hrel;by_cases af:i<5
  ·have bt:(i:Int)<5:=by omega
   have aR:Hid (cyI A (i+1)=(((cyI A i).2.getD i 0+(cyI A i).1) % 18446744073709551616 / 67108864,(cyI A i).2.set i (((cyI A i).2.getD i 0+(cyI A i).1) % 18446744073709551616 &&& 67108863))):=Zz rfl;have dE:=Zz (cyI_len hA i);have c1:=z_F HB.o i (by rw[dE.o];exact af);have fz:=HB.o.frozen i;have ak:=Zz HB.o;have al:=Zz HK.o;generalize (cyI A i).1=c at *;generalize (cyI A i).2=B at *;obtain ⟨v,hv⟩:∃v,(B.getD i 0+c) % 18446744073709551616=v:=⟨_,rfl⟩
   have Bg:v<18446744073709551616:=by rw[<-hv];exact q_z _ (by decide)
   have HV:=Zz hv;generalize B.getD i 0=x at *;have hs:=wrap64u x c v hv;have gq:bits .and .u64 (v:Int) 67108863=((v &&& 67108863:Nat):Int):=and64 v 67108863 Bg (by decide);clear hv;have d1:wr.drew.cell? ⟨p,i,none⟩=_:=c1;have dz:wr.drew.frozen? ⟨p,i,none⟩=_:=fz
   go_upto_region 4 with fail
   go_still_tail 8,(by kernel_rfl)
   go_upto_region 6 with fail
   have aY:=Zz (y_E ak.o i v).drew;have ax:=Zz ((al.o.setCell ⟨p,i,none⟩ (.int .u64 v) (.inl rfl)).drew);clear d1 dz c1 fz ak al HB HK hs;generalize (wr.setCell ⟨p,i,none⟩ (.int .u64 v)).drew=w5 at *;have c1:=z_F aY.o i (by rw[q_k,dE.o];exact af);rw[show (B.set i v).getD i 0=v by rw[q_a,q_C,if_pos rfl,if_pos (by rw[dE.o];exact af)];rfl] at c1;have fz:=aY.o.frozen i;have d1:w5.drew.cell? ⟨p,i,none⟩=_:=c1;have dz:w5.drew.frozen? ⟨p,i,none⟩=_:=fz;have bl:Hid (Blk (w5.drew.setCell ⟨p,i,none⟩ (.int .u64 (v &&& 67108863:Nat))) p t (uq ((B.set i v).set i (v &&& 67108863))).toArray):=Zz (y_E aY.o.drew i _);generalize hm:v &&& 67108863=m at *;have HM:=Zz hm;clear hm
   go_still_tail 7,(by kernel_rfl)
   go_wp2;go_roundw
   case rel=>exact ⟨i+1,by omega,by go_num,by rw[aR.o,HV.o];go_num,Zz (by rw[aR.o,HV.o,HM.o];have:=bl.o;rwa [List.set_set] at this),Zz (ax.o.drew.setCell ⟨p,i,none⟩ _ (.inl rfl))⟩
   case measure=>simp[intOf];omega
  ·obtain rfl:i=5:=by omega
   have HF:Hid (cyF A=((((cyI A 5).2.set 0 (((cyI A 5).2.getD 0 0+(cyI A 5).1*5 % 18446744073709551616) % 18446744073709551616)).set 1 ((((cyI A 5).2.set 0 (((cyI A 5).2.getD 0 0+(cyI A 5).1*5 % 18446744073709551616) % 18446744073709551616)).getD 1 0+(((cyI A 5).2.getD 0 0+(cyI A 5).1*5 % 18446744073709551616) % 18446744073709551616) / 67108864) % 18446744073709551616)).set 0 ((((cyI A 5).2.getD 0 0+(cyI A 5).1*5 % 18446744073709551616) % 18446744073709551616) &&& 67108863))):=Zz rfl;have dE:=Zz (cyI_len hA 5);have c1:=z_F HB.o 0 (by rw[dE.o];decide);have fz:=HB.o.frozen 0;have ak:=Zz HB.o;have al:=Zz HK.o;generalize (cyI A 5).1=c at *;generalize (cyI A 5).2=B at *;generalize B.getD 0 0=x at *;obtain ⟨c5,Rh⟩:∃v,c*5 % 18446744073709551616=v:=⟨_,rfl⟩;obtain ⟨v,hv⟩:∃v,(x+c5) % 18446744073709551616=v:=⟨_,rfl⟩
   have Bg:v<18446744073709551616:=by rw[<-hv];exact q_z _ (by decide)
   have ql:=Zz Rh;have HV:=Zz hv
   have mu:IntKind.u64.wrap ((c:Int)*5)=(c5:Int):=by rw[q_s];omega
   have hs:=wrap64u x c5 v hv;have gq:bits .and .u64 (v:Int) 67108863=((v &&& 67108863:Nat):Int):=and64 v 67108863 Bg (by decide);clear hv Rh;have d1:wr.drew.cell? ⟨p,0,none⟩=_:=c1;have dz:wr.drew.frozen? ⟨p,0,none⟩=_:=fz
   go_upto_region 8 with fail
   go_still_tail 8,(by kernel_rfl)
   go_upto_region 9 with fail
   have aY:=Zz (y_E ak.o 0 v).drew;have ax:=Zz ((al.o.setCell ⟨p,0,none⟩ (.int .u64 v) (.inl rfl)).drew);clear d1 dz c1 fz ak al HB HK hs mu;generalize (wr.setCell ⟨p,0,none⟩ (.int .u64 v)).drew=w5 at *;have c0:=z_F aY.o 0 (by rw[q_k,dE.o];decide);rw[show (B.set 0 v).getD 0 0=v by rw[q_a,q_C,if_pos rfl,if_pos (by rw[dE.o];decide)];rfl] at c0;have c1:=z_F aY.o 1 (by rw[q_k,dE.o];decide);have fz:=aY.o.frozen 1;have d0:w5.drew.cell? ⟨p,0,none⟩=_:=c0;have d1:w5.drew.cell? ⟨p,1,none⟩=_:=c1;have dz:w5.drew.frozen? ⟨p,1,none⟩=_:=fz;generalize hy:(B.set 0 v).getD 1 0=y at *;have HY:=Zz hy;clear hy;obtain ⟨u,hu⟩:∃u,(y+v / 67108864) % 18446744073709551616=u:=⟨_,rfl⟩;have HU:=Zz hu
   have nt:IntKind.u64.wrap ((y:Int)+(v:Int) / 67108864)=(u:Int):=by rw[q_s];omega
   clear hu
   go_still_tail 11,(by kernel_rfl)
   go_upto_region 10 with fail
   have bk:=Zz (y_E aY.o 1 u).drew;have aB:=Zz ((ax.o.setCell ⟨p,1,none⟩ (.int .u64 u) (.inl rfl)).drew);clear d0 d1 dz c0 c1 fz aY ax nt;generalize (w5.setCell ⟨p,1,none⟩ (.int .u64 u)).drew=w6 at *;have c0:=z_F bk.o 0 (by rw[q_k,q_k,dE.o];decide);rw[show ((B.set 0 v).set 1 u).getD 0 0=v by rw[q_a,q_C,if_neg (by decide),q_C,if_pos rfl,if_pos (by rw[dE.o];decide)];rfl] at c0;have fz:=bk.o.frozen 0;have d0:w6.drew.cell? ⟨p,0,none⟩=_:=c0;have dz:w6.drew.frozen? ⟨p,0,none⟩=_:=fz;have bl:Hid (Blk (w6.drew.setCell ⟨p,0,none⟩ (.int .u64 (v &&& 67108863:Nat))) p t (uq (((B.set 0 v).set 1 u).set 0 (v &&& 67108863))).toArray):=Zz (y_E bk.o.drew 0 _);generalize hm:v &&& 67108863=m at *;have HM:=Zz hm;clear hm
   go_still_tail 6,(by kernel_rfl)
   go_wp2
   go_end0
   exact ⟨rfl,by rw[HF.o,ql.o,HV.o,HY.o,HU.o,HM.o];exact bl.o,aB.o.drew.setCell ⟨p,0,none⟩ _ (.inl rfl)⟩
def mulS (A R O:List Nat) (i k:Nat):List Nat :=
 if i+k<5 then O.set (i+k) ((O.getD (i+k) 0+A.getD i 0*R.getD k 0 % 18446744073709551616) % 18446744073709551616)
 else O.set (i+k-5) ((O.getD (i+k-5) 0+A.getD i 0*R.getD k 0 % 18446744073709551616*5 % 18446744073709551616) % 18446744073709551616)
def mulK (A R O:List Nat) (i:Nat):Nat->List Nat
 | 0=>O
 | k+1=>mulS A R (mulK A R O i k) i k
def w_d (A R:List Nat):Nat->List Nat
 | 0=>List.replicate 5 0
 | i+1=>mulK A R (w_d A R i) i 5
def timF (A R:List Nat):List Nat:=cyF (w_d A R 5)
theorem mulS_len {O:List Nat} (h:O.length=5) (A R:List Nat) (i k:Nat):(mulS A R O i k).length=5:=by unfold mulS;split<;>simp[h]
theorem mulS_lt {O:List Nat} (h:W64 O) (A R:List Nat) (i k:Nat):W64 (mulS A R O i k):=by
 unfold mulS;split
 ·exact h.set _ _ (q_z _ (by decide))
 ·exact h.set _ _ (q_z _ (by decide))
theorem mulK_len {O:List Nat} (h:O.length=5) (A R:List Nat) (i k:Nat):(mulK A R O i k).length=5:=by
 induction k with
 | zero=>exact h
 | succ k ih=>exact mulS_len ih _ _ _ _
theorem mulK_lt {O:List Nat} (h:W64 O) (A R:List Nat) (i k:Nat):W64 (mulK A R O i k):=by
 induction k with
 | zero=>exact h
 | succ k ih=>exact mulS_lt ih _ _ _ _
theorem mulI_len (A R:List Nat) (i:Nat):(w_d A R i).length=5:=by
 induction i with
 | zero=>rfl
 | succ i ih=>exact mulK_len ih _ _ _ _
theorem mulI_lt (A R:List Nat) (i:Nat):W64 (w_d A R i):=by
 induction i with
 | zero =>
  intro j;show (List.replicate 5 0).getD j 0<_;rw[q_a,List.getElem?_replicate]
  split<;>decide
 | succ i ih=>exact mulK_lt ih _ _ _ _
theorem zerosQ5:(#[.int .u64 0,.int .u64 0,.int .u64 0,.int .u64 0,.int .u64 0]:Array Value)=(uq (List.replicate 5 0)).toArray:=by rfl
theorem x_z:(prog.info? 341).map (·.size)=some 5:=by kernel_rfl
theorem all_uq (L:List Nat):(uq L).toArray.all (·.oneCell')=true:=all_oneCell_toArray (uq_one L)
theorem run_index_q {t:TypeId} {n:Nat} (h:prog.underlying t=some (.array n 29)) {L:List Nat} (hL:L.length=n) (i:Nat) (hi:i<n) (w:World) :
  (Instr.index t (.agg (uq L).toArray) (.int .i64 i)).run prog w=.ok (.int .u64 (L.getD i 0:Nat)) w:=by
 have hb:0<=(i:Int)/\(i:Int)<(n:Int):=by omega
 have hx:(uq L).toArray[i]?=some (.int .u64 (L.getD i 0:Nat)):=by rw[q_p,uq_at L i (by omega)]
 have aj:(prog.info? 29).map (·.size)=some 1:=by kernel_rfl
 cases hq:prog.info? 29 with
 | none=>rw[hq] at aj;cases aj
 | some j =>
  rw[hq] at aj
  have hj:j.size=1:=by simpa using aj
  simp[Instr.index,run_underlying h,asIntOf,hb,go_sem,sizeOf,typeInfo,hq,hj,hx];rw[if_pos hi,uq_at L i (by omega)];simp[q_a]
theorem w_n {A:List Nat} (h:A.length=5):(cyF A).length=5:=by
 unfold cyF cyE;simp only[q_k];exact cyI_len h 5
theorem timF_len (A R:List Nat):(timF A R).length=5:=w_n (mulI_len A R 5)
theorem times_any (w:World) (p t:Nat) (A R:List Nat) (hA:A.length=5) (ol:W64 A) (hR:R.length=5) (hRw:W64 R) (HP:Blk w p t (uq A).toArray) :
  Cl 262 #[.pointer (some ⟨p,0,none⟩),.agg (uq R).toArray] w fun e w'=>e=.returned (.tuple #[])/\Blk w' p t (uq (timF A R)).toArray/\Kp (·=p) w w':=by
 have HB:=Zz HP;have bQ:=HP.lt;clear HP;have rM:Hid ((uq R).toArray.size=5):=Zz (by rw[q_y,x_c,hR]);have aD:=all_uq R;go_enter func262,ntmps262;go_wp2;rw[zerosQ5]
 have aN:(w.alloc (.cells (uq R).toArray 341)).heap.size=w.heap.size+1:=by simp
 have mC:=Zz ((Blk.new w 341 (uq R).toArray).alloc (.cells (uq (List.replicate 5 0)).toArray 341));have ho:=Blk.new (w.alloc (.cells (uq R).toArray 341)) 341 (uq (List.replicate 5 0)).toArray;rw[aN] at ho;have pa:Hid (Blk ((w.alloc (.cells (uq R).toArray 341)).alloc (.cells (uq (List.replicate 5 0)).toArray 341)) (w.heap.size+1) 341 (uq (w_d A R 0)).toArray):=Zz ho;have bh:=Zz ((HB.o.alloc (.cells (uq R).toArray 341)).alloc (.cells (uq (List.replicate 5 0)).toArray 341));have aW:=Zz (((Kp.refl NoB w).alloc (.cells (uq R).toArray 341)).alloc (.cells (uq (List.replicate 5 0)).toArray 341));clear ho aN HB;generalize (w.alloc (.cells (uq R).toArray 341)).alloc (.cells (uq (List.replicate 5 0)).toArray 341)=w1 at *;generalize hG:w.heap.size=G at *;have cR:=Zz hG;clear hG
 go_loopw [5,6,7,8,10,17] (fun _ _ _ _ s10 _ wr=>∃i:Nat,i<=5/\s10=.int .i64 i/\Hid (Blk wr (G+1) 341 (uq (w_d A R i)).toArray)/\Hid (Blk wr G 341 (uq R).toArray)/\Hid (Blk wr p t (uq A).toArray)/\Hid (Kp NoB w wr)) (fun _ _ _ _ s10 _ _=>5-(intOf s10).toNat)
 case atStart=>exact ⟨0,by omega,rfl,pa,mC,bh,aW⟩
 case round =>
  clear pa mC bh aW;obtain ⟨i,hi,rfl,HO,HR,HB,HK⟩:=hrel;by_cases af:i<5
  ·have bt:(i:Int)<5:=by omega
   have c1:=z_F HB.o i (by rw[hA];exact af);have hx:=ol i;have HX:Hid (∀k,mulS A R (mulK A R (w_d A R i) i k) i k=mulK A R (w_d A R i) i (k+1)):=Zz fun _=>rfl;have HS:Hid (∀O k,mulS A R O i k=if i+k<5 then O.set (i+k) ((O.getD (i+k) 0+A.getD i 0*R.getD k 0 % 18446744073709551616) % 18446744073709551616) else O.set (i+k-5) ((O.getD (i+k-5) 0+A.getD i 0*R.getD k 0 % 18446744073709551616*5 % 18446744073709551616) % 18446744073709551616)):=Zz fun _ _=>rfl;generalize A.getD i 0=x at *;have d1:wr.drew.cell? ⟨p,i,none⟩=_:=c1;have pa:=Zz HO.o.drew;have mC:=Zz HR.o.drew;have bh:=Zz HB.o.drew;have aW:=Zz HK.o.drew
   go_upto_region 4 with fail
   go_still (by kernel_rfl)
   change Exit.then _ _ _ _ wr.drew;clear c1 d1 HO HR HB HK;generalize wr.drew=w5 at *
   go_wp2_with (refine wpList_load_row rfl 341 (.tmp 3) rfl G rfl 341 _ (0,0) _ mC.o underlying341 rfl (by rw[rM.o];exact x_z) ?_)
   have kA:Hid (Blk w5 (G+1) 341 (uq (mulK A R (w_d A R i) i 0)).toArray):=pa;clear pa
   go_loopw [7,8,17] (fun _ _ s17 wr=>∃k:Nat,k<=5/\s17=.int .i64 k/\Hid (Blk wr (G+1) 341 (uq (mulK A R (w_d A R i) i k)).toArray)/\Hid (Blk wr G 341 (uq R).toArray)/\Hid (Blk wr p t (uq A).toArray)/\Hid (Kp NoB w wr)) (fun _ _ s17 _=>5-(intOf s17).toNat)
   case atStart=>exact ⟨0,by omega,rfl,kA,mC,bh,aW⟩
   case round =>
    clear kA mC bh aW;obtain ⟨k,aG,rfl,HO,HR,HB,HK⟩:=hrel;by_cases bo:k<5
    ·have dN:(k:Int)<5:=by omega
     have L8:=run_index_q underlying341 hR k bo wr
     have IG:IntKind.u64.wrap ((x:Int)*((R.getD k 0:Nat):Int))=((x*R.getD k 0 % 18446744073709551616:Nat):Int):=by rw[q_s,<-Int.natCast_mul];omega
     have kC:=Zz (HX.o k);have Bl:=Zz (HS.o (mulK A R (w_d A R i) i k) k);have ly:=Zz (mulK_len (mulI_len A R i) A R i k);generalize R.getD k 0=r at *;generalize mulK A R (w_d A R i) i k=O at *;generalize x*r % 18446744073709551616=m at *;by_cases h5:i+k<5
     ·have L9:((i:Int)+(k:Int))=((i+k:Nat):Int):=by omega
      have WL:((i+k:Nat):Int)<5:=by omega
      have c1:=z_F HO.o (i+k) (by rw[ly.o];exact h5);have fz:=HO.o.frozen (i+k);have Ma:Hid (i+k<5):=Zz h5;generalize gv:i+k=n at *;have dD:=Zz gv;clear gv;obtain ⟨v,hv⟩:∃v,(O.getD n 0+m) % 18446744073709551616=v:=⟨_,rfl⟩;have HV:=Zz hv;generalize O.getD n 0=y at *;have hs:=wrap64u y m v hv;clear hv
      have Bm:G≠G+1:=by omega
      have lU:p≠G+1:=by have:=cR.o;omega
      have cL:=y_E HO.o n v;have bl:Hid (Blk (wr.setCell ⟨G+1,n,none⟩ (.int .u64 v)) (G+1) 341 (uq (mulK A R (w_d A R i) i (k+1))).toArray):=Zz (by rw[<-kC.o,Bl.o,if_pos Ma.o,HV.o];exact cL);clear cL;go_wp2;go_roundw
      case rel=>exact ⟨k+1,by omega,by go_num,bl,Zz (HR.o.far (p:=⟨G+1,n,none⟩) Bm _),Zz (HB.o.far (p:=⟨G+1,n,none⟩) lU _),Zz (HK.o.setCell ⟨G+1,n,none⟩ _ (.inr (by have:=cR.o;show w.heap.size<=G+1;omega)))⟩
      case measure=>simp[intOf];omega
     ·have WL:¬((i:Int)+(k:Int)<5):=by omega
      have L9:((i:Int)+(k:Int))-5=((i+k-5:Nat):Int):=by omega
      have WM:((i+k-5:Nat):Int)<5:=by omega
      have c1:=z_F HO.o (i+k-5) (by rw[ly.o];omega);have fz:=HO.o.frozen (i+k-5);have Ma:Hid (¬(i+k<5)):=Zz h5;generalize gv:i+k-5=n at *;have dD:=Zz gv;clear gv;obtain ⟨m5,Ri⟩:∃v,m*5 % 18446744073709551616=v:=⟨_,rfl⟩;obtain ⟨v,hv⟩:∃v,(O.getD n 0+m5) % 18446744073709551616=v:=⟨_,rfl⟩;have HV:=Zz hv;have mD:=Zz Ri;generalize O.getD n 0=y at *
      have hs5:IntKind.u64.wrap ((m:Int)*5)=(m5:Int):=by rw[q_s];omega
      have hs:=wrap64u y m5 v hv;clear hv Ri
      have Bm:G≠G+1:=by omega
      have lU:p≠G+1:=by have:=cR.o;omega
      have cL:=y_E HO.o n v;have bl:Hid (Blk (wr.setCell ⟨G+1,n,none⟩ (.int .u64 v)) (G+1) 341 (uq (mulK A R (w_d A R i) i (k+1))).toArray):=Zz (by rw[<-kC.o,Bl.o,if_neg Ma.o,mD.o,HV.o];exact cL);clear cL;go_wp2;go_roundw
      case rel=>exact ⟨k+1,by omega,by go_num,bl,Zz (HR.o.far (p:=⟨G+1,n,none⟩) Bm _),Zz (HB.o.far (p:=⟨G+1,n,none⟩) lU _),Zz (HK.o.setCell ⟨G+1,n,none⟩ _ (.inr (by have:=cR.o;show w.heap.size<=G+1;omega)))⟩
      case measure=>simp[intOf];omega
    ·obtain rfl:k=5:=by omega
     go_wp2;go_roundw
     case rel=>exact ⟨i+1,by omega,by go_num,HO,HR,HB,HK⟩
     case measure=>simp[intOf];omega
  ·obtain rfl:i=5:=by omega
   have Bm:p≠G+1:=by have:=cR.o;omega
   go_wp2_with fail;refine (carry_any _ (G+1) 341 (w_d A R 5) (mulI_len A R 5) (mulI_lt A R 5) HO.o).mono ?_;rintro e w6 ⟨rfl,eB,ap⟩;have dG:Hid (Blk w6 (G+1) 341 (uq (timF A R)).toArray):=Zz eB;have bk:=Zz (HB.o.kp ap fun h=>Bm h);have aB:=Zz (HK.o.then ap (T:=(·=G+1)) fun q hq h=>by have h:q=G+1:=h;have:=cR.o;omega);have Bo:Hid ((timF A R).length=5):=Zz (timF_len A R)
   have aj:(uq (timF A R)).toArray.size=5:=by rw[q_y,x_c,Bo.o]
   have qn:=all_uq (timF A R)
   have Mb:(uq A).toArray.size=5:=by rw[q_y,x_c,hA]
   clear eB ap HO HR HB HK;generalize hT:timF A R=T at *;have ta:=Zz hT;clear hT
   go_wp2_with (first
    | (refine wpList_load_row rfl 341 (.tmp 4) rfl (G+1) rfl 341 _ (0,0) _ dG.o underlying341 rfl (by rw[aj];exact x_z) ?_)
    | (refine wpList_store_row rfl 341 (.tmp 52) (.tmp 51) rfl p _ rfl rfl t _ bk.o (by rw[aj];exact x_z) (by rw[aj,Mb]) qn ?_))
   go_end0
   exact ⟨rfl,by rw[ta.o];exact bk.o.setRow,(aB.o.mono fun _ _ h=>h.elim).setRow p _ (.inl rfl)⟩
end Go.Proofs.YtdkheklakfbeeaaGreatDoor
