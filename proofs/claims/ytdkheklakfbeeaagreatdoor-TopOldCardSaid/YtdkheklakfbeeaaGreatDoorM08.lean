/- Part 8 of the proof. -/
import Derived.Lib.BufferWrite
import Derived.Maps.OwnSet
import Derived.Maps.Range
import Derived.Maps.RangeWalk
import Derived.Test.YtdkheklakfbeeaaGreatDoorM07
set_option linter.all false
set_option maxRecDepth 100000
set_option maxHeartbeats 16000000
namespace Go.Proofs.YtdkheklakfbeeaaGreatDoor
open Go.RowKit Tryz
variable {A:List Nat}{F:Nat->Prop}{G b i n s t:Nat}{key l:List UInt8}{vm vs:Value}{w w':W_}{σ:Nat->ao}
section
variable {P:Program} {ρ:Operand->Value} {o:Oper}
def S7 {d s:Operand} {i k elem:TypeId} {g off dLen dCap:Nat} {e:Array Value} {t:TypeId} {ys:List UInt8} {R:Value->W_->Prop}
  (h:o.op=.call { callee:=.builtin .copy,args:=#[d,s],argTypes:=#[i,k] }) (q:P.underlying i=some (.slice elem)) (n:(P.info? elem).map (·.size)=some 1)
  (p:ρ d=.slice (some ⟨g,off,none⟩) dLen dCap) (hs:ρ s=.string (bs ys)) (hg:ab w g t e) (hn:ys.length<=dLen) (r:off+ys.length<=e.size)
  (hR:R (goInt ys.length) (w.setRow g (e.toList.take off++bv ys++e.toList.drop (off+ys.length)).toArray)):∃l m,(execOp ρ o).run P w=.ok (.value l) m/\R l m:=by
 have j:=Lib.run_copy_row_string (P:=P) w i k o.type elem g off dLen dCap (bs ys) e t q n hg (by rw[cG];exact hn) (by rw[cG];exact r);rw[cG,AT] at j;refine ⟨_,_,?_,hR⟩;unfold execOp;simp only[h,resolve,invoke,builtin,Sem.run_bind,Sem.run_pure,Result.andThen_ok,List.map_toArray,List.map_cons,List.map_nil,p,hs,j];rfl
end
def zo (A X:List Nat) (i:Nat):List Nat:=(List.range 5).map fun j=>if j<i then (A.getD j 0+X.getD j 0) % 18446744073709551616 else A.getD j 0
def Ai (A X:List Nat) (i:Nat):(zo A X i).length=5:=by simp[zo]
def TE {X:List Nat} {j:Nat} (e:j<5):(zo A X i).getD j 0=if j<i then (A.getD j 0+X.getD j 0) % 18446744073709551616 else A.getD j 0:=by
 unfold zo;rw[be,gq,pB e];rfl
def X9 (g:A.length=5) (X:List Nat):zo A X 0=A:=by
 refine i2 (by simp[zo,g]) fun j h e=>?_;simp[zo,be,e]
def NI {X:List Nat} (k:i<5):(zo A X i).set i ((A.getD i 0+X.getD i 0) % 18446744073709551616)=zo A X (i+1):=by
 refine i2 (by simp[zo]) fun j g h=>?_;rw[List.getElem_set];by_cases e:i=j
 ·subst e;rw[if_pos rfl];simp[zo]
 rw[if_neg e]
 have:(j<i)=(j<i+1):=by rw[eq_iff_iff];omega
 simp only[zo,List.getElem_map,List.getElem_range,this]
def adQ_lt (A X:List Nat):hI (zo A X 5):=by
 intro j;by_cases e:j<5
 ·rw[TE e,if_pos e];exact gx _ d_
 rw[be,pD (by rw[Ai];omega),Option.getD_none];decide
def timF_lt (A R:List Nat):hI (vS A R):=v_m (Mt A R 5)
def LJ (R:List Nat) (l:List UInt8):Nat->List Nat
 | 0=>List.replicate 5 0
 | j+1=>vS (zo (LJ R l j) (EW ((l.drop (16*j)).take 16) 1) 5) R
def LN (R:List Nat) (l:List UInt8) (j:Nat):(LJ R l j).length=5:=by
 cases j with
 | zero=>rfl
 | succ j=>exact EK _ _
def ZS (R:List Nat) (l:List UInt8) (j:Nat):hI (LJ R l j):=by
 cases j with
 | zero =>
  intro i;show (List.replicate 5 0).getD i 0<_;rw[be,List.getElem?_replicate]
  split<;>decide
 | succ j=>exact timF_lt _ _
def J9 (key l:List UInt8):List UInt8:=plF (Hg (LJ (EW (Su (key.take 16)) 0) l (l.length / 16))) (key.drop 16)
def Wm (key l:List UInt8):(J9 key l).length=16:=plF_len _ _
def J1:(#[.int .u8 0,.int .u8 0,.int .u8 0,.int .u8 0,.int .u8 0,.int .u8 0,.int .u8 0,.int .u8 0,.int .u8 0,.int .u8 0,.int .u8 0,.int .u8 0,.int .u8 0,.int .u8 0,.int .u8 0,.int .u8 0,.int .u8 0]:Array Value)=(bv (List.replicate 17 0)).toArray:=rfl
def ez (h:ab w G t (bv l).toArray) (i:Nat) (e:i<l.length):w.cell? ⟨G,i,none⟩=some (.int .u8 ((l.getD i 0).toNat:Int)):=by
 rw[h.cell,lP,j5 l i e]
def W3 (h:ab w G t (bv l).toArray) (i:Nat) (x:UInt8):ab (w.setCell ⟨G,i,none⟩ (.int .u8 x.toNat)) G t (bv (l.set i x)).toArray:=by
 have:=h.set_ i (.int .u8 x.toNat)
 rwa [F6,Xi] at this
def G0 (h:ab w G t (bv l).toArray) (n c:Nat) (hn:n<=l.length) (g:n<=c) (hm:c<=9223372036854775807):b_ w (.slice (some ⟨G,0,none⟩) n c) (bv (l.take n)):=by
 have hl:(bv (l.take n)).length=n:=by rw[og,gC];omega
 refine ⟨some ⟨G,0,none⟩,c,by rw[hl],by rw[hl];exact g,hm,fun _=>⟨G,0,rfl,fun j e=>?_⟩⟩;rw[hl] at e;rw[jm,ez h j o_,j5 _ _ (by rw[gC];omega)];simp[be,List.getElem?_take,e]
def Ak (W:W_) {v:Value} (h:b_ W v (bv l)):(convert 105 9 v).run prog W=.ok (.string (bs l)) W:=UG underlying105 underlying5 underlying9 h
def HW {c:List UInt8} (h:c.length=16) (x y:UInt8):(c++[x]).set 16 y=c++[y]:=by
 rw[List.set_append_right 16 y o_,h];rfl
def size1_5:(prog.info? 5).map (·.size)=some 1:=k_
def VM (w:W_) (key l:List UInt8) (hk:key.length=32) (n:Nat) (hl:l.length=16*n) (hn:n<=4096) :
  Cl 242 #[.string (bs key),.string (bs l)] w fun e w'=>e=.returned (.tuple #[.string (bs (J9 key l)),.int .i64 0])/\Kp ac w w':=by
 have x5:Hid (J9 key l=plF (Hg (LJ (EW (Su (key.take 16)) 0) l n)) (key.drop 16)):=Zz (by unfold J9;rw[hl,Nat.mul_div_cancel_left _ d_])
 have eB:(bs key).size=32:=by rw[cG,hk]
 have gP:(bs l).size=16*n:=by rw[cG,hl]
 have Nb:(bs key).extract 0 16=bs (key.take 16):=by rw[Co];simp
 have Sq:(bs key).extract 16 32=bs (key.drop 16):=by rw[Co,kx (by rw[List.length_drop];omega)]
 have jQ:=Zz (fun W=>QW W (key.take 16) (by rw[gC];omega));have x2:=Zz (fun W=>Fm W (Su (key.take 16)) (by rw[PP,gC];omega) 0 d_);have H5:=Zz (Nq (Su (key.take 16)) 0);have x7:=Zz (ofF_lt (Su (key.take 16)) (n:=0) d_);have mc:=Zz (fun W A y9 f=>Vv W A y9 f (key.drop 16) (by rw[List.length_drop];omega));generalize J9 key l=y0 at *;generalize EW (Su (key.take 16)) 0=R at *;generalize Su (key.take 16)=iv at *;generalize key.take 16=k1 at *;generalize key.drop 16=k2 at *;have h0:=Zz (show (uq R).toArray.size=5 by rw[tK,x_o,H5.o]);have y3:=my R;go_enter func242,ntmps242;go_wp2_with fail;refine (jQ.o _).mono ?_;rintro e w1 ⟨rfl,H3⟩;go_wp2_with fail;refine (x2.o _).mono ?_;rintro e u ⟨rfl,h8⟩;have a:=Zz (H3.trans h8);clear H3 h8
 go_wp2_with (first
  | (refine wpList_store_row rfl 341 (.tmp 8) (.tmp 29) rfl u.heap.size _ rfl rfl 341 _ (ab.new u _ _) (by rw[h0.o];exact SI) (by rw[h0.o];rfl) y3 ?_;go_must (
    rw[World.setRow_alloc_new];have J:=Zz (ab.new u 341 (uq R).toArray);have h9:=Zz (a.o.alloc (.cells (uq R).toArray 341));have hz:(u.alloc (.cells (uq R).toArray 341)).heap.size=u.heap.size+1:=s_;have qi:=a.o.size;generalize u.alloc (.cells (uq R).toArray 341)=w3 at *
    generalize u.heap.size=G at *))
  | fail)
 rw[yv];have k:=Zz (ab.new w3 341 (uq (List.replicate 5 0)).toArray);rw[hz] at k;have J:=Zz (J.o.alloc (.cells (uq (List.replicate 5 0)).toArray 341));have H1:=Zz (h9.o.alloc (.cells (uq (List.replicate 5 0)).toArray 341));clear h9 a hz;generalize w3.alloc (.cells (uq (List.replicate 5 0)).toArray 341)=w4 at *;have k:Hid (ab w4 (G+1) 341 (uq (LJ R l 0)).toArray):=k
 go_loopw [1,10,11,12,13,52] (fun L _ _ _ _ _ wr=>∃j:Nat,j<=n/\L=.string (bs (l.drop (16*j)))/\Hid (ab wr (G+1) 341 (uq (LJ R l j)).toArray)/\Hid (ab wr G 341 (uq R).toArray)/\Hid (Kp ac w wr)) (fun L _ _ _ _ _ _=>mb L)
 case atStart=>exact ⟨0,o_,rfl,k,J,H1⟩
 case round =>
  clear k J H1;obtain ⟨j,hj,rfl,k,HR,s⟩:=hrel;by_cases af:j<n
  ·have jV:Hid (LJ R l (j+1)=vS (zo (LJ R l j) (EW ((l.drop (16*j)).take 16) 1) 5) R):=Zz rfl
   have y2:Hid (∀H,H=j+1->l.drop (16*H)=(l.drop (16*j)).drop 16):=Zz (fun H e=>by rw[List.drop_drop,e];congr 1)
   have h2:(l.drop (16*j)).length=16*(n-j):=by rw[List.length_drop,hl];omega
   have d:=Zz (LN R l j);have V:=Zz (ZS R l j);generalize l.drop (16*j)=rest at *;generalize x3:LJ R l j=A at *;clear x3;obtain ⟨m,hm⟩:∃m,16*(n-j)=m:=⟨_,rfl⟩;rw[hm] at h2;have Fq:16<=m:=o_;have nx:m<=65536:=o_
   have aj:(bs rest).size=m:=by rw[cG,h2]
   have ij:0<m:=o_;have Fi:min (m:Int) 16=16:=o_;have hem:¬((m:Int)<16):=o_;have Xx:(16:Int)<=(m:Int):=o_
   have Xy:(bs rest).extract 0 16=bs (rest.take 16):=by rw[Co];simp
   have Xz:(bs rest).extract 16 m=bs (rest.drop 16):=by rw[Co,kx (by rw[List.length_drop];omega)]
   have o:(rest.take 16).length=16:=by rw[gC];omega
   clear hm;generalize y8:rest.take 16=c at *;clear y8;have ky:Hid ((List.take 0 (bv (List.replicate 17 0)).toArray.toList++bv c++List.drop (0+c.length) (bv (List.replicate 17 0)).toArray.toList).toArray=(bv (c++[0])).toArray):=Zz (by rw[o,w_E];rfl)
   go_upto_region 11 with fail
   rw[J1];have D:=Zz (ab.new wr 343 (bv (List.replicate 17 0)).toArray).drew;have h4:=Zz (k.o.alloc (.cells (bv (List.replicate 17 0)).toArray 343)).drew;have H6:=Zz (HR.o.alloc (.cells (bv (List.replicate 17 0)).toArray 343)).drew;have H2:=Zz (s.o.alloc (.cells (bv (List.replicate 17 0)).toArray 343)).drew;have hGB:G+1<wr.heap.size:=k.o.lt;have h5:w.heap.size<=wr.heap.size:=s.o.size;clear k HR s;refine v_K k_ ?_;change Fr _ _ _ _ _ _ _ (wr.alloc (.cells (bv (List.replicate 17 0)).toArray 343)).drew;generalize (wr.alloc (.cells (bv (List.replicate 17 0)).toArray 343)).drew=w5 at *;generalize wr.heap.size=B at *;refine fp 0 ?_;refine fp 1 ?_;refine fp 2 ?_;refine fp 3 ?_;refine Dj 4 rfl rfl k_ ?_;refine S7 rfl underlying105 size1_5 rfl rfl D.o o_ (by simp[og];omega) ?_;rw[ky.o];have N:=Zz (D.o.setRow (cs':=(bv (c++[0])).toArray));have E:=Zz (h4.o.farRow (g:=B) (cs':=(bv (c++[0])).toArray) o_);have H7:=Zz (H6.o.farRow (g:=B) (cs':=(bv (c++[0])).toArray) o_);have z:=Zz (H2.o.setRow B (bv (c++[0])).toArray (.inr h5));clear D h4 H6 H2;generalize w5.setRow B (bv (c++[0])).toArray=I at *;refine ⟨oN,?_⟩;refine fe ?_;have y1:=ez N.o 16 (by simp[o]);have fz:=N.o.frozen 16;have b:Hid (ab (I.setCell ⟨B,16,none⟩ (.int .u8 1)) B 343 (bv (c++[1])).toArray):=Zz (by have:=W3 N.o 16 1;rwa [HW o 0 1] at this);have S:=Zz (E.o.far (p:=⟨B,16,none⟩) (by show G+1≠B;omega) (.int .u8 1));have Y:=Zz (H7.o.far (p:=⟨B,16,none⟩) (by show G≠B;omega) (.int .u8 1));have O:=Zz (z.o.setCell ⟨B,16,none⟩ (.int .u8 1) (.inr h5))
   go_upto_region 14 with fail
   have b:=Zz b.o.drew;have S:=Zz S.o.drew;have Y:=Zz Y.o.drew;have O:=Zz O.o.drew;clear y1 fz N E H7 z;refine v_K k_ ?_;change Fr _ _ _ _ _ _ _ (I.setCell ⟨B,16,none⟩ (.int .u8 1)).drew;generalize (I.setCell ⟨B,16,none⟩ (.int .u8 1)).drew=H9 at *;have P:=G0 b.o 16 17 (by simp[o]) d_ d_;rw[show (c++[(1:UInt8)]).take 16=c by rw[<-o,List.take_left]] at P
   have x1:H9.cell? ⟨B,16,none⟩=some (.int .u8 1):=by
    have:=ez b.o 16 (by simp[o])
    rwa [show (c++[(1:UInt8)]).getD 16 0=1 by rw[be,uS o_,o];rfl] at this
   have re:=Zz (fun W=>Fm W c o 1 d_);have jx:=Zz (Nq c 1);generalize EW c 1=X at *;refine fp 0 ?_;have F:=Ak _ P;refine w_h 1 (fun W=>b_ W (.slice (some ⟨B,0,none⟩) 16 17) (bv c)) rfl rfl k_ k_ P (fun K r=>?_);go_simp;refine r _ (fun W f=>by have gY:=Ak _ f;go_simp) ?_;clear r K F;refine fp 2 ?_;refine cw 3 x1 ?_;refine fp 4 ?_;refine fp 6 ?_;refine fd 5 fun K x9 r=>?_;go_simp;refine (re.o _).mono ?_;rintro e x0 ⟨rfl,t⟩;refine r _ _ (oW (oW oN)) ?_;clear r K;have U:=Zz (S.o.kp t fun h=>h);have H8:=Zz (Y.o.kp t fun h=>h);have Q:=Zz (O.o.trans t);clear t b S Y O P x1;refine fe ?_;have U:Hid (ab x0 (G+1) 341 (uq (zo A X 0)).toArray):=Zz (by rw[X9 d.o];exact U.o)
   go_upto_region 15 with fail
   go_loopw [12,13,52] (fun _ _ h1 wr=>∃i:Nat,i<=5/\h1=.int .i64 i/\Hid (ab wr (G+1) 341 (uq (zo A X i)).toArray)/\Hid (ab wr G 341 (uq R).toArray)/\Hid (Kp ac w wr)) (fun _ _ h1 _=>5-(intOf h1).toNat)
   case atStart=>exact ⟨0,o_,rfl,U,H8,Q⟩
   case round =>
    clear U H8 Q;obtain ⟨i,hi,rfl,k,HR,s⟩:=hrel;by_cases M:i<5
    ·have bB:(i:Int)<5:=o_
     have Nt:=su underlying341 jx.o i M wr;have y7:=oI k.o i (by rw[Ai];exact M);rw[TE M,if_neg o_] at y7;have fz:=k.o.frozen i;have h3:=Zz (NI (A:=A) (X:=X) M);have hx:=V.o i;obtain ⟨v,hv⟩:∃v,(A.getD i 0+X.getD i 0) % 18446744073709551616=v:=⟨_,rfl⟩;rw[hv] at h3;generalize A.getD i 0=x at *;generalize X.getD i 0=y at *;have hs:=lc x y v hv;clear hv;have y5:Hid (ab (wr.setCell ⟨G+1,i,none⟩ (.int .u64 v)) (G+1) 341 (uq (zo A X (i+1))).toArray):=Zz (by rw[<-h3.o];exact RF k.o i v);have rG:=Zz (HR.o.far (p:=⟨G+1,i,none⟩) (by show G≠G+1;omega) (.int .u64 v));have a:=Zz (s.o.setCell ⟨G+1,i,none⟩ (.int .u64 v) (.inr (by show _<=G+1;omega)));go_wp2;go_roundw
     case rel=>exact ⟨i+1,o_,by go_num,y5,rG,a⟩
     case measure=>simp[intOf];omega
    obtain rfl:i=5:=o_
    go_wp2_with (first
     | (refine wpList_load_row rfl 341 (.tmp 8) rfl G rfl 341 _ (0,0) _ HR.o underlying341 rfl (by rw[h0.o];exact SI) ?_)
     | fail)
    refine (Eu _ (G+1) 341 (zo A X 5) R (Ai _ _ _) (adQ_lt _ _) H5.o x7.o k.o).mono ?_;rintro e w9 ⟨rfl,h6,C⟩;have x8:Hid (ab w9 (G+1) 341 (uq (LJ R l (j+1))).toArray):=Zz (by rw[jV.o];exact h6);have ny:=Zz (HR.o.kp C (by show ¬G=G+1;omega));have y4:=Zz (s.o.then C (T:=(·=G+1)) fun q F h=>by have h:q=G+1:=h;omega);have x4:=Zz (y2.o (j+1) rfl);clear h6 C;go_wp2;go_roundw
    case rel=>exact ⟨j+1,o_,by rw[x4.o],x8,ny,y4⟩
    case measure=>simp[mb,cG];omega
  obtain rfl:j=n:=o_;have qU:l.drop (16*j)=[]:=List.drop_eq_nil_of_le o_;rw[qU];have nK:(bs []).size=0:=rfl;have d:=Zz (LN R l j);have V:=Zz (ZS R l j);go_wp2_with fail;refine (Rx _ (G+1) 341 (LJ R l j) d.o V.o k.o).mono ?_;rintro e I ⟨rfl,h7,H0⟩;have E:=Zz h7.drew;have z:=Zz (s.o.then H0 (T:=(·=G+1)) fun q F h=>by have h:q=G+1:=h;omega).drew;clear h7 H0;have H4:=Zz (fun W=>mc.o W (Hg (LJ R l j)) (LX d.o) (lsF_lt V.o));rw[<-x5.o] at H4;have y6:=Zz (LX d.o);generalize Hg (LJ R l j)=Z at *
  have x6:(uq Z).toArray.size=5:=by rw[tK,x_o,y6.o]
  go_upto_region 21 with fail
  refine fs ?_;generalize I.drew=H9 at *;refine JR 0 (fun W=>ab W (G+1) 341 (uq Z).toArray) rfl rfl rfl k_ k_ E.o (fun W f=>z_au rfl rfl f underlying341 rfl (by rw[x6];exact SI)) ?_;refine fp 1 ?_;refine fp 2 ?_;refine fd 3 fun K x9 r=>?_;go_simp;refine (H4.o _).mono ?_;rintro e x0 ⟨rfl,t⟩;refine r _ _ (oW oN) ?_;clear r K;have Q:=Zz (z.o.trans t);clear t E z;refine fp 4 ?_;refine fp 5 ?_;refine fe ?_;go_wp2;go_ret2;exact ⟨rfl,Q.o⟩
def peq_any (w:W_) (l:List UInt8) (hl:l.length<=1000) :
  Cl 208 #[.string (bs l),.string (bs l)] w fun e w'=>e=.returned (.bool true)/\Kp ac w w':=by
 have g:=Zz (Kp.refl ac w);have p:(bs l).size=l.length:=cG l;go_enter func208,ntmps208;go_wp2
 go_loopw [5,6,14] (fun m _ h wr=>∃i:Nat,i<=l.length/\h=.int .i64 i/\m=.int .u8 0/\Hid (Kp ac w wr)) (fun _ _ h _=>l.length-(intOf h).toNat)
 case atStart=>exact ⟨0,o_,rfl,rfl,g⟩
 case round =>
  clear g;obtain ⟨i,s,rfl,rfl,g⟩:=hrel;by_cases o:i<l.length
  ·have q:(i:Int)<(l.length:Int):=o_
   have n:=v_c (bs l) i
   have r:bits .xor .u8 (((bs l).data.toList.getD i 0).toNat:Int) (((bs l).data.toList.getD i 0).toNat:Int)=0:=by
    have:=w_U .u8 8 d_ wraps_u8 ((bs l).data.toList.getD i 0).toNat ((bs l).data.toList.getD i 0).toNat (lR _) (lR _);rw[this];simp
   have k:bits .or .u8 0 0=0:=d_;generalize ((bs l).data.toList.getD i 0).toNat=x at *;have j:=Zz g.o.drew
   go_upto_region 7 with fail
   go_still k_
   go_wp2;go_roundw
   case rel=>exact ⟨i+1,o_,by go_num,rfl,j⟩
   case measure=>simp[intOf];omega
  obtain rfl:i=l.length:=o_;go_wp2;go_ret;exact ⟨rfl,g.o⟩
def bs_nil:(⟨#[]⟩:B_)=bs []:=rfl
def M9 (w:W_) (l:List UInt8) (h:l.length % 16=0) (hl:l.length<=100000) :
  Cl 243 #[.string (bs l)] w fun e w'=>e=.returned (.string (bs l))/\w'=w:=by
 have k:(bs l).size=l.length:=cG l
 have o:((l.length:Int)).tmod 16=0:=by rw[Int.tmod_eq_emod_of_nonneg o_];omega
 have m:(16:Int).tmod 16=0:=d_
 have n:¬(9223372036854775807<(bs l).size+(⟨#[]⟩:B_).size):=by rw[k];show ¬(9223372036854775807<l.length+0);omega
 have g:bs l++(⟨#[]⟩:B_)=bs l:=by rw[bs_nil,uQ,List.append_nil]
 have i:=Zz g;have j:=Zz (Tryz.strings_Repeat_zero ⟨#[0]⟩);clear g;go_enter func243,ntmps243;go_wp2_with fail;refine (j.o _).mono ?_;rintro e p ⟨rfl,rfl⟩;go_wp2;go_ret;exact ⟨by show Ending.returned (.string (bs l++⟨#[]⟩))=_;rw[i.o],rfl⟩
def ou (w:W_) (key nonce:List UInt8) (hk:key.length=32) (hn:nonce.length=12) :
  Cl 207 #[.string (bs key),.string (bs nonce)] w fun e w'=>e=.returned (.bool true)/\w'=w:=by
 have g:(bs key).size=32:=by rw[cG,hk]
 have h:(bs nonce).size=12:=by rw[cG,hn]
 go_enter func207,ntmps207;go_wp2;go_ret;exact ⟨rfl,rfl⟩
def q_ (T:List B_):List Nat:=T.flatMap fun s=>[s.size,0]
def zw (T:List B_):(q_ T).length=2*T.length:=by
 induction T with
 | nil=>rfl
 | cons s T e=>simp only[q_,List.flatMap_cons,cd,List.length_cons] at e ⊢;rw[e];simp;omega
def S9 (T:List B_) (i:Nat) (h:i<T.length):q_ (T.take (i+1))=q_ (T.take i)++[(tl T i).size,0]:=by
 rw[mx h];unfold q_;rw[List.flatMap_append];simp[tl,h]
def On (L M:List Nat):uv (L++M)=uv L++uv M:=by simp[uv]
def EC (w:W_) (v:Value) (T:List B_) (hv:b_ w v (sv T)) (P:T.length<=8) (hs:∀i,(tl T i).size<=100000) :
  Cl 244 #[v] w fun e w'=>e=.returned (.string (bs (oO (q_ T))))/\Kp ac w w':=by
 obtain ⟨A,c,rfl,d,h5,l⟩:=hv;rw[cN] at d l ⊢;have x:=Zz l;have y:=Zz (S9 T)
 have a:q_ (T.take T.length)=q_ T:=by rw[List.take_length]
 have G:=Zz a;have U:=Zz (fun i=>zw (T.take i))
 have F:Hid (∀i,(T.take i).length<=8):=Zz fun i=>by rw[gC];omega
 have S:=Zz (iQ T);have h7:=Zz P;have L:=Zz (fun W u h=>w_2 W u (q_ T) h (by rw[zw];omega));generalize oO (q_ T)=R at *;obtain ⟨n,hn⟩:∃n,T.length=n:=⟨_,rfl⟩;rw[hn] at d x y G P S ⊢;have O:Hid (aH w w.heap.size 213 (.slice none 0 0) (uv (q_ (T.take 0)))):=Zz (aH.nil_ _ _ _);have N:=Zz (Below.refl w.heap.size w);clear l a hn;go_enter func244,ntmps244
 go_upto_region 3 with fail
 go_loopw [3,5,6,9] (fun h1 _ _ t wr=>∃i:Nat,i<=n/\t=.int .i64 i/\Hid (aH wr w.heap.size 213 h1 (uv (q_ (T.take i))))/\Hid (Below w.heap.size w wr)) (fun _ _ _ t _=>n-(intOf t).toNat)
 case atStart=>exact ⟨0,o_,rfl,O,N⟩
 case round =>
  clear O N;obtain ⟨i,h9,rfl,k,g⟩:=hrel;by_cases m:i<n
  ·obtain ⟨b,off,rfl,E⟩:=x.o o_
   have j:=E i m;rw[S.o i m] at j;have hk:=(g.o.cell (fV w _ j)).trans j;have I:=y.o i m;have V:=hs i
   have Q:((uv (q_ (T.take i))).length+(uv [(tl T i).size,0]).length)*4<=140737488355328:=by
    rw[ft,ft,U.o];have:=F.o i;simp;omega
   have M:=Zz Q;have f:=Zz I;have h4:(i:Int)<(n:Int):=o_;generalize tl T i=s at *;obtain ⟨z,hz⟩:∃z,s.size=z:=⟨_,rfl⟩;rw[hz] at V M f;have h6:((z:Int)) / 4294967296=0:=o_
   have h8:IntKind.u64.wrap (z:Int)=(z:Int):=by rw[ie];omega
   have h3:IntKind.u32.wrap (z:Int)=(z:Int):=by rw[IntKind.wrap_u32];omega
   have C:=Zz (fun p q:Value=>Ab wr #[p,q] 213 (by simp[maxLen]));have B:=Zz (fun o:Obj=>k.o.alloc o);have H:=Zz (fun o:Obj=>g.o.alloc g.o.size o)
   have Z:Hid (∀o:Obj,w.heap.size<=(wr.alloc o).heap.size):=Zz fun o=>by have:=g.o.size;simp;omega
   have h0:Hid (∀u∈uv [z,0],u.oneCell'=true):=Zz (w_L _);clear E j Q I
   go_wp2_with (at_builtin;refine LK (w0:=w) w.heap.size rfl (.tmp 16) (.tmp 22) 215 213 (.int .u32 0) 4 rfl underlying215 LB rfl d_ _ _ _ (uv [z,0]) rfl rfl (C.o _ _) h0.o (B.o _) (H.o _) (Z.o _) M.o ?_;intro H0 H1 r J Y h2)
   rw[<-On,<-f.o] at r;have K:=Zz r;have X:=Zz J;clear r J Y h2;go_roundw
   case rel=>exact ⟨i+1,o_,by go_num,K,X⟩
   case measure=>simp[intOf];omega
  obtain rfl:i=n:=o_;rw[G.o] at k;go_wp2_with fail;refine (L.o _ _ k.o.reads).mono ?_;rintro e H2 ⟨rfl,D⟩;go_wp2;go_ret;exact ⟨rfl,(Kp.of_below g.o ac).trans (Kp.of_below D _)⟩
def v_1 (key nonce:List UInt8) (c:Nat):(gA key nonce c).length=64:=by unfold gA;rw[v_x,w_Y]
def mn (key nonce wt s:List UInt8):List UInt8:=J9 ((gA key nonce 0).take 32) (wt++s++oO (q_ [bs wt,bs s]))
def kt (key nonce wt s:List UInt8):(mn key nonce wt s).length=16:=Wm _ _
def Nn (w:W_) (key nonce wt s:List UInt8) (hk:key.length=32) (hn:nonce.length=12) (P:wt.length=16) (hs:s.length=32) :
  Cl 209 #[.string (bs key),.string (bs nonce),.string (bs wt),.string (bs s)] w fun e w'=>e=.returned (.string (bs (mn key nonce wt s)))/\Kp ac w w':=by
 have O:=Zz (fun W=>Dh W key nonce hk hn 0 d_);have a:=v_1 key nonce 0;have b:=Zz (fun W=>M9 W wt o_ o_);have t:=Zz (fun W=>M9 W s o_ o_)
 have u:=Zz (fun W v h=>EC W v [bs wt,bs s] h s_ (fun i=>by
  match i with
  | 0=>show (bs wt).size<=_;rw[cG];omega
  | 1=>show (bs s).size<=_;rw[cG];omega
  | i+2=>show (ByteArray.empty).size<=_;decide))
 have J:Hid (mn key nonce wt s=J9 ((gA key nonce 0).take 32) (wt++s++oO (q_ [bs wt,bs s]))):=Zz rfl
 have x:(oO (q_ [bs wt,bs s])).length=16:=by rw[v_x,zw];rfl
 have Z:(bs wt).size=16:=by rw[cG,P]
 have A:(bs s).size=32:=by rw[cG,hs]
 have B:(bs (wt++s)).size=48:=by rw[cG,cd];omega
 have C:(bs (oO (q_ [bs wt,bs s]))).size=16:=by rw[cG,x]
 have D:(bs (gA key nonce 0)).size=64:=by rw[cG,a]
 have z:(wt++s++oO (q_ [bs wt,bs s])).length=16*4:=by rw[cd,cd];omega
 have Y:bs wt++bs s=bs (wt++s):=uQ _ _;have F:bs (wt++s)++bs (oO (q_ [bs wt,bs s]))=bs (wt++s++oO (q_ [bs wt,bs s])):=uQ _ _
 have X:(bs (gA key nonce 0)).extract 0 32=bs ((gA key nonce 0).take 32):=by rw[Co];simp
 have q:=Zz (fun W=>VM W ((gA key nonce 0).take 32) (wt++s++oO (q_ [bs wt,bs s])) (by rw[gC];omega) 4 z d_);rw[<-J.o] at q;have N:Hid (∀W:W_,b_ (W.alloc (.cells #[.string (bs wt),.string (bs s)] 9)) (.slice (some ⟨W.heap.size,0,none⟩) 2 2) (sv [bs wt,bs s])):=Zz fun W=>Ab W #[.string (bs wt),.string (bs s)] 9 (by simp[maxLen]);clear z x a;generalize mn key nonce wt s=r at *;generalize wt++s++oO (q_ [bs wt,bs s])=I at *;generalize oO (q_ [bs wt,bs s])=V at *;generalize wt++s=WS at *;generalize (gA key nonce 0).take 32=U at *;generalize gA key nonce 0=S at *;go_enter func209,ntmps209;go_wp2_with fail;refine (O.o _).mono ?_;rintro e R ⟨rfl,y⟩;have M:=Zz y.drew;clear y
 go_upto_region 2 with fail
 go_cut [11] (fun Q T=>Q=.string (bs r)/\Hid (Kp ac w T))
 case first =>
  refine fs ?_;generalize R.drew=c at *;refine fp 0 ?_;refine fp 1 ?_;refine fp 2 ?_;refine fp 4 ?_;refine fp 7 ?_;refine fp 8 ?_;have n:=Zz (M.o.alloc (.cells #[.string (bs wt),.string (bs s)] 9));have o:=N.o c;refine v_p 3 9 k_ ?_ ?_
  ·refine C9 3 rfl (fun K j g=>?_)
   go_simp;refine (b.o _).mono ?_;rintro e w3 ⟨rfl,rfl⟩;refine g _ _ oN ?_;clear g K;refine v_p 5 9 k_ ?_ ?_
   ·refine C9 5 rfl (fun K j g=>?_)
    go_simp;refine (t.o _).mono ?_;rintro e w3 ⟨rfl,rfl⟩;refine g _ _ oN ?_;clear g K;refine fp 6 ?_;refine fd 9 fun K j g=>?_;go_simp;refine g _ _ oN ?_;clear g K;generalize w3.alloc (.cells #[.string (bs wt),.string (bs s)] 9)=d at *;refine fd 10 fun K j g=>?_;go_simp;refine (u.o _ _ o).mono ?_;rintro e f ⟨rfl,k⟩;refine g _ _ oN ?_;clear g K;have m:=Zz (n.o.trans k);clear k n o;refine fp 11 ?_;refine fd 12 fun K j g=>?_;go_simp;refine (q.o _).mono ?_;rintro e E ⟨rfl,l⟩;refine g _ _ oN ?_;clear g K;have p:=Zz (m.o.trans l);clear l m;refine fp 13 ?_;refine fp 14 ?_;refine fp 15 ?_;refine fp 16 ?_;refine fp 17 ?_;refine fe ?_;go_wp2_with fail
    go_meet
    exact ⟨rfl,p⟩
   refine C9 9 rfl (fun K j g=>?_);go_simp;refine g _ _ oN ?_;clear g K;generalize w3.alloc (.cells #[.string (bs wt),.string (bs s)] 9)=d at *;refine fd 5 fun K j g=>?_;go_simp;refine (t.o _).mono ?_;rintro e G ⟨rfl,rfl⟩;refine g _ _ oN ?_;clear g K;refine fp 6 ?_;refine fd 10 fun K j g=>?_;go_simp;refine (u.o _ _ o).mono ?_;rintro e f ⟨rfl,k⟩;refine g _ _ oN ?_;clear g K;have m:=Zz (n.o.trans k);clear k n o;refine fp 11 ?_;refine fd 12 fun K j g=>?_;go_simp;refine (q.o _).mono ?_;rintro e E ⟨rfl,l⟩;refine g _ _ oN ?_;clear g K;have p:=Zz (m.o.trans l);clear l m;refine fp 13 ?_;refine fp 14 ?_;refine fp 15 ?_;refine fp 16 ?_;refine fp 17 ?_;refine fe ?_;go_wp2_with fail
   go_meet
   exact ⟨rfl,p⟩
  refine C9 9 rfl (fun K j g=>?_);go_simp;refine g _ _ oN ?_;clear g K;generalize c.alloc (.cells #[.string (bs wt),.string (bs s)] 9)=d at *;refine fd 3 fun K j g=>?_;go_simp;refine (b.o _).mono ?_;rintro e G ⟨rfl,rfl⟩;refine g _ _ oN ?_;clear g K;refine fd 5 fun K j g=>?_;go_simp;refine (t.o _).mono ?_;rintro e G ⟨rfl,rfl⟩;refine g _ _ oN ?_;clear g K;refine fp 6 ?_;refine fd 10 fun K j g=>?_;go_simp;refine (u.o _ _ o).mono ?_;rintro e f ⟨rfl,k⟩;refine g _ _ oN ?_;clear g K;have m:=Zz (n.o.trans k);clear k n o;refine fp 11 ?_;refine fd 12 fun K j g=>?_;go_simp;refine (q.o _).mono ?_;rintro e E ⟨rfl,l⟩;refine g _ _ oN ?_;clear g K;have p:=Zz (m.o.trans l);clear l m;refine fp 13 ?_;refine fp 14 ?_;refine fp 15 ?_;refine fp 16 ?_;refine fp 17 ?_;refine fe ?_;go_wp2_with fail
  go_meet
  exact ⟨rfl,p⟩
 case rest =>
  obtain ⟨rfl,hk⟩:=hcut;go_wp2;go_ret;exact ⟨rfl,hk.o⟩
def UL (a b:List UInt8) (h:a.length=32):(bs (a++b)).extract 0 32=bs a:=by
 rw[Co,List.drop_zero,<-h,Nat.sub_zero,List.take_left]
def Si (a b:List UInt8) (h:a.length=32) (k:b.length=16):(bs (a++b)).extract 32 48=bs b:=by
 rw[Co,<-h,List.drop_left,kx o_]
def pL (key nonce wt p:List UInt8):List UInt8:=eW p (gA key nonce 1)++mn key nonce wt (eW p (gA key nonce 1))
def tu (a b:List UInt8):(eW a b).length=min a.length b.length:=by unfold eW;rw[List.length_zipWith]
def z_ab (key nonce wt p:List UInt8) (h:p.length=32):(pL key nonce wt p).length=48:=by
 unfold pL;rw[cd,kt,tu,v_1,h];rfl
def RZ (a b:List UInt8) (h:a.length<=b.length):eW (eW a b) b=a:=by
 induction a generalizing b with
 | nil=>cases b<;>rfl
 | cons x a e =>
  cases b with
  | nil=>simp at h
  | cons y b =>
   show (x ^^^ y ^^^ y)::eW (eW a b) b=x::a;rw[e b (by simpa using h)];congr 1;apply UInt8.toNat_inj.1;rw[UInt8.toNat_xor,UInt8.toNat_xor,Nat.xor_assoc,Nat.xor_self,Nat.xor_zero]
def Fp (w:W_) (key nonce wt p:List UInt8) (hk:key.length=32) (hn:nonce.length=12) (j:wt.length=16) (hp:p.length=32) :
  Cl 163 #[.string (bs key),.string (bs nonce),.string (bs wt),.string (bs p)] w fun e w'=>e=.returned (.tuple #[.string (bs (pL key nonce wt p)),.int .i64 0])/\Kp ac w w':=by
 have l:=Zz (fun W=>ou W key nonce hk hn);have k:=Zz (fun W=>wg W key nonce p hk hn 1 d_ o_ o_)
 have g:(eW p (gA key nonce 1)).length=32:=by rw[tu,v_1,hp];rfl
 have m:=Zz (fun W=>Nn W key nonce wt (eW p (gA key nonce 1)) hk hn j g)
 have u:(bs wt).size=16:=by rw[cG,j]
 have v:(bs p).size=32:=by rw[cG,hp]
 have x:(bs (eW p (gA key nonce 1))).size=32:=by rw[cG,g]
 have y:(bs (mn key nonce wt (eW p (gA key nonce 1)))).size=16:=by rw[cG,kt]
 have r:bs (eW p (gA key nonce 1))++bs (mn key nonce wt (eW p (gA key nonce 1)))=bs (pL key nonce wt p):=uQ _ _;clear g;generalize pL key nonce wt p=n at *;generalize mn key nonce wt (eW p (gA key nonce 1))=T at *;generalize eW p (gA key nonce 1)=S at *;go_enter func163,ntmps163;go_wp2_with fail;refine (l.o _).mono ?_;rintro e s ⟨rfl,rfl⟩;go_wp2_with fail;refine (k.o _).mono ?_;rintro e t ⟨rfl,h⟩;have o:=Zz h;clear h;go_wp2_with fail;refine (m.o _).mono ?_;rintro e w3 ⟨rfl,i⟩;have q:=Zz (o.o.trans i);clear i;go_wp2;go_ret2;exact ⟨rfl,q.o⟩
def Uz (w:W_) (key nonce wt p:List UInt8) (hk:key.length=32) (hn:nonce.length=12) (m:wt.length=16) (hp:p.length=32) :
  Cl 152 #[.string (bs key),.string (bs nonce),.string (bs wt),.string (bs (pL key nonce wt p))] w fun e w'=>e=.returned (.tuple #[.string (bs p),.int .i64 0])/\Kp ac w w':=by
 have r:=Zz (fun W=>ou W key nonce hk hn)
 have h:(eW p (gA key nonce 1)).length=32:=by rw[tu,v_1,hp];rfl
 have i:=Zz (fun W=>wg W key nonce (eW p (gA key nonce 1)) hk hn 1 d_ o_ o_);rw[RZ p (gA key nonce 1) (by rw[v_1];omega)] at i;have s:=Zz (fun W=>Nn W key nonce wt (eW p (gA key nonce 1)) hk hn m h);have q:=Zz (fun W=>peq_any W (mn key nonce wt (eW p (gA key nonce 1))) (by rw[kt];decide))
 have E:(bs wt).size=16:=by rw[cG,m]
 have G:(bs (pL key nonce wt p)).size=48:=by rw[cG,z_ab _ _ _ _ hp]
 have o:pL key nonce wt p=eW p (gA key nonce 1)++mn key nonce wt (eW p (gA key nonce 1)):=by unfold pL;rfl
 have b:=UL (eW p (gA key nonce 1)) (mn key nonce wt (eW p (gA key nonce 1))) h;have a:=Si (eW p (gA key nonce 1)) (mn key nonce wt (eW p (gA key nonce 1))) h (kt _ _ _ _);rw[<-o] at b a;clear o;clear h;generalize pL key nonce wt p=u at *;generalize mn key nonce wt (eW p (gA key nonce 1))=T at *;generalize eW p (gA key nonce 1)=S at *;go_enter func152,ntmps152;go_wp2_with fail;refine (r.o _).mono ?_;rintro e n ⟨rfl,rfl⟩
 go_upto_region 8 with fail
 have z:=Zz (Kp.refl ac n).drew;refine fs ?_;generalize n.drew=c at *;refine fp 0 ?_;refine fp 1 ?_;refine fp 2 ?_;refine fp 3 ?_;refine fp 4 ?_;refine fp 5 ?_;refine fp 6 ?_;refine fp 7 ?_;refine fp 8 ?_;refine fd 9 fun K t g=>?_;go_simp;refine (s.o _).mono ?_;rintro e w3 ⟨rfl,l⟩;refine g _ _ oN ?_;clear g K;have v:=Zz (z.o.trans l);clear l;refine fd 10 fun K t g=>?_;go_simp;refine (q.o _).mono ?_;rintro e d ⟨rfl,k⟩;refine g _ _ oN ?_;clear g K;have y:=Zz (v.o.trans k);clear k;refine fp 11 ?_;refine fp 12 ?_;refine fe ?_;go_wp2_with fail;refine (i.o _).mono ?_;rintro e f ⟨rfl,j⟩;have x:=Zz (y.o.trans j);clear j;go_wp2;go_ret2;exact ⟨rfl,x.o⟩
def zv (L:List Nat):List Value:=L.map fun n:Nat=>.int .i64 n
def iF (L:List Nat):(zv L).length=L.length:=by simp[zv]
def oP (L:List Nat) (i:Nat) (h:i<L.length):(zv L)[i]?=some (.int .i64 (L.getD i 0:Nat)):=by
 simp[zv,be,h]
def dJ (s t:Nat):List Nat:=if s=2 then [1] else [1,2+t / 2]
def KU (s t:Nat):(dJ s t).length=dP s:=by unfold dJ dP;split<;>rfl
def sl (s:Nat):Prop:=s=2\/s=4
def Hm:Prop:=∀(w:W_) (s t:Nat),sl s->t<s->a_ w->10<=w.heap.size ->
 Cl 171 #[.int .i64 s,.int .i64 t] w fun e w'=>∃u,e=.returned (.tuple #[u,.int .i64 0])/\b_ w' u (zv (dJ s t))/\Kp ac w w'
def di (b i s:Nat) (key:List UInt8):Array Value:=#[.pointer (some ⟨b,0,none⟩),.int .i64 i,.int .i64 s,.string (bs key)]
section
def Qp (h:Bk w b n σ F) (i:Nat) (j:i<n) :
  Cl 45 #[.pointer (some ⟨b,0,none⟩),.int .i64 i] w fun e w'=>∃d,e=.returned (.pointer (some ⟨d,0,none⟩))/\w'=w:=by
 obtain ⟨G,c,st,A,Φ,g,hF⟩:=h;refine (w_c g i j).mono ?_;rintro e w' ⟨rfl,rfl⟩;exact ⟨_,rfl,rfl⟩
def v_E (t:Hm) (r:a_ w) (h:Bk w b n σ F) (N:10<=w.heap.size) (I:i<n) (hs:sl s) (hk:key.length=32) :
  Cl 140 #[.agg (di b i s key)] w fun e w'=>e=.returned (.bool true)/\Kp ac w w':=by
 have g:=Zz (ab.new w 139 (di b i s key));have j:=Zz ((Kp.refl ac w).alloc (.cells (di b i s key) 139));have a:=Zz (fun W E y=>t W s 0 hs (by rcases hs with rfl|rfl<;>decide) E y);have c:=Zz h;have x:=Zz r
 have hz:(bs key).size=32:=by rw[cG,hk]
 clear t hs r;change Cl 140 #[.agg #[.pointer (some ⟨b,0,none⟩),.int .i64 i,.int .i64 s,.string (bs key)]] w _;go_enter func140,ntmps140
 go_upto_region 1 with fail
 change Code.wp _ _ _ _ (w.alloc (.cells (di b i s key) 139));generalize v:w.alloc (.cells (di b i s key) 139)=M at *;clear v
 have f:10<=M.heap.size:=by have:=j.o.size;omega
 generalize w.heap.size=G at *;have o:=g.o.c0;have p:=g.o.c1;have z:=g.o.c2;have q:=g.o.c3;go_wp2_with fail;refine (a.o _ (x.o.no j.o) f).mono ?_;rintro e O ⟨u,rfl,J,k⟩;have l:=Zz (g.o.kp k fun h=>h);have m:=Zz (j.o.trans k);clear k o p z q g j J;have o:=l.o.c0;have p:=l.o.c1;have q:=l.o.c3;go_wp2_with fail;refine (Qp (c.o.no m.o) i I).mono ?_;rintro e w3 ⟨d,rfl,rfl⟩;go_wp2;go_ret;exact ⟨rfl,m.o⟩
def z_aa (p:Hm) (o:a_ w) (h:Bk w b n σ F) (d:10<=w.heap.size) (z:i<n) (hs:sl s) (hk:key.length=32) (c:t<s) :
  Cl 150 #[.agg (di b i s key),.int .i64 t] w fun e w'=>e=.returned (.int .i64 0)/\Kp ac w w':=by
 have g:=Zz (ab.new w 139 (di b i s key));have j:=Zz ((Kp.refl ac w).alloc (.cells (di b i s key) 139))
 have k:10<=(w.alloc (.cells (di b i s key) 139)).heap.size:=by have:=j.o.size;omega
 have q:=Zz (v_E p (o.no j.o) (h.no j.o) k z hs hk);have a:¬((s:Int)<=(t:Int)):=o_;have J:¬((t:Int)<0):=o_;have f:decide (s<=t)=false:=h_ o_;clear p hs o h k;change Cl 150 #[.agg #[.pointer (some ⟨b,0,none⟩),.int .i64 i,.int .i64 s,.string (bs key)],.int .i64 t] w _;go_enter func150,ntmps150
 go_upto_region 1 with fail
 change Code.wp _ _ _ _ (w.alloc (.cells (di b i s key) 139));generalize k:w.alloc (.cells (di b i s key) 139)=E at *;clear k;generalize w.heap.size=G at *;have v:=g.o.c0;have x:=g.o.c1;have m:=g.o.c2;have y:=g.o.c3;go_wp2_with fail;refine q.o.mono ?_;rintro e I ⟨rfl,l⟩;have r:=Zz (g.o.kp l fun h=>h);have u:=Zz (j.o.trans l);clear l v x m y g j;have m:=r.o.c2;go_wp2;go_ret;exact ⟨rfl,u.o⟩
def pQ (i t:Nat):List UInt8:=bQ i++bQ t
def wT (i t:Nat):(pQ i t).length=16:=by unfold pQ;rw[cd,ec,ec]
def Bm (w:W_) (b i s t:Nat) (key:List UInt8) (v:i<1000) (x:t<1000) :
  Cl 153 #[.agg (di b i s key),.int .i64 t] w fun e w'=>e=.returned (.string (bs (pQ i t)))/\Kp ac w w':=by
 have g:=Zz (ab.new w 139 (di b i s key));have h:=Zz ((Kp.refl ac w).alloc (.cells (di b i s key) 139));have o:=Zz (fun W=>Vh W i o_);have p:=Zz (fun W=>Vh W t o_)
 have c:(bs (bQ i)).size=8:=by rw[cG,ec]
 have d:(bs (bQ t)).size=8:=by rw[cG,ec]
 have y:bs (bQ i)++bs (bQ t)=bs (pQ i t):=uQ _ _
 have q:IntKind.u64.wrap (i:Int)=(i:Int):=by rw[ie];omega
 have r:IntKind.u64.wrap (t:Int)=(t:Int):=by rw[ie];omega
 generalize pQ i t=R at *;generalize bs (bQ i)=X at *;generalize bs (bQ t)=Y at *;change Cl 153 #[.agg #[.pointer (some ⟨b,0,none⟩),.int .i64 i,.int .i64 s,.string (bs key)],.int .i64 t] w _;go_enter func153,ntmps153
 go_upto_region 1 with fail
 change Code.wp _ _ _ _ (w.alloc (.cells (di b i s key) 139));generalize j:w.alloc (.cells (di b i s key) 139)=z at *;clear j;generalize w.heap.size=G at *;have u:=g.o.c1;go_wp2_with fail;refine (o.o _).mono ?_;rintro e a ⟨rfl,k⟩;have l:=Zz (h.o.trans k);go_wp2_with fail;refine (p.o _).mono ?_;rintro e w3 ⟨rfl,n⟩;have m:=Zz (l.o.trans n);go_wp2;go_ret;exact ⟨rfl,m.o⟩
def Ac (key nonce:List UInt8) (i t:Nat) (p:List UInt8):B_:=bs (nonce++pL key nonce (pQ i t) p)
def mH (key nonce:List UInt8) (i t:Nat) (p:List UInt8) (hn:nonce.length=12) (hp:p.length=32):(Ac key nonce i t p).size=60:=by
 unfold Ac;rw[cG,cd,z_ab _ _ _ _ hp,hn]
def G4 (c:Hm) (a:a_ w) (h:Bk w b n σ F) (A:10<=w.heap.size) (S:i<n) (hn:n<=12) (hs:sl s) (hk:key.length=32) (T:t<s) (nonce p:List UInt8) (d:nonce.length=12) (hp:p.length=32) :
  Cl 106 #[.agg (di b i s key),.int .i64 t,.string (bs nonce),.string (bs p)] w fun e w'=>e=.returned (.tuple #[.string (Ac key nonce i t p),.int .i64 0])/\Kp ac w w':=by
 have g:=Zz (ab.new w 139 (di b i s key));have j:=Zz ((Kp.refl ac w).alloc (.cells (di b i s key) 139))
 have l:10<=(w.alloc (.cells (di b i s key) 139)).heap.size:=by have:=j.o.size;omega
 have E:=Zz (z_aa c (a.no j.o) (h.no j.o) l S hs hk T);have f:=Zz (fun W=>Bm W b i s t key o_ (by rcases hs with rfl|rfl<;>omega));have U:=Zz (fun W=>Fp W key nonce (pQ i t) p hk d (wT i t) hp)
 have L:(bs nonce).size=12:=by rw[cG,d]
 have h0:(bs p).size=32:=by rw[cG,hp]
 have h1:(bs (pL key nonce (pQ i t) p)).size=48:=by rw[cG,z_ab _ _ _ _ hp]
 have B:bs nonce++bs (pL key nonce (pQ i t) p)=Ac key nonce i t p:=uQ _ _;have X:(di b i s key).size=4:=rfl;have v:(prog.info? 139).map (·.size)=some 4:=k_;have M:=Zz v;clear c hs a h l v;generalize Ac key nonce i t p=R at *;generalize bs (pL key nonce (pQ i t) p)=Y at *;generalize pQ i t=Z at *;change Cl 106 #[.agg #[.pointer (some ⟨b,0,none⟩),.int .i64 i,.int .i64 s,.string (bs key)],.int .i64 t,.string (bs nonce),.string (bs p)] w _;go_enter func106,ntmps106
 go_upto_region 1 with fail
 change Code.wp _ _ _ _ (w.alloc (.cells (di b i s key) 139));generalize l:w.alloc (.cells (di b i s key) 139)=C at *;clear l;generalize w.heap.size=G at *;have N:=g.o.c0;have O:=g.o.c1;have P:=g.o.c2;have o:=g.o.c3;go_wp2_with fail;refine E.o.mono ?_;rintro e V ⟨rfl,q⟩;have m:=Zz (g.o.kp q fun h=>h).drew;have x:=Zz (j.o.trans q).drew;clear q N O P o g j
 go_upto_region 6 with fail
 refine fs ?_;generalize V.drew=w3 at *;have o:=m.o.c3;refine fp 0 ?_;refine cw 1 o ?_;refine fp 2 ?_;refine JR 3 (fun W=>ab W G 139 (di b i s key)) rfl rfl rfl k_ k_ m.o (fun W Q=>z_au rfl rfl Q underlying139 rfl M.o) ?_;refine fp 4 ?_;refine fp 6 ?_;refine fd 5 fun K I k=>?_;go_simp;refine (f.o _).mono ?_;rintro e D ⟨rfl,r⟩;have z:=Zz (m.o.kp r fun h=>h);have y:=Zz (x.o.trans r);refine k _ _ (oW (oK (z.o.cell 3) oN)) ?_;clear k K o r m x;refine fd 7 fun K I k=>?_;go_simp;refine (U.o _).mono ?_;rintro e H ⟨rfl,u⟩;have J:=Zz (y.o.trans u);refine k _ _ (oW (oW oN)) ?_;clear k K u z y;refine fp 8 ?_;refine fp 9 ?_;refine fp 10 ?_;refine fp 11 ?_;refine fp 12 ?_;refine fe ?_;go_wp2;go_ret2;exact ⟨rfl,J.o⟩
end
structure fv where
 st:Nat
 top:B_
 log:B_
structure cj where
 count:Nat
 epoch:Nat
 data:Nat
 slots:Nat
 mem:List fv
def ds (l:List fv):List Value:=l.flatMap fun x=>[.int .i64 x.st,.string x.top,.string x.log]
def Ee (l:List fv):(ds l).length=l.length*3:=by
 induction l with
 | nil=>rfl
 | cons x l e=>simp only[ds,List.flatMap_cons,cd,List.length_cons] at e ⊢;rw[e];simp;omega
def z_ai (l m:List fv):ds (l++m)=ds l++ds m:=by simp[ds]
def Re (l:List fv) (i:Nat) (h:i<l.length):(ds l)[i*3]?=some (.int .i64 ((l[i]'h).st:Int))/\(ds l)[i*3+1]?=some (.string (l[i]'h).top)/\(ds l)[i*3+2]?=some (.string (l[i]'h).log):=by
 induction l generalizing i with
 | nil=>simp at h
 | cons x l g =>
  cases i with
  | zero=>exact ⟨rfl,rfl,rfl⟩
  | succ i =>
   have:=g i (by simpa using h);have e:(i+1)*3=i*3+3:=o_;rw[e];exact this
def v7 (S:cj):List Nat:=List.range (S.data+2)
def dK (S:cj) (vs vm:Value):Array Value:=#[.int .u64 S.count,.int .u64 S.epoch,.int .i64 S.data,.int .i64 S.slots,.int .i64 0,.int .i64 0,.bool false,vs,vm]
def ja (w:W_) (S:cj) (vs vm:Value):Prop:=b_ w vs (zv (v7 S))/\iB w vm 3 S.mem.length (ds S.mem)
def ja.no {S:cj} (h:ja w S vs vm) (k:Kp ac w w'):ja w' S vs vm:=⟨h.1.below k.below0,h.2.no k⟩
def ja.shape {S:cj} (h:ja w S vs vm):∃e cs Am cm,vs=.slice e (S.data+2) cs/\vm=.slice Am S.mem.length cm:=by
 obtain ⟨Am,cm,g,_⟩:=h.2;obtain ⟨e,cs,i,_⟩:=h.1;exact ⟨e,cs,Am,cm,by rw[i,iF,v7,zH],g⟩
structure a7 (S:cj):Prop where
 d2:2<=S.data
 d8:S.data<=4
 sl:sl S.slots
 n1:S.data+2<=S.mem.length
 n12:S.mem.length<=12
 mem:∀i (h:i<S.mem.length),(S.mem[i]'h).top.size=32/\(S.mem[i]'h).log.size=32/\(i<S.data+2->(S.mem[i]'h).st=1\/(S.mem[i]'h).st=2)/\(S.data+2<=i->(S.mem[i]'h).st=0)
 c:S.count<=1000
 e:S.epoch<=1000
section
variable {S:cj} 
def Lh (l:a7 S) (h:ja w S vs vm) :
  Cl 164 #[.agg (dK S vs vm)] w fun e w'=>e=.returned (.bool true)/\Kp ac w w':=by
 have i:=Zz (ab.new w 60 (dK S vs vm));have o:=Zz ((Kp.refl ac w).alloc (.cells (dK S vs vm) 60));obtain ⟨m,cs,Am,cm,rfl,rfl⟩:=h.shape;have M:=l.d2;have b:=l.d8;have hs:=l.sl;have c:=l.n1;have f:=l.n12;clear h l;obtain ⟨count,epoch,d,s,mem⟩:=S
 dsimp only at M b hs c f i o ⊢
 have q:=fun (W:W_) (g:Nat) (E:ab W g 3 #[.int .i64 2,.int .i64 4,.int .i64 8,.int .i64 16])=>Tryz.slices_Contains_int g 0 4 4 [2,4,8,16] (s:Int) W d_ d_ (fun j I=>by
  rw[jm,E.cell]
  match j,I with
  | 0,_=>rfl
  | 1,_=>rfl
  | 2,_=>rfl
  | 3,_=>rfl)
 have t:(List.take 4 [(2:Int),4,8,16]).contains (s:Int)=true:=by rcases hs with rfl|rfl<;>decide
 rw[t] at q;have x:=Zz q
 have hsp:0<s:=by rcases hs with rfl|rfl<;>omega
 have R:¬((d:Int)<2):=o_;have T:¬((8:Int)<(d:Int)):=o_;have U:decide (d<2)=false:=h_ o_;have V:decide (8<d)=false:=h_ o_;generalize mem.length=n at *;have X:(1:Int)<=(n:Int):=o_;have Y:(n:Int)<=12:=o_;have Z:decide (1<=n)=true:=decide_eq_true o_;have A:decide (n<=12)=true:=decide_eq_true o_;have B:¬((s:Int)<0):=o_;have J:(0:Int)<=(s:Int):=o_;clear q t hs;change Cl 164 #[.agg #[.int .u64 count,.int .u64 epoch,.int .i64 d,.int .i64 s,.int .i64 0,.int .i64 0,.bool false,.slice m (d+2) cs,.slice Am n cm]] w _;change Hid (ab (w.alloc (.cells #[.int .u64 count,.int .u64 epoch,.int .i64 d,.int .i64 s,.int .i64 0,.int .i64 0,.bool false,.slice m (d+2) cs,.slice Am n cm] 60)) w.heap.size 60 #[.int .u64 count,.int .u64 epoch,.int .i64 d,.int .i64 s,.int .i64 0,.int .i64 0,.bool false,.slice m (d+2) cs,.slice Am n cm]) at i;change Hid (Kp ac w (w.alloc (.cells #[.int .u64 count,.int .u64 epoch,.int .i64 d,.int .i64 s,.int .i64 0,.int .i64 0,.bool false,.slice m (d+2) cs,.slice Am n cm] 60))) at o;go_enter func164,ntmps164
 go_upto_region 1 with fail
 generalize y:w.alloc (.cells #[.int .u64 count,.int .u64 epoch,.int .i64 d,.int .i64 s,.int .i64 0,.int .i64 0,.bool false,.slice m (d+2) cs,.slice Am n cm] 60)=r at *;clear y;generalize w.heap.size=G at *;have a:=i.o.c2;have u:=i.o.c3;have v:=i.o.c6
 go_upto_region 3 with fail
 have k:=Zz (i.o.alloc (.cells #[.int .i64 2,.int .i64 4,.int .i64 8,.int .i64 16] 3));have z:=Zz (o.o.alloc (.cells #[.int .i64 2,.int .i64 4,.int .i64 8,.int .i64 16] 3));have N:=Zz (ab.new r 3 #[.int .i64 2,.int .i64 4,.int .i64 8,.int .i64 16]);have p:(r.alloc (.cells #[.int .i64 2,.int .i64 4,.int .i64 8,.int .i64 16] 3)).cell? ⟨G,3,none⟩=some (.int .i64 s):=k.o.cell 3;go_wp2_with fail;refine (x.o _ _ N.o).mono ?_;rintro e C ⟨rfl,rfl⟩;clear a u p v i o;generalize r.alloc (.cells #[.int .i64 2,.int .i64 4,.int .i64 8,.int .i64 16] 3)=w3 at *;have u:=k.o.c3;have O:=k.o.c4;have P:=k.o.c5;have v:=k.o.c6;have Q:=k.o.c8;go_wp2;go_ret;exact ⟨rfl,z.o⟩
def a7.st2 (k:a7 S) (i:Nat) (h:i<S.mem.length):(S.mem[i]'h).st<=2:=by
 obtain ⟨_,_,g,j⟩:=k.mem i h;by_cases e:i<S.data+2
 ·rcases g e with e|e<;>omega
 have:=j o_;omega
def ja.memAt (h:ja w S vs vm) (k:Kp ac w w') {Am:Option Addr} {cm:Nat} (hm:vm=.slice Am S.mem.length cm) (hp:0<S.mem.length):∃e off,Am=some ⟨e,off,none⟩/\∀i (h:i<S.mem.length),w'.cell? ⟨e,off+i*3,none⟩=some (.int .i64 ((S.mem[i]'h).st:Int))/\w'.cell? ⟨e,off+i*3+1,none⟩=some (.string (S.mem[i]'h).top)/\w'.cell? ⟨e,off+i*3+2,none⟩=some (.string (S.mem[i]'h).log):=by
 obtain ⟨A,c,n,_,_,_,m⟩:=(h.no k).2;subst hm;cases n;obtain ⟨e,off,rfl,g⟩:=m hp;refine ⟨e,off,rfl,fun i o=>?_⟩;obtain ⟨q,r,s⟩:=Re S.mem i o;have p:=(g (i*3) o_).trans q;have j:=(g (i*3+1) o_).trans r;have l:=(g (i*3+2) o_).trans s;rw[<-Nat.add_assoc] at j l;exact ⟨p,j,l⟩
def zE (p:a7 S) (h:ja w S vs vm) :
  Cl 165 #[.agg (dK S vs vm)] w fun e w'=>e=.returned (.bool true)/\Kp ac w w':=by
 have g:=Zz (ab.new w 60 (dK S vs vm));have j:=Zz ((Kp.refl ac w).alloc (.cells (dK S vs vm) 60));obtain ⟨m,cs,Am,cm,Q,t⟩:=h.shape;have c:=p.n1;have f:=p.n12;obtain ⟨q,off,X,_⟩:=h.memAt (Kp.refl _ _) t o_;subst X;have b:=Zz (fun w' (k:Kp ac w w')=>h.memAt k t o_);have x:=Zz p.st2;have a:=Zz p.mem;subst Q t;clear h p;obtain ⟨count,epoch,d,s,mem⟩:=S
 dsimp only at c f g j b x a ⊢
 obtain ⟨n,hn⟩:∃n,mem.length=n:=⟨_,rfl⟩;have I:=Zz hn;have g:Hid (ab (w.alloc (.cells #[.int .u64 count,.int .u64 epoch,.int .i64 d,.int .i64 s,.int .i64 0,.int .i64 0,.bool false,.slice m (d+2) cs,.slice (some ⟨q,off,none⟩) mem.length cm] 60)) w.heap.size 60 #[.int .u64 count,.int .u64 epoch,.int .i64 d,.int .i64 s,.int .i64 0,.int .i64 0,.bool false,.slice m (d+2) cs,.slice (some ⟨q,off,none⟩) mem.length cm]):=g;have j:Hid (Kp ac w (w.alloc (.cells #[.int .u64 count,.int .u64 epoch,.int .i64 d,.int .i64 s,.int .i64 0,.int .i64 0,.bool false,.slice m (d+2) cs,.slice (some ⟨q,off,none⟩) mem.length cm] 60))):=j;change Cl 165 #[.agg #[.int .u64 count,.int .u64 epoch,.int .i64 d,.int .i64 s,.int .i64 0,.int .i64 0,.bool false,.slice m (d+2) cs,.slice (some ⟨q,off,none⟩) mem.length cm]] w _;rw[hn] at g j c f ⊢;clear hn;go_enter func165,ntmps165
 go_upto_region 1 with fail
 generalize J:w.alloc (.cells #[.int .u64 count,.int .u64 epoch,.int .i64 d,.int .i64 s,.int .i64 0,.int .i64 0,.bool false,.slice m (d+2) cs,.slice (some ⟨q,off,none⟩) n cm] 60)=E at *;clear J;generalize w.heap.size=G at *;have P:=g.o.c8;have y:=Zz (Kp.refl ac E)
 go_upto_region 3 with fail
 clear P
 go_loopw [3,5,9] (fun Y _ v wr=>∃i:Nat,i<=n/\v=.int .i64 i/\Y=.int .i64 0/\Hid (Kp ac E wr)) (fun _ _ v _=>n-(intOf v).toNat)
 case atStart=>exact ⟨0,o_,rfl,rfl,y⟩
 case round =>
  clear y;obtain ⟨i,h0,rfl,rfl,o⟩:=hrel;by_cases M:i<n
  ·have B:(i:Int)<(n:Int):=o_
   have l:i<mem.length:=by rw[I.o];exact M
   obtain ⟨h8,L,R,z⟩:=b.o wr (j.o.trans o.o);cases R;obtain ⟨U,V,W⟩:=z i l;have h9:=x.o i l;obtain ⟨Z,A,_,_⟩:=a.o i l;clear z;generalize (mem[i]'l).st=st at *;generalize (mem[i]'l).top=r at *;generalize (mem[i]'l).log=lg at *;have T:¬((st:Int)<0):=o_;have h1:¬((4:Int)<=(st:Int)):=o_
   have h2:((st:Int)==3)=false:=by rw[pN];omega
   have h3:decide ((st:Int)<0)=false:=h_ T;have h4:decide (4<=st)=false:=h_ o_;have h5:((32:Int) != 32)=false:=d_
   have h6:((r.size:Int) != 32)=false:=by rw[Z];decide
   have h7:((lg.size:Int) != 32)=false:=by rw[A];decide
   have u:=Zz (ab.new wr 108 #[.int .i64 st,.string r,.string lg]);have O:=Zz (o.o.alloc (.cells #[.int .i64 st,.string r,.string lg] 108))
   go_upto_region 5 with fail
   clear U V W o;generalize wr.alloc (.cells #[.int .i64 st,.string r,.string lg] 108)=H0 at *;generalize wr.heap.size=D at *;have C:=u.o.c0;have F:=u.o.c1;have H:=u.o.c2;go_wp2;go_roundw
   case rel=>exact ⟨i+1,o_,by go_num,rfl,O⟩
   case measure=>simp[intOf];omega
  obtain rfl:i=n:=o_;have N:=Zz (g.o.kp o.o fun h=>h);have K:=N.o.c5;go_wp2;go_ret;exact ⟨rfl,j.o.trans o.o⟩
end
section
open Go.Maps
def HR (v:Value):Option (DataW Value × List MemPlace):=some (.held v,[])
structure KM (P:Program) (k:TypeId) (α:Type) where
 kk:α->Lit
 kv:α->Value
 ok:α->Prop
 key:∀a,ok a->keyOf P k (kv a)=some (kk a)
 inj:∀a b,ok a->ok b->kk a=kk b->a=b
section
variable {P:Program} {k e t:TypeId} {α:Type} (M:KM P k α) {f:α->Option Value} {dom:List α}
structure aS (w:W_) (b:Nat) (f:α->Option Value) (dom:List α):Prop where
 oks:∀a∈dom,M.ok a
 nodup:dom.Nodup
 isSome:∀a,(f a).isSome=true↔a∈dom
 own:∃D,w.ownsMap P k HR b dom.length D/\size D=dom.length/\(∀a,M.ok a->has D (M.kk a)=(f a).isSome)/\(∀a v,f a=some v->∀z,D.atKey (M.kk a) z=.held v)/\(∀kl,has D kl=true->∃a,a∈dom/\M.kk a=kl)
def rP {D:DataW Value} (h:w.ownsMap P k HR b n D):w.ownsMap P k HR b (size D) D:=by
 obtain ⟨es,clock,hb,F,hs,rfl⟩:=h;exact ⟨es,clock,hb,F,by simp[Maps.size,length_sorted],rfl⟩
variable {M}
def aS.lt (h:aS M w b f dom):b<w.heap.size:=by obtain ⟨D,e,_⟩:=h.own;exact e.lt
def aS.map (h:aS M w b f dom):∃es clock,w.heap[b]?=some (.map es clock):=by
 obtain ⟨D,⟨es,clock,hb,_⟩,_⟩:=h.own;exact ⟨es,clock,hb⟩
def aS.ne_blk (h:aS M w b f dom) {g e:Nat} {cs:Array Value} (hg:ab w g e cs):b≠g:=by
 rintro rfl;obtain ⟨es,clock,hb⟩:=h.map;unfold ab at hg;rw[hb] at hg;cases hg
def aS.same (h:aS M w b f dom) (hb:w'.heap[b]?=w.heap[b]?):aS M w' b f dom:=by
 obtain ⟨e,g,i,D,⟨es,clock,k,F⟩,j⟩:=h;exact ⟨e,g,i,D,⟨es,clock,hb.trans k,F⟩,j⟩
def aS.kp {S:Nat->Prop} (h:aS M w b f dom) (hk:Kp S w w') (hb:¬S b):aS M w' b f dom:=h.same (hk.block b h.lt hb)
def aS.no (h:aS M w b f dom) (hk:Kp ac w w'):aS M w' b f dom:=h.kp hk fun h=>h
def aS.alloc (h:aS M w b f dom) (o:Obj):aS M (w.alloc o) b f dom:=h.no ((Kp.refl ac w).alloc o)
def aS.made (w:W_):aS M (w.alloc (.map #[] 0)) w.heap.size (fun _=>none) [] :=
 ⟨s_,List.nodup_nil,s_,.map [],World.ownsMap_made w P k HR,rfl,fun a _=>rfl,s_,by intro e h;cases h⟩
def aS.look (h:aS M w b f dom) (K:Keyed P k) (o:P.underlying t=some (.map k e)) {z:Value} (hz:(zeroValue e).run P w=.ok z w) {a:α} (ha:M.ok a) :
  (Instr.lookup t (.map (some b)) (M.kv a) false).run P w=.ok ((f a).getD z) w/\(Instr.lookup t (.map (some b)) (M.kv a) true).run P w=.ok (.tuple #[(f a).getD z,.bool (f a).isSome]) w:=by
 obtain ⟨D,j,r,l,p,s⟩:=h.own;have i:HR z=some (.held z,[]):=rfl
 have m:D.atKey (M.kk a) (.held z)=.held ((f a).getD z):=by
  cases n:f a with
  | some v=>rw[p a v n];rfl
  | none=>rw[atKey_of_not_has (by rw[l a ha,n];rfl)];rfl
 constructor
 ·obtain ⟨v,q,g,hv⟩:=j.lookup K o hz i (M.key a ha)
  rw[m] at hv
  have:v=(f a).getD z:=by unfold HR at hv;injection hv with hv;injection hv with hv _;injection hv
  rw[g,this]
 obtain ⟨v,q,g,hv⟩:=j.look_ok K o hz i (M.key a ha);rw[m] at hv
 have:v=(f a).getD z:=by unfold HR at hv;injection hv with hv;injection hv with hv _;injection hv
 rw[g,this,l a ha]
def aS.len (h:aS M w b f dom) (l:P.underlying t=some (.map k e)) (g:TypeId):(Builtin.len_ #[t] g #[.map (some b)]).run P w=.ok (.int .i64 (dom.length:Nat)) w:=by
 obtain ⟨D,i,j,_⟩:=h.own;rw[<-j];exact i.len l g
variable [DecidableEq α]
def lu (f:α->Option Value) (a:α) (v:Value):α->Option Value:=fun x=>if x=a then some v else f x
def e8 (dom:List α) (a:α):List α:=if a∈dom then dom else dom++[a]
def MF (dom:List α) (a x:α):x∈e8 dom a↔x∈dom\/x=a:=by
 unfold e8;split
 ·constructor
  ·exact .inl
  rintro (h|rfl)<;>assumption
 simp
def GX {dom:List α} (h:dom.Nodup) (a:α):(e8 dom a).Nodup:=by
 unfold e8;split
 ·exact h
 rename_i hn;rw[List.nodup_append];refine ⟨h,List.nodup_cons.2 ⟨s_,List.nodup_nil⟩,?_⟩;intro x g y e;simp at e;subst e;rintro rfl;exact hn g
def aS.put (h:aS M w b f dom) (K:Keyed P k) (I:P.underlying t=some (.map k e)) (hn:dom.length<maxLen) {a:α} (ha:M.ok a) (v:Value) :
  ∃w',(Instr.mapUpdate t (.map (some b)) (M.kv a) v).run P w=.ok () w'/\aS M w' b (lu f a v) (e8 dom a)/\Kp (·=b) w w':=by
 obtain ⟨D,m,y,p,c,d⟩:=h.own;obtain ⟨w',G,E,hg⟩:=m.update K I hn (M.key a ha) (show HR v=some (.held v,[]) from rfl);have o:=K.key (M.key a ha);have hm:=m.isMap
 have n:size (D.put (M.kk a) (.held v))=(e8 dom a).length:=by
  rw[size_put (m.tidy K),p a ha,y];unfold e8;by_cases l:a∈dom
  ·rw[if_pos l,if_pos ((h.isSome a).2 l)]
  rw[if_neg l,if_neg (fun e=>l ((h.isSome a).1 e)),cd,A_]
 refine ⟨w',G,⟨fun x i=>?_,GX h.nodup a,fun x=>?_,_,by rw[<-n];exact rP E,n,fun x i=>?_,fun x u j z=>?_,fun r s=>?_⟩,Kp.of_grown hg fun q e=>(Option.some.inj e)⟩
 ·rcases (MF dom a x).1 i with i|rfl
  ·exact h.oks x i
  exact ha
 ·rw[MF]
  unfold lu;by_cases g:x=a
  ·rw[if_pos g];simp[g]
  rw[if_neg g,h.isSome];simp[g]
 ·unfold lu
  by_cases g:x=a
  ·subst g;rw[if_pos rfl,has_put_same hm o];rfl
  rw[if_neg g,has_put_other (fun e=>g (M.inj _ _ i ha e)),p x i]
 ·unfold lu at j
  by_cases g:x=a
  ·subst g;rw[if_pos rfl] at j;cases j;rw[atKey_put_same hm o]
  rw[if_neg g] at j;rw[atKey_put_other (fun e=>g (M.inj _ _ (h.oks x ((h.isSome x).1 (by rw[j];rfl))) ha e)),c x u j]
 by_cases g:r=M.kk a
 ·exact ⟨a,(MF dom a a).2 (.inr rfl),g.symm⟩
 rw[has_put_other g] at s;obtain ⟨x,i,J⟩:=d r s;exact ⟨x,(MF dom a x).2 (.inl i),J⟩
def Cx (f:α->Option Value) (a:α):α->Option Value:=fun x=>if x=a then none else f x
def aS.del (h:aS M w b f dom) (K:Keyed P k) (I:P.underlying t=some (.map k e)) {a:α} (ha:M.ok a) (s:TypeId) :
  ∃w',(Builtin.delete_ #[t,k] s #[.map (some b),M.kv a]).run P w=.ok (.tuple #[]) w'/\aS M w' b (Cx f a) (dom.erase a)/\Kp (·=b) w w':=by
 obtain ⟨D,o,y,p,c,d⟩:=h.own;obtain ⟨w',G,E,hg⟩:=o.drop K I (M.key a ha) s
 have n:size (D.del (M.kk a))=(dom.erase a).length:=by
  have:=size_del (k:=M.kk a) (o.tidy K);rw[p a ha,y] at this;by_cases l:a∈dom
  ·rw[if_pos ((h.isSome a).2 l)] at this
   rw[List.length_erase_of_mem l];omega
  rw[if_neg (fun e=>l ((h.isSome a).1 e))] at this;rw[List.erase_of_not_mem l];omega
 refine ⟨w',G,⟨fun x j=>h.oks x (List.mem_of_mem_erase j),h.nodup.erase a,fun x=>?_,_,by rw[<-n];exact rP E,n,fun x j=>?_,fun x u i z=>?_,fun r m=>?_⟩,Kp.of_grown hg.grown fun q e=>(Option.some.inj e)⟩
 ·rw[h.nodup.mem_erase_iff]
  unfold Cx;by_cases g:x=a
  ·rw[if_pos g];simp[g]
  rw[if_neg g,h.isSome];simp[g]
 ·unfold Cx
  by_cases g:x=a
  ·subst g;rw[if_pos rfl,has_del_same];rfl
  rw[if_neg g,has_del_other (fun e=>g (M.inj _ _ j ha e)),p x j]
 ·unfold Cx at i
  by_cases g:x=a
  ·rw[if_pos g] at i;cases i
  rw[if_neg g] at i;rw[atKey_del_other (fun e=>g (M.inj _ _ (h.oks x ((h.isSome x).1 (by rw[i];rfl))) ha e)),c x u i]
 by_cases g:r=M.kk a
 ·rw[g,has_del_same] at m;cases m
 rw[has_del_other g] at m;obtain ⟨x,j,v⟩:=d r m;refine ⟨x,h.nodup.mem_erase_iff.2 ⟨?_,j⟩,v⟩;rintro rfl;exact g v.symm
end
def KInt (P:Program) (k:TypeId) (hk:P.underlying k=some (.int .i64)):KM P k Nat where
 kk n:=.int .i64 n
 kv n:=.int .i64 n
 ok n:=n<=100000
 key n h:=Maps.keyOf_int_mk hk (by simp only[Lit.wf,IntKind.min,IntKind.max,IntKind.signed,IntKind.bits,Bool.and_eq_true,decide_eq_true_eq,if_true];omega)
 inj a b _ _ h:=by injection h with _ h;exact Int.ofNat.inj h
end
def NO (w:W_) (e:Value) (m:Nat->Option B_):Prop:=∀W,Kp ac w W->∀k:Nat,k<1000->∃x,(Instr.lookup 264 e (.int .i64 k) true).run prog W=.ok (.tuple #[.string x,.bool (m k).isSome]) W/\∀y,m k=some y->x=y
def NO.no {e:Value} {m:Nat->Option B_} (h:NO w e m) (k:Kp ac w w'):NO w' e m:=fun W g=>h W (k.trans g)
def EO (L:List Nat) (E:Nat->B_) (j:Nat) (h:j<L.length):sv ((L.take (j+1)).map E)=sv ((L.take j).map E)++[.string (E (L.getD j 0))]:=by
 rw[mx h,List.map_append,x_q];simp[sv,be,h]
def DQ {j:Nat} (hs:sl s) (e:t<s):(dJ s t).getD j 0<4:=by
 unfold dJ;rcases hs with rfl|rfl
 ·rw[if_pos rfl]
  cases j with
  | zero=>decide
  | succ j=>simp
 rw[if_neg d_]
 match j with
 | 0=>show 1<4;decide
 | 1=>show 2+t / 2<4;omega
 | j+2=>simp
def KJ (L:List Nat) (E:Nat->B_) (j:Nat) (h:j<L.length):tl (L.map E) j=E (L.getD j 0):=by
 simp[tl,be,h]
section
def Cv (H9:Hm) (H8:a_ w) (h:Bk w b n σ F) (hw:10<=w.heap.size) (y9:i<n) (hs:sl s) (h0:t<s) (N:Value) (m:Nat->Option B_) (H6:NO w N m) (E f:Nat->B_)
  (hE:∀j,j<dP s->(∀y,m ((dJ s t).getD j 0)=some y->y=E ((dJ s t).getD j 0))/\(m ((dJ s t).getD j 0)=none->(σ i).dead=false/\tl (σ i).now (100+(dJ s t).getD j 0)=E ((dJ s t).getD j 0)))
  (x3:∀j,j<dP s->(E ((dJ s t).getD j 0)).size=64/\im (E ((dJ s t).getD j 0))=f j/\f (j+1)=jh (E ((dJ s t).getD j 0)) (sec s t j)) :
  Cl 151 #[.agg (di b i s key),.string (f 0),.int .i64 t,N] w fun e w'=>∃u,e=.returned (.tuple #[u,.string (f (dP s)),.int .i64 0])/\b_ w' u (sv ((dJ s t).map E))/\Kp ac w w':=by
 have l:=Zz (ab.new w 139 (di b i s key));have o:=Zz ((Kp.refl ac w).alloc (.cells (di b i s key) 139));have y4:=Zz (fun W H Y=>H9 W s t hs h0 H Y);have y5:=Zz h;have H5:=Zz H8;have vp:=Zz H6;have Z:=KU s t
 have jz:1<=dP s/\dP s<=2:=by rcases hs with rfl|rfl<;>decide
 have x7:=Zz (fun W (H:a_ W) (Y:10<=W.heap.size) u (h1:b_ W u (sv ((dJ s t).map E)))=>Ll W H Y s t hs h0 u ((dJ s t).map E) h1 (by rw[fW,Z]) f (fun j x1=>by
  rw[KJ _ _ _ o_];exact x3 j x1))
 have rf:=Zz (EO (dJ s t) E);have y3:Hid ((dJ s t).take (dP s)=dJ s t):=Zz (by rw[<-Z,List.take_length]);have x6:=Zz hE;have y6:=Zz (fun j=>DQ (j:=j) hs h0)
 have vj:Hid (∀j,(sv (((dJ s t).take j).map E)).length<=2):=Zz fun j=>by rw[cN,fW,gC];omega
 have x8:=Zz (oP (dJ s t));clear H9 hs H8 h H6 hE x3;generalize dJ s t=L at *;generalize dP s=p at *;change Cl 151 #[.agg #[.pointer (some ⟨b,0,none⟩),.int .i64 i,.int .i64 s,.string (bs key)],.string (f 0),.int .i64 t,N] w _;go_enter func151,ntmps151
 go_upto_region 1 with fail
 change Code.wp _ _ _ _ (w.alloc (.cells (di b i s key) 139));generalize y0:w.alloc (.cells (di b i s key) 139)=w1 at *;clear y0
 have y7:10<=w1.heap.size:=by have:=o.o.size;omega
 obtain ⟨G,hG⟩:∃G,w.heap.size=G:=⟨_,rfl⟩;rw[hG] at l ⊢;have y2:=l.o.c2;go_wp2_with fail;refine (y4.o _ (H5.o.no o.o) y7).mono ?_;rintro e v ⟨u,rfl,h1,V⟩;have H3:=Zz (l.o.kp V fun h=>h);have X:=Zz (o.o.trans V);obtain ⟨A,c,rfl,x9,bk,U⟩:=h1;rw[iF,Z] at x9 U ⊢;obtain ⟨pb,off,rfl,H2⟩:=U o_;have y1:=Zz H2;have g:Hid (aH v v.heap.size 9 (.slice none 0 0) (sv ((L.take 0).map E))):=Zz (aH.nil_ _ _ _);have d:=Zz (Kp.refl ac v);have x4:=Zz X.o.size;clear V y2 l o U H2
 go_upto_region 4 with fail
 go_loopw [13,15,16,17,18,30] (fun y8 _ _ _ _ h6 wr=>∃j:Nat,j<=p/\h6=.int .i64 j/\Hid (aH wr v.heap.size 9 y8 (sv ((L.take j).map E)))/\Hid (ab wr G 139 (di b i s key))/\Hid (Kp ac w wr)/\Hid (Kp ac v wr)) (fun _ _ _ _ _ h6 _=>p-(intOf h6).toNat)
 case atStart=>exact ⟨0,o_,rfl,g,H3,X,d⟩
 case round =>
  clear g H3 X d;obtain ⟨j,x1,rfl,g,l,o,d⟩:=hrel;by_cases H1:j<p
  ·have P:=y1.o j H1
   rw[x8.o j o_] at P;have k0:=(d.o.below0.cell (fV v _ P)).trans P;have bL:(j:Int)<(p:Int):=o_;have eB:=y6.o j;have H0:=Zz (rf.o j o_);obtain ⟨h4,h5⟩:=x6.o j H1;have kR:=vj.o j;obtain ⟨x,r,h7⟩:=vp.o wr o.o (L.getD j 0) o_;have c0:=l.o.c0;have c1:=l.o.c1;clear P;generalize L.getD j 0=k at *;have XE:=Zz (fun y:B_=>l.o.alloc (.cells #[.string y] 9));have O:=d.o.size
   cases z:m k with
   | some y =>
    have x2:y=E k:=h4 y z
    have x5:x=E k:=by rw[h7 y z];exact x2
    rw[z] at r;rw[x5] at r;have h2:Hid ((Instr.lookup 264 N (.int .i64 k) true).run prog wr=.ok (.tuple #[.string (E k),.bool true]) wr):=Zz r;clear h4 h5 h7 z x2 x5 r;have r:=h2.o;generalize E k=B at *
    go_wp2_with (at_builtin;refine Bp (w0:=wr) v.heap.size rfl (.tmp 55) (.tmp 57) 38 9 (.string ⟨#[]⟩) 16 rfl underlying38 C4 rfl d_ u13 (sv ((L.take j).map E)) (.string B) rfl rfl rfl g.o ((Below.refl _ _).mono O) O o_ ?_;intro v1 w9 M C I T;have J:=Zz M;have a:=Zz I;clear M C I T)
    rw[<-H0.o] at J;have D:=Zz (l.o.grown a.o (Ne.symm (hH g.o l.o d_)));have R:=Zz (o.o.then (Kp.of_grown a.o (S:=fun q=>some q=u13.ownBlock) fun _ h=>h) fun q K h=>by have:=(g.o.lt q h.symm).1;have:=x4.o;omega);have h3:=Zz (d.o.then (Kp.of_grown a.o (S:=fun q=>some q=u13.ownBlock) fun _ h=>h) fun q K h=>by have:=(g.o.lt q h.symm).1;omega);go_roundw
    case rel=>exact ⟨j+1,o_,by go_num,J,D,R,h3⟩
    case measure=>simp[intOf];omega
   | none =>
    obtain ⟨x0,h8⟩:=h5 z;rw[z] at r;have h2:Hid ((Instr.lookup 264 N (.int .i64 k) true).run prog wr=.ok (.tuple #[.string x,.bool false]) wr):=Zz r;have Q:=Zz (x_n (y5.o.no o.o) i (100+k) y9 o_);rw[x0,h8] at Q;have Q:Hid (Cl 130 #[.pointer (some ⟨b,0,none⟩),.int .i64 i,.int .i64 (100+k:Nat)] wr fun e w'=>e=.returned (.tuple #[.string (E k),.int .i64 0])/\w'=wr):=Q;clear h4 h5 h7 z r x0 h8;have r:=h2.o;have vq:(100:Int)+(k:Int)=((100+k:Nat):Int):=o_
    have ph:IntKind.i64.wrap ((100+k:Nat):Int)=((100+k:Nat):Int):=by rw[eM];omega
    have SJ:100+k<104:=o_;generalize E k=B at *;generalize 100+k=kk at *;go_wp2_with fail;refine Q.o.mono ?_;rintro e w4 ⟨rfl,rfl⟩
    go_wp2_with (at_builtin;refine Bp (w0:=w4) v.heap.size rfl (.tmp 55) (.tmp 57) 38 9 (.string ⟨#[]⟩) 16 rfl underlying38 C4 rfl d_ u13 (sv ((L.take j).map E)) (.string B) rfl rfl rfl g.o ((Below.refl _ _).mono O) O o_ ?_;intro v1 w9 M C I T;have J:=Zz M;have a:=Zz I;clear M C I T)
    rw[<-H0.o] at J;have D:=Zz (l.o.grown a.o (Ne.symm (hH g.o l.o d_)));have R:=Zz (o.o.then (Kp.of_grown a.o (S:=fun q=>some q=u13.ownBlock) fun _ h=>h) fun q K h=>by have:=(g.o.lt q h.symm).1;have:=x4.o;omega);have h3:=Zz (d.o.then (Kp.of_grown a.o (S:=fun q=>some q=u13.ownBlock) fun _ h=>h) fun q K h=>by have:=(g.o.lt q h.symm).1;omega);go_roundw
    case rel=>exact ⟨j+1,o_,by go_num,J,D,R,h3⟩
    case measure=>simp[intOf];omega
  obtain rfl:j=p:=o_;rw[y3.o] at g;have H4:=g.o.reads;have H7:=Zz H4;clear H4;go_wp2_with fail;refine (x7.o _ (H5.o.no o.o) (by have:=o.o.size;omega) _ H7.o).mono ?_;rintro e w8 ⟨rfl,h9⟩;have r8:=Zz (H7.o.below h9.below0);go_wp2
  go_ret3
  exact ⟨_,rfl,r8.o,o.o.trans h9⟩
end
def jW (W:W_):(zeroValue 9).run prog W=.ok (.string ⟨#[]⟩) W:=by
 obtain ⟨j,g,e,h,i⟩:=info_parts C4;simp[zeroValue,typeInfo,g,e]
def Xl (k:Nat) (h:k<1000000):(Lit.int .i64 k).wf=true:=by
 have e:IntKind.i64.min=-9223372036854775808:=rfl;have g:IntKind.i64.max=9223372036854775807:=rfl;simp[Lit.wf,e,g];omega
def v_ (w:W_):NO w (.map none) (fun _=>none):=fun W _ k hk=>by
 have h:prog.underlying 264=some (.map 3 9):=k_;have e:prog.underlying 3=some (.int .i64):=k_;have g:=Xl k o_;have:=Maps.look_nil (P:=prog) (w:=W) true (Maps.int_keyed e) h (jW W) (Maps.keyOf_int_mk e g);exact ⟨_,this,fun y i=>by cases i⟩
section
def jn (I:Hm) (E:a_ w) (h:Bk w b n σ F) (h7:10<=w.heap.size) (D:i<n) (hs:sl s) (H:t<s) (J:(σ i).dead=true) (o:Value) (m:Nat->Option B_) (f:NO w o m) (hm:m 1=none) (top:B_) :
  Cl 151 #[.agg (di b i s key),.string top,.int .i64 t,o] w fun e w'=>e=.returned (.tuple #[.slice none 0 0,.string ⟨#[]⟩,.int .i64 20])/\Kp ac w w':=by
 have j:=Zz (ab.new w 139 (di b i s key));have k:=Zz ((Kp.refl ac w).alloc (.cells (di b i s key) 139));have Y:=Zz (fun W C U=>I W s t hs H C U);have Z:=Zz h;have T:=Zz E;have h1:=Zz f;have X:=KU s t
 have h8:1<=dP s/\dP s<=2:=by rcases hs with rfl|rfl<;>decide
 have M:(dJ s t).getD 0 0=1:=by unfold dJ;split<;>rfl
 have z:=oP (dJ s t) 0 o_;rw[M] at z;have O:=Zz z;have Q:=Zz hm;have P:=Zz J;clear I hs E h f M z hm J;generalize dJ s t=L at *;generalize dP s=p at *;change Cl 151 #[.agg #[.pointer (some ⟨b,0,none⟩),.int .i64 i,.int .i64 s,.string (bs key)],.string top,.int .i64 t,o] w _;go_enter func151,ntmps151
 go_upto_region 1 with fail
 change Code.wp _ _ _ _ (w.alloc (.cells (di b i s key) 139));generalize S:w.alloc (.cells (di b i s key) 139)=h2 at *;clear S
 have B:10<=h2.heap.size:=by have:=k.o.size;omega
 obtain ⟨G,hG⟩:∃G,w.heap.size=G:=⟨_,rfl⟩;rw[hG] at j ⊢;have V:=j.o.c2;go_wp2_with fail;refine (Y.o _ (T.o.no k.o) B).mono ?_;rintro e g ⟨u,rfl,K,r⟩;have d:=Zz (j.o.kp r fun h=>h);have v:=Zz (k.o.trans r);obtain ⟨A,c,rfl,R,h3,q⟩:=K;rw[iF,X] at R q ⊢;obtain ⟨pb,off,rfl,a⟩:=q o_;have h0:=(a 0 o_).trans O.o;rw[Nat.add_zero] at h0;have h4:=d.o.c0;have h5:=d.o.c1;obtain ⟨x,y,_⟩:=h1.o g v.o 1 d_;rw[Q.o] at y;have y:(Instr.lookup 264 o (.int .i64 1) true).run prog g=.ok (.tuple #[.string x,.bool false]) g:=y;have l:=Zz (x_n (Z.o.no v.o) i 101 D d_);rw[P.o] at l;have l:Hid (Cl 130 #[.pointer (some ⟨b,0,none⟩),.int .i64 i,.int .i64 101] g fun e w'=>e=.returned (.tuple #[.string ⟨#[]⟩,.int .i64 20])/\w'=g):=l;have H0:0<p:=o_;clear r V j k q a O
 go_upto_region 4 with fail
 go_loopw [13,15,16,17,18,30] (fun h6 _ _ _ _ N wr=>N=.int .i64 0/\g=wr) (fun _ _ _ _ _ N _=>0)
 case atStart=>exact ⟨rfl,rfl⟩
 case round =>
  obtain ⟨rfl,rfl⟩:=hrel;go_wp2_with fail;refine l.o.mono ?_;rintro e h9 ⟨rfl,rfl⟩;go_wp2
  go_ret3
  exact ⟨rfl,v.o⟩
end
end Go.Proofs.YtdkheklakfbeeaaGreatDoor
