/- Part 24 of the proof. -/
import Derived.RangeFuncNested
import Derived.RangeFuncBound
import Derived.RangeFuncCalls
import Derived.RangeFuncLeaves
import Derived.RangeFuncBox
import Derived.Shelf.Abstract
import Derived.Shelf.RegionOpen
import Derived.WalkKit
import Derived.OwnWalkIn
import Derived.TacticsInMore
import Derived.LoopNIn
import Derived.LoopIn
import Derived.Maps.AppendAt
import Derived.Maps.OwnIn
import Derived.Test.YtdkheklakfbeeaaGreatDoorM23
set_option linter.all false
set_option maxRecDepth 100000
set_option maxHeartbeats 16000000
namespace Go.Proofs.YtdkheklakfbeeaaGreatDoor
open Go.RowKit Tryz
def ch0:Nat->ByteArray:=fun _=>bs []
def y_8 (s k m:Nat):List Wr:=((List.range k).map fun q=>⟨101+q,prT s ch0 (q+1)⟩)++(List.range m).map fun q=>⟨120+q,bs []⟩
def y_N (s:Nat):List Wr:=y_8 s (s-1) s
theorem blkW_len (s k m:Nat):(y_8 s k m).length=k+m:=by simp[y_8]
theorem blkW_pair (s k:Nat):y_8 s (k+1) 0=y_8 s k 0++[⟨101+k,prT s ch0 (k+1)⟩]:=by simp[y_8,List.range_succ]
theorem blkW_chunk (s k m:Nat):y_8 s k (m+1)=y_8 s k m++[⟨120+m,bs []⟩]:=by simp[y_8,List.range_succ]
theorem wr_one (a:Nat) (x:ByteArray):wrC [⟨a,x⟩]=[.int .i64 a,.string x]:=rfl
theorem w_r {w:World} {b b' e size k:Nat} {v:Value} {xs:List Value} (h:w.ownsRow b e size v k xs) (hb:b'<=b):w.ownsRow b' e size v k xs:=by
 refine ⟨h.1,?_⟩;rcases h.2 with hn|⟨g,av,aQ,hv,dW,rest⟩
 ·exact .inl hn
 ·exact .inr ⟨g,av,aQ,hv,q_g hb dW,rest⟩
section
variable {w:World} {b n i s t:Nat} {key:List UInt8} {σ:Nat->DkS} {F:Nat->Prop}
theorem blank_any (hP:w_Z) (hL:Lay w) (h:Bk w b n σ F) (hw:10<=w.heap.size) (hi:i<n) (hs:sl s) (hk:key.length=32) :
  Cl 93 #[.agg (slC b i s key)] w fun e w'=>∃u,e=.returned (.tuple #[u,.string (z_L s ch0),.int .i64 0])/\w'.ownsRow w.heap.size 240 2 u (y_N s).length (wrC (y_N s))/\Kp NoB w w':=by
 have jw:2<=s/\s<=4:=by rcases hs with rfl|rfl<;>decide
 have HB:=Zz (Blk.new w 139 (slC b i s key));have HK:=Zz ((Kp.refl NoB w).alloc (.cells (slC b i s key) 139))
 have aN:10<=(w.alloc (.cells (slC b i s key) 139)).heap.size:=by have:=HK.o.size;omega
 have HG:=Zz (w_9 hP (hL.no HK.o) (h.no HK.o) aN hi hs hk);have bj:=Zz hL;have sh:=Zz (fun W (hW:Lay W) (bE:10<=W.heap.size)=>leafB_any W hW bE (bs []) (by decide));have yV:=Zz (fun W v (hv:z_g W v (sv [z_h (bs [])]))=>repeat_any W s hs v (z_h (bs [])) hv);have Eo:=Zz (fun W (hW:Lay W) (bE:10<=W.heap.size) v (hv:z_g W v (sv (List.replicate s (z_h (bs [])))))=>build_any W hW bE s hs v (List.replicate s (z_h (bs []))) hv (by simp) (fun j hj=>by simp[tl,hj,z_P]) (dgT s ch0) (prT s ch0) (fun j hj=>by rw[dgT_leaf];simp[tl,hj,ch0]) (fun j h1 h2=>prT_build hs ch0 j h1 h2));have mc:=Zz (fun j (hj:j<s)=>fl_at (prT s ch0) (fun j=>decide (0<j)) s j hj);have oA:=Zz (blkW_pair s);have IV:=Zz (blkW_chunk s);have fj:Hid (y_8 s 0 0=[]):=Zz rfl;have C9:Hid (y_8 s (s-1) s=y_N s):=Zz rfl;have dE:=Zz (blkW_len s);have bm:(y_N s).length=s-1+s:=blkW_len _ _ _;rw[bm];have vY:=y_T (prT s ch0) (fun j=>decide (0<j)) s;have Yc:=Zz vY;clear hP hs hL h aN bm vY;change Hid (∀W _ _ v _,Calls _ _ _ W fun e w'=>∃u,e=.returned (.tuple #[u,.string (z_L s ch0),.int .i64 0])/\_/\_) at Eo;generalize fl (prT s ch0) (fun j=>decide (0<j)) s=PL at *;generalize z_L s ch0=TP at *;generalize rK:z_h (bs [])=LB at *;change Cl 93 #[.agg #[.pointer (some ⟨b,0,none⟩),.int .i64 i,.int .i64 s,.string (bs key)]] w _;go_enter func93,ntmps93
 go_upto_region 1 with fail
 change Code.wp _ _ _ _ (w.alloc (.cells (slC b i s key) 139));generalize aN:w.alloc (.cells (slC b i s key) 139)=w1 at *;clear aN;obtain ⟨G,hG⟩:∃G,w.heap.size=G:=⟨_,rfl⟩;rw[hG] at HB ⊢;have cR:=Zz hG;have c0:=HB.o.c0;have c1:=HB.o.c1;have c2:=HB.o.c2;have c3:=HB.o.c3;go_wp2_with fail;refine HG.o.mono ?_;rintro e w2 ⟨rfl,ag⟩;have ak:=Zz (HB.o.kp ag fun h=>h).drew;have al:=Zz (HK.o.trans ag).drew;clear ag c0 c1 c2 c3 HB HK
 go_upto_region 3 with fail
 refine fs ?_;generalize w2.drew=w3 at *;have c2:=ak.o.c2;have hq0:(⟨#[]⟩:ByteArray)=bs []:=rfl;have fB:=Zz al.o.size;refine fp 2 ?_;refine f_c 3 c2 ?_;refine fd 0 fun K Qx hK=>?_;go_simp;refine (sh.o _ (bj.o.no al.o) (by have:=fB.o;omega)).mono ?_;rintro e w4 ⟨rfl,aw⟩;have bR:=Zz (ak.o.kp aw fun h=>h);have az:=Zz (al.o.trans aw);refine hK _ _ (oK (bR.o.cell 2) oN) ?_;clear hK K c2 aw ak al;refine fd 1 fun K Qx hK=>?_;go_simp;have gp:=Zz (bR.o.alloc (.cells #[.string LB] 9));have dK:=Zz (az.o.alloc (.cells #[.string LB] 9));have eQ:Hid (z_g (w4.alloc (.cells #[.string LB] 9)) (.slice (some ⟨w4.heap.size,0,none⟩) 1 1) (sv [LB])):=Zz (blit w4 #[.string LB] 9 (by simp[maxLen]));refine hK _ _ (oK (gp.o.cell 2) oN) ?_;clear hK K bR az;generalize w4.alloc (.cells #[.string LB] 9)=wA at *;refine fd 4 fun K Qx hK=>?_;go_simp;refine (yV.o _ _ eQ.o).mono ?_;rintro e wB ⟨v1,rfl,yW,Nq⟩;have iB:=Zz (gp.o.kp Nq fun h=>h);have sZ:=Zz (dK.o.trans Nq);have vX:=Zz yW;refine hK _ _ (oW oN) ?_;clear hK K Nq yW gp dK eQ;refine fd 5 fun K Qx hK=>?_;go_simp;refine (Eo.o _ (bj.o.no sZ.o) (by have:=sZ.o.size;omega) _ vX.o).mono ?_;rintro e w5 ⟨u,rfl,hu,aG⟩;have aY:=Zz (iB.o.kp aG fun h=>h);have ax:=Zz (sZ.o.trans aG);have HU:=Zz hu;refine hK _ _ (oW oN) ?_;clear hK K aG hu iB sZ vX;refine fp 6 ?_;refine fp 7 ?_;refine fp 8 ?_;refine fp 9 ?_;refine fp 10 ?_;refine fp 11 ?_;refine fp 12 ?_;refine fe ?_;obtain ⟨A,c,rfl,aK,bf,aa⟩:=HU.o
 have EI:PL.length=s:=by have:=Yc.o;omega
 rw[z_c,EI] at aK aa ⊢;obtain ⟨pb,off,rfl,ae⟩:=aa (by omega)
 have bA:Hid (∀j,1<=j->j<s->w5.cell? ⟨pb,off+j,none⟩=some (.string (prT s ch0 j))):=Zz fun j h1 hj=>by
  rw[ae j hj,y_y PL j (by omega),mc.o j hj,if_pos (by simp;omega)]
 have HO:Hid (w5.ownsRow w5.heap.size 240 2 (.slice none 0 0) 0 (wrC (y_8 s 0 0))):=Zz (by rw[fj.o];exact World.ownsRow_nil _ _ _ _);have oe:=Zz (Kp.refl NoB w5);have yX:=Zz ax.o.size
 have EJ:Hid (∀j,(prT s ch0 j).size<=100):=Zz fun j=>by rw[w_H];decide
 clear aa ae EI
 go_upto_region 6 with fail
 go_loopw [8,9] (fun s8 s9 wr=>∃k:Nat,k+1<=s/\s9=.int .i64 (k+1:Nat)/\Hid (wr.ownsRow w5.heap.size 240 2 s8 k (wrC (y_8 s k 0)))/\Hid (Blk wr G 139 (slC b i s key))/\Hid (Kp NoB w wr)/\Hid (Kp NoB w5 wr)) (fun _ s9 _=>s-(intOf s9).toNat)
 case atStart=>exact ⟨0,by omega,rfl,HO,aY,ax,oe⟩
 case round =>
  clear HO aY ax oe;obtain ⟨k,hk,rfl,HO,HB,HK,HR⟩:=hrel;have c2:=HB.o.c2;by_cases af:k+1<s
  ·have hx:=bA.o (k+1) (by omega) af
   have k0:=(HR.o.below0.cell (q_c w5 _ hx)).trans hx
   have bV:((k+1:Nat):Int)<(s:Int):=by omega
   have tj:(100:Int)+((k+1:Nat):Int)=((101+k:Nat):Int):=by omega
   have nv:IntKind.i64.wrap ((101+k:Nat):Int)=((101+k:Nat):Int):=by rw[q_r];omega
   have LT:IntKind.i64.wrap (((k+1:Nat):Int)+1)=((k+1+1:Nat):Int):=by rw[q_r];omega
   have Yd:Hid (k+1+1<=s):=Zz af;have aR:=Zz (oA.o k);have pi:=EJ.o (k+1);clear hx
   have b9:Hid (∀u∈[Value.int .i64 (101+k:Nat),.string (prT s ch0 (k+1))],u.oneCell'=true):=Zz (by
    intro u hu;rcases List.mem_cons.1 hu with rfl|hu
    ·rfl
    ·rcases List.mem_cons.1 hu with rfl|hu
     ·rfl
     ·cases hu)
   have ie:=HR.o.size;have Nr:=yX.o;have gD:=Zz (fun q (hq:u8.ownBlock=some q)=>(z_u HO.o hq).1)
   have je:(k+1)*24<=140737488355328:=by omega
   have gC:=Zz HO.o;generalize prT s ch0 (k+1)=PX at *;generalize 101+k=ka at *;have Ns:=Zz je;clear je;generalize aX:k+1=k1 at *;have uR:=Zz aX;clear aX;generalize ag:k1+1=k2 at *;have yY:=Zz ag;clear ag
   go_wp2_with (at_builtin;refine y_v w5.heap.size rfl (.tmp 30) (.tmp 38) 182 240 (.agg #[.int .i64 0,.string ⟨#[]⟩]) 2 24 rfl underlying182 infoIW rfl (by decide) (by decide) u8 k (wrC (y_8 s k 0)) [.int .i64 ka,.string PX] rfl rfl rfl b9.o gC.o ie (by have:=Ns.o;have:=uR.o;omega) ?_;intro v1 w9 dL eR df;have cT:=Zz dL;have eE:=Zz eR;clear dL eR df)
   rw[<-wr_one,<-v_j,<-aR.o,uR.o] at cT;have fL:=Zz (HB.o.grown eE.o (Ne.symm (z_s gC.o HB.o (by decide))));have aT:=Zz (HK.o.then (Kp.of_grown eE.o (S:=fun q=>some q=u8.ownBlock) fun _ h=>h) fun q hq h=>by have:=(z_u gC.o h.symm).1;omega);have mg:=Zz (HR.o.then (Kp.of_grown eE.o (S:=fun q=>some q=u8.ownBlock) fun _ h=>h) fun q hq h=>by have:=gD.o q h.symm;omega);go_roundw
   case rel=>exact ⟨k1,by rw[yY.o];exact Yd.o,by rw[yY.o],cT,fL,aT,mg⟩
   case measure=>simp[intOf];have:=yY.o;omega
  ·have dS:k=s-1:=by omega
   have EK:k+1=s:=by omega
   rw[EK];have HO:=Zz HO.o;rw[dS] at HO;have kA:Hid (wr.ownsRow w5.heap.size 240 2 u8 (s-1+0) (wrC (y_8 s (s-1) 0))):=HO;have Bl:Hid (s-1<=3/\s<=4):=Zz (by omega);clear dS EK HO hk af;generalize im:s-1=s1 at *;have BL:=Zz im;clear im
   go_upto_region 10 with fail
   go_loopw [8,10,42] (fun s8 _ s42 wx=>∃m:Nat,m<=s/\s42=.int .i64 m/\Hid (wx.ownsRow w5.heap.size 240 2 s8 (s1+m) (wrC (y_8 s s1 m)))/\Hid (Kp NoB w wx)/\Hid (Kp NoB w5 wx)) (fun _ _ s42 _=>s-(intOf s42).toNat)
   case atStart=>exact ⟨0,by omega,rfl,kA,HK,HR⟩
   case round =>
    clear kA HK HR c2 HB;obtain ⟨m,hm,rfl,HO,HK,HR⟩:=hrel;by_cases D4:m<s
    ·have bV:(m:Int)<(s:Int):=by omega
     have tj:(120:Int)+(m:Int)=((120+m:Nat):Int):=by omega
     have nv:IntKind.i64.wrap ((120+m:Nat):Int)=((120+m:Nat):Int):=by rw[q_r];omega
     have aR:=Zz (IV.o s1 m)
     have b9:Hid (∀u∈[Value.int .i64 (120+m:Nat),.string (bs [])],u.oneCell'=true):=Zz (by
      intro u hu;rcases List.mem_cons.1 hu with rfl|hu
      ·rfl
      ·rcases List.mem_cons.1 hu with rfl|hu
       ·rfl
       ·cases hu)
     have ie:=HR.o.size;have gC:=Zz HO.o;have gD:=Zz (fun q (hq:u8.ownBlock=some q)=>(z_u HO.o hq).1);have Nr:=yX.o;generalize 120+m=km at *
     go_wp2_with (at_builtin;refine y_v w5.heap.size rfl (.tmp 45) (.tmp 49) 182 240 (.agg #[.int .i64 0,.string ⟨#[]⟩]) 2 24 rfl underlying182 infoIW rfl (by decide) (by decide) u8 (s1+m) (wrC (y_8 s s1 m)) [.int .i64 km,.string (bs [])] rfl rfl rfl b9.o gC.o ie (by have:=Bl.o;omega) ?_;intro v1 w9 dL eR df;have cT:=Zz dL;have eE:=Zz eR;clear dL eR df)
     rw[<-wr_one,<-v_j,<-aR.o] at cT;have aT:=Zz (HK.o.then (Kp.of_grown eE.o (S:=fun q=>some q=u8.ownBlock) fun _ h=>h) fun q hq h=>by have:=gD.o q h.symm;omega);have mg:=Zz (HR.o.then (Kp.of_grown eE.o (S:=fun q=>some q=u8.ownBlock) fun _ h=>h) fun q hq h=>by have:=gD.o q h.symm;omega);go_roundw
     case rel=>exact ⟨m+1,by omega,by go_num,cT,aT,mg⟩
     case measure=>simp[intOf];omega
    ·obtain rfl:m=s:=by omega
     rw[C9.o] at HO;go_wp2
     go_ret3
     exact ⟨_,rfl,by rw[BL.o];exact w_r HO.o yX.o,HK.o⟩
end
section
open Go.Shelf
attribute [local go_sem] Oper.semAt_some
section
variable {P:Program} {n:Nat}
def rndPost (Bn:Nat) (I:Nat->World->Prop) (k:Nat) (W:World):Exit->Act->World->Prop
 | .normal,_,W'=>KeepsOthers W W'/\W'.heap[Bn]?=W.heap[Bn]?/\I k W'
 | _,_,_=>False
theorem range_cells {g:Operand} {ps:Array Tmp} {assign body:Code} {Q:Exit->Act->World->Prop} {a:Act} {w:World} (h1:1<=n) {gf:Nat} {lb:Array Value}
  (hg:a.eval g=.func (.func gf) #[] lb) (eg:∀args w,(callFunc gf args).run P w=.ok (.enter gf args) w) (N Bn:Nat) (EL:Bn<w.heap.size) (enc:Nat->Value) (Ye:ps.size=1) (I:Nat->World->Prop)
  (Nt:∀k W l o o',w.heap.size<=l->W.heap[l]?=some o->o.isCells=false->I k W->I k (W.putObj l o')) (Sk:∀k W o,I k W->I k (W.alloc o)) (Yf:∀k W v,I k W->I k (W.setCell ⟨Bn,0,none⟩ v)) (h0:I 0 w)
  (qL:∀(l:Nat) (J:Nat->World->Prop) (W:World),(∀k W' v,J k W'->J k (W'.setCell ⟨Bn,0,none⟩ v)) ->
   (∀k W1,k<N->J k W1->YieldAt Fence.wide (n-1-1) P l #[enc k] W1 fun e W'=>e=.returned (.bool true)/\J (k+1) W'/\W'.heap[Bn]?=W1.heap[Bn]?)->J 0 W->W.heap[Bn]?=w.heap[Bn]? ->
   CallsIn Fence.wide (n-1) P gf (#[.func (.yield l) #[] #[]]++lb) W fun e W'=>(∃v,e=.returned v)/\J N W')
  (a1:Nat->Act)
  (tK:∀(l k:Nat) (W:World) (K:Act->World->Prop),K (a1 k) W->assign.wpIn (Fence.wide.inRound l) (n-1-1) P (Exit.then K (fun _ _ _=>False)) { tmps:=(ps.zip #[enc k]).foldl (fun t (p,v)=>t.setIfInBounds p v) a.tmps,defers:=[] } W)
  (EM:∀(l k:Nat) (W:World),k<N->I k W->body.wpIn (Fence.wide.inRound l) (n-1-1) P (rndPost Bn I (k+1) W) (a1 k) W)
  (lE:∀(D:Nat) (W:World),w.heap.size<=D->I N W->W.heap[D]?=some (.deferred (some []))->Q .normal { a with defers:={ target:=.collected D,args:=#[] }::a.defers } W) :
  (Code.rangeFunc g ps assign body).wpIn Fence.wide n P Q a w:=by
 refine wpIn_rangeFunc ?_;intro fn Nu;obtain ⟨sk,jU⟩:∃sk:LoopState->Option Code->Loop,sk=fun st pe=>{ state:=st,pending:=pe,fn,tmps:=a.tmps,params:=ps,assign,body,defers:=w.heap.size }:=⟨_,rfl⟩;obtain ⟨W1,BQ⟩:∃W1,(w.alloc (.deferred (some []))).alloc (.loop (sk .ready none))=W1:=⟨_,rfl⟩
 have li:W1.heap[w.heap.size+1]?=some (.loop (sk .ready none)):=by
  rw[<-BQ];have:=World.alloc_heap_new (w.alloc (.deferred (some []))) (.loop (sk .ready none));rwa [World.size_alloc] at this
 have Bt:W1.heap[w.heap.size]?=some (.deferred (some [])):=by
  rw[<-BQ];exact (Below.heap_alloc _ _ _ (by simp)).trans (World.alloc_heap_new w _)
 have bT:W1.heap[Bn]?=w.heap[Bn]?:=by
  rw[<-BQ];exact (Below.heap_alloc _ _ _ (by simp;omega)).trans (Below.heap_alloc _ _ _ EL)
 have LT:I 0 W1:=by rw[<-BQ];exact Sk _ _ _ (Sk _ _ _ h0)
 have cL:∀(W:World) (v:Value) (k:Nat),k≠Bn->(W.setCell ⟨Bn,0,none⟩ v).heap[k]?=W.heap[k]?:=fun W v k hk=>Below.heap_setCell W _ v k hk
 refine ⟨w.heap.size+1,[{ target:=.collected w.heap.size,args:=#[] }],W1,{ target:=.fn (.func gf) lb,args:=#[.func (.yield (w.heap.size+1)) #[] #[]] },W1,gf,
  #[.func (.yield (w.heap.size+1)) #[] #[]]++lb,W1,?_,?_,fun _ _=>trivial,?_,fun _=>h1,?_⟩
 ·rw[<-BQ,jU];exact run_enterLoop_outer _ _ _ _ _
 ·simp only[resolve,hg]
  simp[go_sem]
 ·simp[invoke,go_sem,eg]
 ·refine (qL (w.heap.size+1) (fun k W=>I k W/\W.heap[w.heap.size+1]?=some (.loop (sk .ready none))/\W.heap[w.heap.size]?=some (.deferred (some []))) W1
   (fun k W v h=>⟨Yf _ _ _ h.1,(cL _ _ _ (by omega)).trans h.2.1,(cL _ _ _ (by omega)).trans h.2.2⟩) ?_ ⟨LT,li,Bt⟩ bT).mono ?_
  ·rintro k W LS ⟨hi,hl,hk⟩
   have af:w.heap.size+1<W.heap.size:=(q_K.1 hl).1;have hy:=run_yield (P:=P) (args:=#[enc k]) hl (by rw[jU];exact Ye.symm);rw[jU] at hy;refine ⟨fn,_,assign,body,hy,roundIn_of_wpIn Nu (tK _ k W _ ⟨_,run_beginRound hl (by rw[jU]),?_⟩)⟩;have gY:(W.putObj (w.heap.size+1) (.loop { sk .ready none with state:=.busy })).heap[w.heap.size+1]?=some (.loop { sk .ready none with state:=.busy }):=World.putObj_heap_same af;have ag:(W.putObj (w.heap.size+1) (.loop { sk .ready none with state:=.busy })).heap[w.heap.size]?=some (.deferred (some [])):=(World.putObj_heap_other (by omega)).trans hk;have am:(W.putObj (w.heap.size+1) (.loop { sk .ready none with state:=.busy })).heap[Bn]?=W.heap[Bn]?:=World.putObj_heap_other (by omega);refine wpIn_mono (EM _ k _ LS (Nt _ _ _ _ _ (by omega) hl rfl hi)) ?_;rintro e a3 W3 hp
   cases e with
   | normal =>
    obtain ⟨au,bW,MN⟩:=hp;have I7:=au.same _ _ gY rfl;have hr:=run_endRound (P:=P) none I7;rw[jU] at hr;rw[jU] at I7;refine ⟨_,_,hr,rfl,⟨Nt _ _ _ _ _ (by omega) I7 rfl MN,?_,?_⟩,?_⟩
    ·rw[World.putObj_heap_same (q_K.1 I7).1,jU];rfl
    ·exact (World.putObj_heap_other (by omega)).trans (au.same _ _ ag rfl)
    ·exact (World.putObj_heap_other (by omega)).trans (bW.trans am)
   | ret=>exact hp.elim
   | exit id=>exact hp.elim
   | goto t=>exact hp.elim
   | panic ch=>exact hp.elim
   | outgrown=>exact hp.elim
  ·rintro e W2 ⟨⟨v,rfl⟩,hi,hl,hk⟩
   refine ⟨none,_,by have:=run_endLoop (P:=P) hl (by rw[jU];simp);rw[jU] at this;exact this,lE _ _ (q_e _) (Nt _ _ _ _ _ (by omega) hl rfl hi) ((World.putObj_heap_other (by omega)).trans hk)⟩
end
def cellN (w:World) (b:Nat):Nat:=match w.cell? ⟨b,0,none⟩ with|some (.int _ x)=>x.toNat|_=>0
theorem over1_in (n:Nat) (hn:1<=n) (l Bn x N:Nat) (up:Nat->Nat) (h0:((x / 2:Nat):Int)=(up 0:Int)) (hs:∀k,k<N->0<up k/\up k / 2=up (k+1)) (hN:up N=0) (hub:∀k,up k<=1000) (hx:x<=1000) (J:Nat->World->Prop)
  (I8:∀k W' v,J k W'->J k (W'.setCell ⟨Bn,0,none⟩ v))
  (hY:∀k W1,k<N->J k W1->YieldAt Fence.wide (n-1) prog l #[.int .i64 (up k:Int)] W1 fun e W'=>e=.returned (.bool true)/\J (k+1) W'/\W'.heap[Bn]?=W1.heap[Bn]?)
  (W:World) (hJ:J 0 W) (hB:Blk W Bn 3 #[.int .i64 x]) :
  CallsIn Fence.wide n prog 252 #[.func (.yield l) #[] #[],.pointer (some ⟨Bn,0,none⟩)] W fun e W'=>(∃v,e=.returned v)/\J N W':=by
 have c0:=hB.cell 0;have f0:=hB.frozen 0;replace c0:W.cell? ⟨Bn,0,none⟩=some (.int .i64 x):=c0
 have se:∀y:Nat,y<=1000->((y:Int) >>> 1:Int)=((y / 2:Nat):Int):=fun y _=>by rw[Int.shiftRight_eq_div_pow];omega
 refine callsIn_of_wp func252 rfl trivial ?_ rfl;simp only[ntmps252,q_y,List.length_cons,List.length_nil,Nat.reduceAdd,Nat.reduceSub,Array.replicate_succ,Array.replicate_zero,List.push_toArray,List.append_toArray,List.nil_append,List.cons_append]
 gi_wp2
 gi_loopw [5] (fun _ wr=>∃k:Nat,k<=N/\Hid (J k wr)/\Hid (Blk wr Bn 3 #[.int .i64 (up k:Int)])) (fun _ wr=>cellN wr Bn)
 case atStart =>
  refine ⟨0,Nat.zero_le _,Zz (I8 _ _ _ hJ),Zz ?_⟩;have:=hB.set_ 0 (.int .i64 ((x:Int) / 2));rw[<-h0];exact this
 case round =>
  obtain ⟨k,hk,HJ,HB⟩:=hrel;have c1:=HB.o.c0;have f1:=HB.o.frozen 0;by_cases af:k<N
  ·obtain ⟨p1,p2⟩:=hs k af
   have nX:(0:Int)<(up k:Int):=by omega
   obtain ⟨fn,tmps,assign,body,hy,hR⟩:=hY k wr af HJ.o
   gi_wp2
   refine hR.mono ?_;rintro e W3 ⟨rfl,Yg,bW⟩;have aJ:Blk W3 Bn 3 #[.int .i64 (up k:Int)]:=bW.trans HB.o;have c3:=aJ.c0;have f3:=aJ.frozen 0
   gi_wp2
   go_roundw
   case rel =>
    refine ⟨k+1,af,Zz (I8 _ _ _ Yg),Zz ?_⟩;have:=aJ.set_ 0 (.int .i64 ((up k:Int) / 2));rw[<-p2];exact this
   case measure =>
    have fH:=aJ.set_ 0 (.int .i64 ((up k:Int) / 2));have c4:(W3.setCell ⟨Bn,0,none⟩ (.int .i64 ((up k:Int) / 2))).cell? ⟨Bn,0,none⟩=some (.int .i64 ((up k:Int) / 2)):=fH.cell 0;unfold cellN;rw[c1,c4];show ((up k:Int) / 2).toNat<((up k:Int)).toNat;omega
  ·obtain rfl:k=N:=by omega
   rw[hN] at c1 HB
   gi_wp2
   go_end0
   exact ⟨⟨_,rfl⟩,HJ.o⟩
theorem treeover_any (w:World) (x:Nat):Cl 224 #[.int .i64 x] w fun e w'=>e=.returned (.func (.func 252) #[] #[.pointer (some ⟨w.heap.size,0,none⟩)])/\w'=w.alloc (.cells #[.int .i64 x] 3):=by
 go_enter func224,ntmps224;go_wp2;go_ret;exact ⟨rfl,rfl⟩
def upN (s t:Nat) (k:Nat):Nat:=(s+t) / 2 ^ (k+1)
theorem upN_step (s t k:Nat):upN s t k / 2=upN s t (k+1):=by
 unfold upN;rw[Nat.div_div_eq_div_mul,<-Nat.pow_succ]
def upL (s t n:Nat):List Nat:=(List.range n).map (upN s t)
theorem upL_succ (s t n:Nat):upL s t (n+1)=upL s t n++[upN s t n]:=by simp[upL,List.range_succ]
theorem up_path (s t:Nat) (hs:sl s) (ht:t<s):(upL s t (dep s)).reverse=z_p s t/\upN s t (dep s)=0/\(∀k,k<dep s->0<upN s t k):=by
 rcases hs with rfl|rfl
 ·have:t=0\/t=1:=by omega
  rcases this with rfl|rfl<;>exact ⟨by decide,by decide,by decide⟩
 ·have:t=0\/t=1\/t=2\/t=3:=by omega
  rcases this with rfl|rfl|rfl|rfl<;>exact ⟨by decide,by decide,by decide⟩
theorem upN_le (s t k:Nat) (hs:sl s) (ht:t<s):upN s t k<=1000:=by
 refine q_g (Nat.div_le_self _ _) ?_;rcases hs with rfl|rfl<;>omega
theorem y_R:w_Z:=by
 intro w s t hs ht hL hw;obtain ⟨EN,EO,EP⟩:=up_path s t hs ht
 have hd:dep s<=2/\1<=dep s:=by rcases hs with rfl|rfl<;>decide
 have IU:=Zz (fun k=>upN_le s t k hs ht)
 have Sl:Cl 191 #[.int .i64 s] w fun e w'=>e=.returned (.int .i64 (dep s:Int))/\w'=w:=by
  rcases hs with rfl|rfl
  ·exact depth_2 w hL
  ·exact depth_4 w hL
 have EH:=Zz Sl
 have aH:s+t<=1000:=by rcases hs with rfl|rfl<;>omega
 have pX:((dep s:Int)==0)=false:=by rw[q_o];omega
 have ew:¬((t:Int)<0):=by omega
 have eN:¬((s:Int)<=(t:Int)):=by omega
 have jx:decide ((t:Int)<0)=false:=q_v ew;have kH:decide (s<=t)=false:=q_v (by omega);have oy:=Zz (fun W=>treeover_any W (s+t));have Sm:Hid (((s+t) / 2:Nat)=upN s t 0):=Zz rfl;obtain ⟨m,hm⟩:∃m,s+t=m:=⟨_,rfl⟩;rw[hm] at oy Sm aH
 have tn:IntKind.i64.wrap ((s:Int)+(t:Int))=(m:Int):=by rw[q_r];omega
 have HM:=Zz hm;clear hm;obtain ⟨i0,hi,dB,dv,cX⟩:=info_parts info3;clear Sl;refine callsIn_wide (n:=4).1 ?_;refine callsIn_of_wp_marks func171 rfl trivial ?_ rfl;simp only[ntmps171,q_y,List.length_cons,List.length_nil,Nat.reduceAdd,Nat.reduceSub,Array.replicate_succ,Array.replicate_zero,List.push_toArray,List.append_toArray,List.nil_append,List.cons_append]
 gi_wp2_with (first
  | (refine ⟨trivial,?_⟩;gi_at_call 191;refine (callsIn_wide.2 EH.o).mono ?_;rintro e w1 ⟨rfl,rfl⟩)
  | (refine ⟨trivial,?_⟩;gi_at_call 224;refine (callsIn_wide.2 (oy.o _)).mono ?_;rintro e w2 ⟨rfl,rfl⟩))
 have hA:Boxed ((w1.alloc (.cells #[.slice none 0 0] 57)).alloc (.cells #[.int .i64 m] 3)) w1.heap.size 57 (.slice none 0 0):=(Boxed.new w1 57 (.slice none 0 0)).alloc _;have EL:=Blk.new (w1.alloc (.cells #[.slice none 0 0] 57)) 3 #[.int .i64 m];rw[World.size_alloc] at EL;have iI:=((Kp.refl NoB w1).alloc (.cells #[.slice none 0 0] 57)).alloc (.cells #[.int .i64 m] 3)
 have aj:((w1.alloc (.cells #[.slice none 0 0] 57)).alloc (.cells #[.int .i64 m] 3)).heap.size=w1.heap.size+2:=by simp
 have Nv:=IU.o;have Yh:=upN_step s t;have Nw:=upL_succ s t;have Bp:=Sm.o;have Yi:upL s t 0=[]:=rfl;generalize upN s t=U at *;generalize upL s t=UL at *;generalize hW:(w1.alloc (.cells #[.slice none 0 0] 57)).alloc (.cells #[.int .i64 m] 3)=W0 at *;clear hW;obtain ⟨A,Yj⟩:∃A,w1.heap.size=A:=⟨_,rfl⟩;rw[Yj] at hA EL aj ⊢;obtain ⟨N,hN⟩:∃N,dep s=N:=⟨_,rfl⟩;rw[hN] at EN EO EP hd pX ⊢
 refine range_cells (n:=4) (by omega) (gf:=252) (lb:=#[.pointer (some ⟨A+1,0,none⟩)]) rfl (enters_of func252 (by kernel_rfl) rfl) N (A+1) (by omega) (fun k=>.int .i64 (U k:Int)) rfl
  (fun k W=>(∃v,Boxed W A 57 v/\W.ownsRow A 3 1 v k (zv (UL k))/\v.ownBlock≠some (A+1))/\Kp NoB w1 W/\A+2<=W.heap.size)
  ?putObj ?alloc ?set ⟨⟨_,hA,by rw[Yi];exact World.ownsRow_nil _ _ _ _,by simp[Value.ownBlock]⟩,iI,by omega⟩ ?seq
  (fun k=>{ tmps:=#[.int .i64 s,.int .i64 t,undef,undef,.slice none 0 0,.int .i64 0,.pointer (some ⟨A,0,none⟩),.int .i64 (U k:Int),.int .i64 s,.int .i64 N,.bool false,.bool false,.int .i64 t,.bool false,.bool false,.bool false,.int .i64 t,.int .i64 s,.bool false,.bool false,.int .i64 s,.int .i64 t,.int .i64 m,.func (.func 252) #[] #[.pointer (some ⟨A+1,0,none⟩)],.int .i64 (U k:Int),undef,undef,undef,undef,undef,undef,undef],defers:=[] }) ?assign ?body ?done
 case putObj =>
  rintro k W l o o' hl kN Yk ⟨⟨v,h1,h2,h3⟩,h4,h5⟩;refine ⟨⟨v,?_,ownsRow_putObj h2 o' kN Yk,h3⟩,⟨h4.os,h4.tape,h4.output,?_,fun q hq hs=>(World.putObj_heap_other (by omega)).trans (h4.block q hq hs)⟩,?_⟩
  ·exact (World.putObj_heap_other (by omega)).trans h1
  ·simpa[World.putObj] using h4.size
  ·simpa[World.putObj] using h5
 case alloc =>
  rintro k W o ⟨⟨v,h1,h2,h3⟩,h4,h5⟩;exact ⟨⟨v,h1.alloc o,World.ownsRow.alloc h2 o,h3⟩,h4.alloc o,by simp;omega⟩
 case set =>
  rintro k W u ⟨⟨v,h1,h2,h3⟩,h4,h5⟩;refine ⟨⟨v,h1.kept (grownBy_setCell' W (A+1) u) (by simp),?_,h3⟩,h4.setCell _ _ (.inr (by show w1.heap.size<=A+1;omega)),by simpa[World.setCell] using h5⟩;exact z_e h2 ((Kp.refl (fun q=>q=A+1) W).setCell ⟨A+1,0,none⟩ u (.inl rfl)) (fun q hq e=>h3 (by rw[hq,e]))
 case seq =>
  intro l J W I8 hY h0 Yl;exact over1_in 3 (by omega) l (A+1) m N U (by rw[Bp]) (fun k hk=>⟨EP k hk,Yh k⟩) EO Nv aH J I8 hY W h0 (Yl.trans EL)
 case assign =>
  intro l k W K hK
  gi_wp2
  exact hK
 case body =>
  rintro l k W hk ⟨⟨v,hv,ae,aA⟩,qM,lx⟩;have hc:=hv.cell
  have Ym:A<=W.heap.size:=by omega
  obtain ⟨Av,cv,rfl⟩:=z_r ae
  gi_wp2_with (gi_at_builtin;(refine wpListIn_append_own_at _ rfl _ _ 57 rfl A 3 i0 (.int .i64 0) 1 8 underlying57 hi dB dv cX rfl (by decide) _ _ _ rfl (World.ownsRow.alloc ae _) ⟨W.heap.size,0,none⟩ 1 1 [.int .i64 (U k:Int)] rfl rfl (cell_one_new _ _ _) (by simp[Value.oneCell']) (by simp only[maxLen];omega) (by omega) (by simp;omega) ?_;intro v' Mm vZ nB _ br;obtain ⟨g',nH,rfl⟩:=ownsRow_succ vZ;obtain ⟨yW,qI,kV,ag,am⟩:=hv.appended (by decide) ae Ym (q_e _) vZ nB;have aK:=yW.cell;have IL:=yW.frozen))
  replace nB:(W.alloc (.cells #[.int .i64 (U k:Int)] 3)).grownBy Mm (Value.slice Av k cv).ownBlock:=nB;replace br:(Value.slice (some ⟨g',0,none⟩) (k+1) nH).ownBlock=(Value.slice Av k cv).ownBlock\/(Value.slice (some ⟨g',0,none⟩) (k+1) nH).ownBlock=some (W.alloc (.cells #[.int .i64 (U k:Int)] 3)).heap.size:=br;rw[World.size_alloc] at br;refine ⟨ag,?_,⟨_,qI,?_,?_⟩,⟨am.os.trans qM.os,am.tape.trans qM.tape,am.output.trans qM.output,q_g qM.size am.size,fun q hq hs=>(am.block q (by omega)).trans (qM.block q hq hs)⟩,q_g lx am.size⟩
  ·refine (Below.heap_setCell _ _ _ _ (by show A+1≠A;omega)).trans ((nB.block (A+1) (by simp;omega) (Ne.symm aA)).trans (Below.heap_alloc _ _ _ (by omega)))
  ·rw[Nw,show zv (UL k++[U k])=zv (UL k)++[.int .i64 (U k:Int)] by simp[zv]]
   exact kV
  ·intro he
   rcases br with h|h
   ·exact aA (h▸he)
   ·rw[h] at he;cases he;omega
 case done =>
  rintro D W hD ⟨⟨v,hv,ae,aA⟩,qM,lx⟩ Ny;have hc:=hv.cell;have Yn:=hv.not_row (by decide:(57:Nat)≠3) ae;obtain ⟨aq,hn|⟨g,av,aQ,rfl,hb,gQ,kU,uM,et,ht⟩⟩:=ae
  ·omega
  have qB:g≠A:=fun e=>Yn (by rw[e];rfl)
  have Yo:D≠g:=fun e=>by rw[e,gQ] at Ny;cases Ny
  have Yp:(UL N).length=N:=by rw[z_w] at aq;omega
  have nV:Blk W g 3 aQ:=gQ;rw[Nat.mul_one] at ht
  have Yq:N<=aQ.toList.length:=by
   have:=congrArg List.length ht;rw[q_l,z_w] at this;omega
  have y7:=Tryz.slices_Reverse_int_cells g 0 N av ((UL N).map fun (x:Nat)=>(x:Int)) W (by rw[q_i];omega) (by omega)
   (fun j hj=>by
    rw[q_i] at hj;rw[q_D,nV.cell]
    have h1:(zv (UL N))[j]?=aQ.toList[j]?:=by rw[<-ht,List.getElem?_take,if_pos (by omega)]
    rw[zv_at _ _ hj] at h1;rw[<-Array.getElem?_toList,<-h1]
    simp[q_a,hj])
   (fun j hj=>nV.frozen _)
  have cQ:(((UL N).map fun (x:Nat)=>(x:Int)).take N).reverse.map (Value.int .i64)=zv (UL N).reverse:=by
   rw[q_t (by rw[q_i];omega)];simp[zv,List.map_reverse]
  rw[cQ,EN] at y7
  have bQ:(z_p s t).length=N:=by rw[y_1];exact hN
  have y8:Cl 225 #[.slice (some ⟨g,0,none⟩) N av] W fun e w2=>e=.returned (.tuple #[])/\Boxed w2 A 57 (.slice (some ⟨g,0,none⟩) N av)/\w2.heap[D]?=some (.deferred (some []))/\z_g w2 (.slice (some ⟨g,0,none⟩) N av) (zv (z_p s t))/\Kp NoB w1 w2:=by
   refine y7.mono ?_;rintro e w2 ⟨rfl,q,rfl⟩;obtain ⟨r1,r2,r3,r4⟩:=w_8 g (zv (z_p s t)) 0 (W.drewN q);have ae:=v_B (g:=g) (e:=3) (zv (z_p s t)) 0 (W.drewN q) aQ gQ (by rw[z_w,bQ];simpa using Yq);obtain ⟨iO,h1,h2,h3⟩:=ae;refine ⟨rfl,?_,?_,?_,?_⟩
   ·exact (x_M _ _ _ (Ne.symm qB)).trans hv
   ·exact (x_M _ _ _ Yo).trans Ny
   ·refine ⟨_,_,by rw[z_w,bQ],by rw[z_w,bQ];exact kU,by simp only[maxLen] at uM;omega,fun _=>⟨g,0,rfl,fun j hj=>?_⟩⟩
    rw[q_D,Blk.cell (h1:Blk _ g 3 iO),<-Array.getElem?_toList,h3,List.take_zero,List.nil_append,q_F hj]
   ·exact ⟨r1.trans qM.os,r2.trans qM.tape,r3.trans qM.output,by rw[r4];exact qM.size,fun k hk hs=>(x_M _ _ _ (by omega)).trans (qM.block k hk hs)⟩
  have y8:=Zz y8;clear y7
  gi_wp2_with (refine ⟨trivial,?_⟩;gi_at_call 225;(refine (callsIn_wide.2 y8.o).mono ?_;rintro e w2 ⟨rfl,ew,eN,jx,kH⟩;have bf:=ew.cell))
  refine ⟨by simp,.inl ⟨_,_,rfl,run_takeDeferred eN,?_⟩⟩
  have Yr:∀r,some D=some r->∃o:Obj,w2.heap[r]?=some o/\o.isCells=false:=fun r e=>by cases e;exact ⟨_,eN,rfl⟩
  refine ⟨_,results_tmp2 rfl _ _ _,_,rfl,?_,?_⟩
  ·obtain ⟨A1,c1,he,e1,e2,e3⟩:=jx
   cases he;refine ⟨_,_,rfl,e1,e2,fun hp=>?_⟩;obtain ⟨b,off,e4,e5⟩:=e3 hp;refine ⟨b,off,e4,fun j hj=>?_⟩;have e6:=e5 j hj;rw[q_d hj] at e6 ⊢;exact cell_kept e6 (grownBy_putObj' w2 D (.deferred none)) Yr
  ·exact ⟨kH.os,kH.tape,kH.output,by simpa[World.putObj] using kH.size,fun k hk hs=>(World.putObj_heap_other (by omega)).trans (kH.block k hk hs)⟩
end
theorem zv_take (i:Nat):zv (List.range (i+1))=zv (List.range i)++[.int .i64 i]:=by rw[List.range_succ];simp[zv]
section
variable {w:World} {b n an:Nat} {key:List UInt8} {σ:Nat->DkS} {F:Nat->Prop}
theorem mmay_any (h:Bk w b n σ F) (an:Nat) (hk:key.length=32) :
  Cl 85 #[.agg (mdC b an key)] w fun e w'=>e=.returned (.int .i64 0)/\Kp NoB w w':=by
 have HB:=Zz (Blk.new w 113 (mdC b an key));have HK:=Zz ((Kp.refl NoB w).alloc (.cells (mdC b an key) 113));obtain ⟨G0,c,st,A,Φ,h0,hF⟩:=h.no HK.o;have HD:=Zz (v_f h0 0 h0.n1);have HZ:=Zz (dksize_any (h0.dk 0 h0.n1))
 have dS:(bs key).size=32:=by rw[z_b,hk]
 clear h h0 hF;change Cl 85 #[.agg #[.pointer (some ⟨b,0,none⟩),.pointer (some ⟨an,0,none⟩),.string (bs key)]] w _;go_enter func85,ntmps85
 go_upto_region 1 with fail
 change Code.wp _ _ _ _ (w.alloc (.cells (mdC b an key) 113));generalize w.alloc (.cells (mdC b an key) 113)=w1 at *;generalize w.heap.size=G at *;have c0:=HB.o.c0;have c1:=HB.o.c1;have c2:=HB.o.c2;go_wp2_with fail;refine HD.o.mono ?_;rintro e w2 ⟨rfl,rfl⟩;go_wp2_with fail;refine HZ.o.mono ?_;rintro e w2 ⟨rfl,rfl⟩;go_wp2;go_ret;exact ⟨rfl,HK.o⟩
end
def zeB:ByteArray:=bs z_M
theorem zeB_size:zeB.size=32:=rfl
theorem repeatZ (w:World):Cl 92 #[.string ⟨#[0]⟩,.int .i64 32] w fun e w'=>e=.returned (.string zeB)/\Kp NoB w w':=by
 have h:=Tryz.strings_Repeat ⟨#[0]⟩ 32 w (by decide) (by decide);refine h.mono ?_;rintro e w' ⟨rfl,hb⟩;exact ⟨rfl,Kp.of_below hb NoB⟩
def y_4 (d s n:Nat):List Mem:=(List.range n).map fun i=>if i<d+2 then ⟨1,z_L s ch0,z_C⟩ else ⟨0,zeB,z_C⟩
def y_g (d s n:Nat):Sup:=⟨1,1,d,s,y_4 d s n⟩
theorem x_R (d s n:Nat):(y_4 d s n).length=n:=by simp[y_4]
theorem mem0_take (d s n i:Nat) (h:i<n):(y_4 d s n).take (i+1)=(y_4 d s n).take i++[if i<d+2 then ⟨1,z_L s ch0,z_C⟩ else ⟨0,zeB,z_C⟩]:=by
 rw[q_h (by rw[x_R];exact h)];simp[y_4]
theorem v_h:z_C.size=32:=v_P _
theorem v_Q {s:Nat} (hs:sl s) (ch:Nat->ByteArray):(z_L s ch).size=32:=by
 have h2:2<=s:=by rcases hs with rfl|rfl<;>decide
 unfold z_L dgT;rw[if_pos (by omega),y_X]
theorem sup0_ok {d s n:Nat} (h2:2<=d) (h4:d<=4) (hs:sl s) (hn:d+2<=n) (kM:n<=12):SupOk (y_g d s n) where
 d2:=h2
 d8:=h4
 sl:=hs
 n1:=by show d+2<=(y_4 d s n).length;rw[x_R];exact hn
 n12:=by show (y_4 d s n).length<=12;rw[x_R];exact kM
 mem i h:=by
  have hi:i<n:=by have:i<(y_4 d s n).length:=h;rwa [x_R] at this
  have e:(y_g d s n).mem[i]'h=if i<d+2 then ⟨1,z_L s ch0,z_C⟩ else ⟨0,zeB,z_C⟩:=by simp[y_g,y_4]
  have hd:(y_g d s n).data=d:=rfl;rw[e,hd];by_cases hh:i<d+2
  ·rw[if_pos hh]
   exact ⟨v_Q hs _,v_h,fun _=>.inl rfl,fun h=>by omega⟩
  ·rw[if_neg hh]
   exact ⟨zeB_size,v_h,fun h=>absurd h hh,fun _=>rfl⟩
 c:=by show 1<=1000;decide
 e:=by show 1<=1000;decide
def z_V (d s i:Nat):Nat->DkS:=fun j=>if j<i/\j<d+2 then (dk0.wrs (y_N s)).flush else dk0
theorem fmt1_zero (d s:Nat):z_V d s 0=fun _=>dk0:=by funext j;simp[z_V]
theorem fmt1_yes (d s i:Nat) (h:i<d+2):z_A (z_V d s i) i ((dk0.wrs (y_N s)).flush)=z_V d s (i+1):=by
 funext j;unfold z_A z_V;by_cases e:j=i
 ·subst e;simp[h]
 ·have:(j<i+1)=(j<i):=by rw[eq_iff_iff];omega
  simp only[e,if_false,this]
theorem fmt1_no (d s i:Nat) (h:¬i<d+2):z_V d s (i+1)=z_V d s i:=by
 funext j;unfold z_V;by_cases e:j=i
 ·subst e;simp[h]
 ·have:(j<i+1)=(j<i):=by rw[eq_iff_iff];omega
  simp only[this]
theorem fmt1_at (d s i:Nat):z_V d s i i=dk0:=by simp[z_V]
theorem blankW_ok {s:Nat} (hs:sl s):∀x∈y_N s,x.ok:=by
 intro x hx
 have h4:s<=4:=by rcases hs with rfl|rfl<;>decide
 unfold y_N y_8 at hx;rcases List.mem_append.1 hx with hx|hx
 ·obtain ⟨q,hq,rfl⟩:=List.mem_map.1 hx
  have:=List.mem_range.1 hq;exact ⟨by show 100<=101+q;omega,by show 101+q<140;omega,by show (prT s ch0 (q+1)).size<=2032;rw[w_H];decide⟩
 ·obtain ⟨q,hq,rfl⟩:=List.mem_map.1 hx
  have:=List.mem_range.1 hq;exact ⟨by show 100<=120+q;omega,by show 120+q<140;omega,by show (bs []).size<=2032;decide⟩
theorem w_z (d s i j:Nat):(z_V d s i j).dead=false:=by
 unfold z_V;split
 ·show (DkS.flush _).dead=false
  unfold DkS.flush;rw[DkS.wrs_dead];rfl
 ·rfl
theorem fmt1_wait (d s i j:Nat):(z_V d s i j).wait=0:=by
 unfold z_V;split
 ·unfold DkS.flush
  rw[DkS.wrs_dead];rfl
 ·rfl
end Go.Proofs.YtdkheklakfbeeaaGreatDoor
