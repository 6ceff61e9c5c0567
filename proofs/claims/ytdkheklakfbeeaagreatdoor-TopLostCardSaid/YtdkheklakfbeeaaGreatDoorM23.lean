/- Part 23 of the proof. -/
import Derived.Test.YtdkheklakfbeeaaGreatDoorM22
set_option linter.all false
set_option maxRecDepth 100000
set_option maxHeartbeats 16000000
namespace Go.Proofs.YtdkheklakfbeeaaGreatDoor
open Go.RowKit Tryz
def z_M:List UInt8:=List.replicate 32 0
def ChkIs (key:List UInt8) (i t:Nat) (c:ByteArray) (p:List UInt8):Prop :=
 p.length=32/\((c=bs []/\p=z_M)\/∃nonce:List UInt8,nonce.length=12/\c=chkB key nonce i t p)
theorem chk_split (nonce x:List UInt8) (hn:nonce.length=12) (hx:x.length=48):(bs (nonce++x)).extract 0 12=bs nonce/\(bs (nonce++x)).extract 12 60=bs x:=by
 constructor
 ·rw[z_0,List.drop_zero,<-hn,Nat.sub_zero,List.take_left]
 ·rw[z_0,<-hn,List.drop_left,q_t (by omega)]
theorem repeat32:(⟨(Lib.repeatL (⟨#[0]⟩:ByteArray).data.toList 32).toArray⟩:ByteArray)=bs z_M:=by decide
section
variable {w:World} {b n i s t:Nat} {key:List UInt8} {σ:Nat->DkS} {F:Nat->Prop}
theorem get_any (hP:w_Z) (hL:Lay w) (h:Bk w b n σ F) (hw:10<=w.heap.size) (hi:i<n) (hn:n<=12) (hs:sl s) (hk:key.length=32) (ht:t<s) (hd:(σ i).dead=false) (tp:Nat->ByteArray) (p:List UInt8)
  (iH:∀j,j<dep s->(tl (σ i).now (100+(z_p s t).getD j 0)).size=64/\z_X (tl (σ i).now (100+(z_p s t).getD j 0))=tp j/\tp (j+1)=hlf (tl (σ i).now (100+(z_p s t).getD j 0)) (sec s t j))
  (EF:tp (dep s)=z_h (tl (σ i).now (120+t))) (hc:ChkIs key i t (tl (σ i).now (120+t)) p) :
  Cl 100 #[.agg (slC b i s key),.string (tp 0),.int .i64 t] w fun e w'=>e=.returned (.tuple #[.string (bs p),.int .i64 0])/\Kp NoB w w':=by
 have jw:s<=4:=by rcases hs with rfl|rfl<;>omega
 have HB:=Zz (Blk.new w 139 (slC b i s key));have HK:=Zz ((Kp.refl NoB w).alloc (.cells (slC b i s key) 139))
 have aN:10<=(w.alloc (.cells (slC b i s key) 139)).heap.size:=by have:=HK.o.size;omega
 have HG:=Zz (v_L hP (hL.no HK.o) (h.no HK.o) aN hi hs hk ht);have oy:=Zz (fun W (k:Kp NoB w W) (bE:10<=W.heap.size)=>over_any (key:=key) hP (hL.no k) (h.no k) bE hi hs ht (.map none) (fun _=>none) (lookS_nil W) (fun q=>tl (σ i).now (100+q)) tp (fun j _=>⟨fun y hy=>(by cases hy),fun _=>⟨hd,rfl⟩⟩) iH);have lA:=Zz (fun W (k:Kp NoB w W)=>x_L (h.no k) i (120+t) hi (by omega));rw[EF] at oy;rw[hd] at lA;have lA:Hid (∀W,Kp NoB w W->Cl 130 #[.pointer (some ⟨b,0,none⟩),.int .i64 i,.int .i64 (120+t:Nat)] W fun e w'=>e=.returned (.tuple #[.string (tl (σ i).now (120+t)),.int .i64 0])/\w'=W):=lA;have DT:=Zz (fun W=>slwith_any W b i s t key (by omega) (by omega));have Mn:(slC b i s key).size=4:=rfl;have bA:Hid ((prog.info? 139).map (·.size)=some 4):=Zz (by kernel_rfl);have bj:=Zz hL
 have XX:(120:Int)+(t:Int)=((120+t:Nat):Int):=by omega
 have Sg:IntKind.i64.wrap ((120+t:Nat):Int)=((120+t:Nat):Int):=by rw[q_r];omega
 have Ld:(tl (σ i).now (120+t)).size<=1000:=by
  rcases hc.2 with ⟨h,_⟩|⟨nc,h1,h2⟩
  ·rw[h,z_b];decide
  ·rw[h2,chkB_size _ _ _ _ _ h1 hc.1];decide
 have sh:=Zz (fun W (hW:Lay W) (bE:10<=W.heap.size)=>leafB_any W hW bE (tl (σ i).now (120+t)) (by omega));clear hP hs hL h aN iH EF;generalize tl (σ i).now (120+t)=C at *;generalize 120+t=tt at *;generalize Nl:z_h C=LF at *;change Cl 100 #[.agg #[.pointer (some ⟨b,0,none⟩),.int .i64 i,.int .i64 s,.string (bs key)],.string (tp 0),.int .i64 t] w _;have Nm:Hid (∀(Q:Prop),Q->Q):=Zz fun _ h=>h;obtain ⟨yU,mx⟩:=hc;rcases mx with ⟨mI,pi⟩|⟨nonce,ls,mI⟩
 ·subst mI
  have Sh:=Tryz.strings_Repeat_main ⟨#[0]⟩ 32;have yV:=Zz (fun W=>Sh W (by decide) (by decide) (by decide) (by decide));rw[repeat32,<-pi] at yV
  have XY:(bs []).toList.isEmpty=true:=by rw[Lib.toList_data,z_Y];rfl
  have hq:bs []=(⟨#[]⟩:ByteArray):=rfl;clear pi Sh;generalize bs p=PP at *;go_enter func100,ntmps100
  go_upto_region 1 with fail
  change Code.wp _ _ _ _ (w.alloc (.cells (slC b i s key) 139));generalize aN:w.alloc (.cells (slC b i s key) 139)=w1 at *;clear aN;obtain ⟨G,hG⟩:∃G,w.heap.size=G:=⟨_,rfl⟩;rw[hG] at HB ⊢;have c0:=HB.o.c0;have c1:=HB.o.c1;have c2:=HB.o.c2;have c3:=HB.o.c3;go_wp2_with fail;refine HG.o.mono ?_;rintro e w2 ⟨rfl,ag⟩;have ak:=Zz (HB.o.kp ag fun h=>h);have al:=Zz (HK.o.trans ag);clear ag c0 c1 c2 c3 HB HK;have c0:=ak.o.c0;have c1:=ak.o.c1;have c2:=ak.o.c2;have c3:=ak.o.c3;go_wp2_with fail;refine (oy.o _ al.o (by have:=al.o.size;omega)).mono ?_;rintro e w3 ⟨u,rfl,hu,au⟩;have aJ:=Zz (ak.o.kp au fun h=>h);have ar:=Zz (al.o.trans au);clear au hu c0 c1 c2 c3 ak al;have c0:=aJ.o.c0;have c1:=aJ.o.c1;go_wp2_with fail;refine (lA.o _ ar.o).mono ?_;rintro e w4 ⟨rfl,rfl⟩;go_wp2_with fail;refine (sh.o _ (bj.o.no ar.o) (by have:=ar.o.size;omega)).mono ?_;rintro e w5 ⟨rfl,aG⟩;have ax:=Zz (ar.o.trans aG);clear aG;go_wp2_with fail;refine (yV.o _).mono ?_;rintro e w6 ⟨rfl,eB⟩;go_wp2;go_ret2;exact ⟨rfl,ax.o.trans (Kp.of_below eB _)⟩
 ·have et:C.size=60:=by rw[mI];exact chkB_size _ _ _ _ _ ls yU
  have ii:=v_I key nonce (y_m i t) p yU;obtain ⟨xY,kD⟩:=chk_split nonce (y_n key nonce (y_m i t) p) ls ii;have EG:C=bs (nonce++y_n key nonce (y_m i t) p):=mI;rw[<-EG] at xY kD
  have XY:C.toList.isEmpty=false:=by
   rw[Lib.toList_data]
   cases hl:C.data.toList with
   | nil=>have:=z_n C;rw[hl] at this;simp at this;omega
   | cons x l=>rfl
  have I4:=Zz (fun W=>open_any W key nonce (y_m i t) p hk ls (withB_len i t) yU);clear mI EG ii Nl;generalize y_n key nonce (y_m i t) p=SF at *;generalize y_m i t=WB at *;generalize bs p=PP at *;go_enter func100,ntmps100
  go_upto_region 1 with fail
  change Code.wp _ _ _ _ (w.alloc (.cells (slC b i s key) 139));generalize aN:w.alloc (.cells (slC b i s key) 139)=w1 at *;clear aN;obtain ⟨G,hG⟩:∃G,w.heap.size=G:=⟨_,rfl⟩;rw[hG] at HB ⊢;have c0:=HB.o.c0;have c1:=HB.o.c1;have c2:=HB.o.c2;have c3:=HB.o.c3;go_wp2_with fail;refine HG.o.mono ?_;rintro e w2 ⟨rfl,ag⟩;have ak:=Zz (HB.o.kp ag fun h=>h);have al:=Zz (HK.o.trans ag);clear ag c0 c1 c2 c3 HB HK;have c0:=ak.o.c0;have c1:=ak.o.c1;have c2:=ak.o.c2;have c3:=ak.o.c3;go_wp2_with fail;refine (oy.o _ al.o (by have:=al.o.size;omega)).mono ?_;rintro e w3 ⟨u,rfl,hu,au⟩;have aJ:=Zz (ak.o.kp au fun h=>h);have ar:=Zz (al.o.trans au);clear au hu c0 c1 c2 c3 ak al;have c0:=aJ.o.c0;have c1:=aJ.o.c1;go_wp2_with fail;refine (lA.o _ ar.o).mono ?_;rintro e w4 ⟨rfl,rfl⟩;go_wp2_with fail;refine (sh.o _ (bj.o.no ar.o) (by have:=ar.o.size;omega)).mono ?_;rintro e w5 ⟨rfl,aG⟩;have aY:=Zz (aJ.o.kp aG fun h=>h).drew;have ax:=Zz (ar.o.trans aG).drew;clear aG c0 c1 aJ ar
  go_upto_region 16 with fail
  refine fs ?_;generalize w5.drew=w6 at *;have c3:=aY.o.c3;refine fp 0 ?_;refine f_c 1 c3 ?_;refine fp 2 ?_;refine fp 3 ?_;refine fr_rdx 4 (fun W=>Blk W G 139 (slC b i s key)) rfl rfl rfl (by kernel_rfl) (by kernel_rfl) aY.o (fun W hW=>z_aa rfl rfl hW underlying139 rfl bA.o) ?_;refine fp 5 ?_;refine fp 7 ?_;refine fp 8 ?_;refine fd 6 fun K Qx hK=>?_;go_simp;refine (DT.o _).mono ?_;rintro e w7 ⟨rfl,aM⟩;have dM:=Zz (aY.o.kp aM fun h=>h);have bC:=Zz (ax.o.trans aM);refine hK _ _ (oW (oK (dM.o.cell 3) oN)) ?_;clear hK K c3 aM aY ax;refine fd 9 fun K Qx hK=>?_;go_simp;refine (I4.o _).mono ?_;rintro e w8 ⟨rfl,aL⟩;have bq:=Zz (bC.o.trans aL);refine hK _ _ (oW (oW oN)) ?_;clear hK K aL dM bC;refine fp 10 ?_;refine fp 11 ?_;refine fp 12 ?_;refine fp 13 ?_;refine fe ?_;go_wp2;go_ret2;exact ⟨rfl,bq.o⟩
theorem getdead_any (hP:w_Z) (hL:Lay w) (h:Bk w b n σ F) (hw:10<=w.heap.size) (hi:i<n) (hs:sl s) (hk:key.length=32) (ht:t<s) (hd:(σ i).dead=true) (top:ByteArray) :
  Cl 100 #[.agg (slC b i s key),.string top,.int .i64 t] w fun e w'=>e=.returned (.tuple #[.string ⟨#[]⟩,.int .i64 20])/\Kp NoB w w':=by
 have HB:=Zz (Blk.new w 139 (slC b i s key));have HK:=Zz ((Kp.refl NoB w).alloc (.cells (slC b i s key) 139))
 have aN:10<=(w.alloc (.cells (slC b i s key) 139)).heap.size:=by have:=HK.o.size;omega
 have HG:=Zz (v_L hP (hL.no HK.o) (h.no HK.o) aN hi hs hk ht);have oy:=Zz (fun W (k:Kp NoB w W) (bE:10<=W.heap.size)=>overdead_any (key:=key) hP (hL.no k) (h.no k) bE hi hs ht hd (.map none) (fun _=>none) (lookS_nil W) rfl top);clear hP hs hL h aN;change Cl 100 #[.agg #[.pointer (some ⟨b,0,none⟩),.int .i64 i,.int .i64 s,.string (bs key)],.string top,.int .i64 t] w _;go_enter func100,ntmps100
 go_upto_region 1 with fail
 change Code.wp _ _ _ _ (w.alloc (.cells (slC b i s key) 139));generalize aN:w.alloc (.cells (slC b i s key) 139)=w1 at *;clear aN;obtain ⟨G,hG⟩:∃G,w.heap.size=G:=⟨_,rfl⟩;rw[hG] at HB ⊢;have c0:=HB.o.c0;have c1:=HB.o.c1;have c2:=HB.o.c2;have c3:=HB.o.c3;go_wp2_with fail;refine HG.o.mono ?_;rintro e w2 ⟨rfl,ag⟩;have ak:=Zz (HB.o.kp ag fun h=>h);have al:=Zz (HK.o.trans ag);clear ag c0 c1 c2 c3 HB HK;have c0:=ak.o.c0;have c1:=ak.o.c1;have c2:=ak.o.c2;have c3:=ak.o.c3;go_wp2_with fail;refine (oy.o _ al.o (by have:=al.o.size;omega)).mono ?_;rintro e w3 ⟨rfl,au⟩;go_wp2;go_ret2;exact ⟨rfl,al.o.trans au⟩
end
def prT (s:Nat) (ch:Nat->ByteArray) (q:Nat):ByteArray :=
 if s=2 then z_h (ch 0)++z_h (ch 1)
 else if q=1 then z_X (z_h (ch 0)++z_h (ch 1))++z_X (z_h (ch 2)++z_h (ch 3))
 else if q=2 then z_h (ch 0)++z_h (ch 1) else z_h (ch 2)++z_h (ch 3)
def dgT (s:Nat) (ch:Nat->ByteArray) (q:Nat):ByteArray:=if q<s then z_X (prT s ch q) else z_h (ch (q-s))
def z_L (s:Nat) (ch:Nat->ByteArray):ByteArray:=dgT s ch 1
theorem dgT_leaf (s:Nat) (ch:Nat->ByteArray) (i:Nat):dgT s ch (s+i)=z_h (ch i):=by
 unfold dgT;rw[if_neg (by omega),Nat.add_sub_cancel_left]
theorem prT_build {s:Nat} (hs:sl s) (ch:Nat->ByteArray) (i:Nat) (h1:1<=i) (h2:i<s):prT s ch i=dgT s ch (2*i)++dgT s ch (2*i+1)/\dgT s ch i=z_X (prT s ch i):=by
 refine ⟨?_,by unfold dgT;rw[if_pos h2]⟩;rcases hs with rfl|rfl
 ·obtain rfl:i=1:=by omega
  rfl
 ·rcases (by omega:i=1\/i=2\/i=3) with rfl|rfl|rfl<;>rfl
theorem cat_size {a b:ByteArray} (ha:a.size=32) (hb:b.size=32):(a++b).size=64:=by rw[ByteArray.size_append,ha,hb]
theorem w_H (s:Nat) (ch:Nat->ByteArray) (q:Nat):(prT s ch q).size=64:=by
 unfold prT;split
 ·exact cat_size (z_P _) (z_P _)
 ·split
  ·exact cat_size (y_X _) (y_X _)
  ·split
   ·exact cat_size (z_P _) (z_P _)
   ·exact cat_size (z_P _) (z_P _)
theorem w_e {a b:ByteArray} (ha:a.size=32) (hb:b.size=32):hlf (a++b) false=a/\hlf (a++b) true=b:=by
 have e1:a=bs a.data.toList:=(x_D a).symm;have e2:b=bs b.data.toList:=(x_D b).symm
 have l1:a.data.toList.length=32:=by rw[z_n];exact ha
 have l2:b.data.toList.length=32:=by rw[z_n];exact hb
 rw[e1,e2,y_f];generalize a.data.toList=x at *;generalize b.data.toList=y at *;constructor
 ·show (bs (x++y)).extract 0 32=bs x
  rw[z_0,List.drop_zero,<-l1,Nat.sub_zero,List.take_left]
 ·show (bs (x++y)).extract 32 64=bs y
  rw[z_0,<-l1,List.drop_left,q_t (by omega)]
def tpT (s t:Nat) (ch:Nat->ByteArray) (j:Nat):ByteArray:=if j=0 then z_L s ch else if j=1/\s=4 then z_X (prT 4 ch (2+t / 2)) else z_h (ch t)
theorem tpT_last {s:Nat} (hs:sl s) (t:Nat) (ch:Nat->ByteArray):tpT s t ch (dep s)=z_h (ch t):=by
 rcases hs with rfl|rfl<;>rfl
theorem way_ok {s t:Nat} (hs:sl s) (ht:t<s) (ch:Nat->ByteArray):∀j,j<dep s ->
  (prT s ch ((z_p s t).getD j 0)).size=64/\z_X (prT s ch ((z_p s t).getD j 0))=tpT s t ch j/\tpT s t ch (j+1)=hlf (prT s ch ((z_p s t).getD j 0)) (sec s t j):=by
 intro j hj;refine ⟨w_H _ _ _,?_⟩;rcases hs with rfl|rfl
 ·obtain rfl:j=0:=by have:dep 2=1:=rfl;omega
  obtain ⟨h1,h2⟩:=w_e (z_P (ch 0)) (z_P (ch 1));rcases (by omega:t=0\/t=1) with rfl|rfl
  ·exact ⟨rfl,h1.symm⟩
  ·exact ⟨rfl,h2.symm⟩
 ·obtain ⟨h1,h2⟩:=w_e (z_P (ch 0)) (z_P (ch 1))
  obtain ⟨h3,h4⟩:=w_e (z_P (ch 2)) (z_P (ch 3));obtain ⟨h5,h6⟩:=w_e (y_X (z_h (ch 0)++z_h (ch 1))) (y_X (z_h (ch 2)++z_h (ch 3)));rcases (by have:dep 4=2:=rfl;omega:j=0\/j=1) with rfl|rfl
  ·rcases (by omega:t=0\/t=1\/t=2\/t=3) with rfl|rfl|rfl|rfl
   ·exact ⟨rfl,h5.symm⟩
   ·exact ⟨rfl,h5.symm⟩
   ·exact ⟨rfl,h6.symm⟩
   ·exact ⟨rfl,h6.symm⟩
  ·rcases (by omega:t=0\/t=1\/t=2\/t=3) with rfl|rfl|rfl|rfl
   ·exact ⟨rfl,h1.symm⟩
   ·exact ⟨rfl,h2.symm⟩
   ·exact ⟨rfl,h3.symm⟩
   ·exact ⟨rfl,h4.symm⟩
def y_I (ch:Nat->ByteArray) (t:Nat) (c:ByteArray):Nat->ByteArray:=fun j=>if j=t then c else ch j
theorem put_ok {s t:Nat} (hs:sl s) (ht:t<s) (ch:Nat->ByteArray) (c:ByteArray):∀j,j<dep s ->
  prT s (y_I ch t c) ((z_p s t).getD j 0)=(if sec s t j then hlf (prT s ch ((z_p s t).getD j 0)) false++tpT s t (y_I ch t c) (j+1) else tpT s t (y_I ch t c) (j+1)++hlf (prT s ch ((z_p s t).getD j 0)) true) /\
  tpT s t (y_I ch t c) j=z_X (prT s (y_I ch t c) ((z_p s t).getD j 0)):=by
 intro j hj;refine ⟨?_,((way_ok hs ht (y_I ch t c) j hj).2.1).symm⟩;rcases hs with rfl|rfl
 ·obtain rfl:j=0:=by have:dep 2=1:=rfl;omega
  obtain ⟨h1,h2⟩:=w_e (z_P (ch 0)) (z_P (ch 1));rcases (by omega:t=0\/t=1) with rfl|rfl
  ·show z_h c++z_h (ch 1)=z_h c++hlf (z_h (ch 0)++z_h (ch 1)) true
   rw[h2]
  ·show z_h (ch 0)++z_h c=hlf (z_h (ch 0)++z_h (ch 1)) false++z_h c
   rw[h1]
 ·obtain ⟨h1,h2⟩:=w_e (z_P (ch 0)) (z_P (ch 1))
  obtain ⟨h3,h4⟩:=w_e (z_P (ch 2)) (z_P (ch 3));obtain ⟨h5,h6⟩:=w_e (y_X (z_h (ch 0)++z_h (ch 1))) (y_X (z_h (ch 2)++z_h (ch 3)));rcases (by have:dep 4=2:=rfl;omega:j=0\/j=1) with rfl|rfl
  ·rcases (by omega:t=0\/t=1\/t=2\/t=3) with rfl|rfl|rfl|rfl
   ·show z_X (z_h c++z_h (ch 1))++z_X (z_h (ch 2)++z_h (ch 3))=z_X (z_h c++z_h (ch 1))++hlf (z_X (z_h (ch 0)++z_h (ch 1))++z_X (z_h (ch 2)++z_h (ch 3))) true
    rw[h6]
   ·show z_X (z_h (ch 0)++z_h c)++z_X (z_h (ch 2)++z_h (ch 3))=z_X (z_h (ch 0)++z_h c)++hlf (z_X (z_h (ch 0)++z_h (ch 1))++z_X (z_h (ch 2)++z_h (ch 3))) true
    rw[h6]
   ·show z_X (z_h (ch 0)++z_h (ch 1))++z_X (z_h c++z_h (ch 3))=hlf (z_X (z_h (ch 0)++z_h (ch 1))++z_X (z_h (ch 2)++z_h (ch 3))) false++z_X (z_h c++z_h (ch 3))
    rw[h5]
   ·show z_X (z_h (ch 0)++z_h (ch 1))++z_X (z_h (ch 2)++z_h c)=hlf (z_X (z_h (ch 0)++z_h (ch 1))++z_X (z_h (ch 2)++z_h (ch 3))) false++z_X (z_h (ch 2)++z_h c)
    rw[h5]
  ·rcases (by omega:t=0\/t=1\/t=2\/t=3) with rfl|rfl|rfl|rfl
   ·show z_h c++z_h (ch 1)=z_h c++hlf (z_h (ch 0)++z_h (ch 1)) true
    rw[h2]
   ·show z_h (ch 0)++z_h c=hlf (z_h (ch 0)++z_h (ch 1)) false++z_h c
    rw[h1]
   ·show z_h c++z_h (ch 3)=z_h c++hlf (z_h (ch 2)++z_h (ch 3)) true
    rw[h4]
   ·show z_h (ch 2)++z_h c=hlf (z_h (ch 2)++z_h (ch 3)) false++z_h c
    rw[h3]
theorem prT_off {s t:Nat} (hs:sl s) (ht:t<s) (ch:Nat->ByteArray) (c:ByteArray) (q:Nat) (js:1<=q) (hq:q<s) (aZ:q∉z_p s t):prT s (y_I ch t c) q=prT s ch q:=by
 rcases hs with rfl|rfl
 ·exact absurd (by unfold z_p;rw[if_pos rfl];simp;omega) aZ
 ·unfold z_p at aZ
  rw[if_neg (by decide)] at aZ
  have hn:¬(q=1\/q=2+t / 2):=by simpa using aZ
  have h2:∀x,x≠t->y_I ch t c x=ch x:=fun x hx=>if_neg hx
  have XZ:¬(4=2):=by decide
  have Nn:¬(q=1):=fun h=>hn (.inl h);unfold prT;simp only[if_neg XZ,if_neg Nn];by_cases e:q=2
  ·simp only[if_pos e]
   rw[h2 0 (by omega),h2 1 (by omega)]
  ·simp only[if_neg e]
   rw[h2 2 (by omega),h2 3 (by omega)]
def fl (f:Nat->ByteArray) (p:Nat->Bool) (n:Nat):List ByteArray:=(List.range n).map fun j=>if p j then f j else ByteArray.empty
theorem y_T (f:Nat->ByteArray) (p:Nat->Bool) (n:Nat):(fl f p n).length=n:=by simp[fl]
theorem fl_at (f:Nat->ByteArray) (p:Nat->Bool) (n i:Nat) (h:i<n):tl (fl f p n) i=if p i then f i else ByteArray.empty:=by
 simp[tl,fl,h]
theorem fl_set (f:Nat->ByteArray) (p p':Nat->Bool) (n i:Nat) (hp:∀j,j<n->j≠i->p' j=p j) (hi:p' i=true):(fl f p n).set i (f i)=fl f p' n:=by
 apply q_m (by simp[fl]);intro j h1 h2
 have hj:j<n:=by simpa[fl] using h2
 rw[List.getElem_set];by_cases e:i=j
 ·subst e;rw[if_pos rfl];simp[fl,hi]
 ·rw[if_neg e];simp[fl,hp j hj (Ne.symm e)]
theorem fl_none (f:Nat->ByteArray) (p:Nat->Bool) (n:Nat) (h:∀j,j<n->p j=false):fl f p n=List.replicate n ByteArray.empty:=by
 apply q_m (by simp[fl]);intro j h1 h2
 have hj:j<n:=by simpa[fl] using h1
 simp[fl,h j hj]
theorem fl_eq (f:Nat->ByteArray) (p p':Nat->Bool) (n:Nat) (h:∀j,j<n->p j=p' j):fl f p n=fl f p' n:=by
 apply q_m (by simp[fl]);intro j h1 h2
 have hj:j<n:=by simpa[fl] using h1
 simp[fl,h j hj]
theorem own_blk {W:World} {base G k c:Nat} {L:List ByteArray} (h:Own W base 9 (.slice (some ⟨G,0,none⟩) k k) (sv L)) (hl:L.length=k):Blk W G 9 (sv L).toArray:=by
 rcases h.2 with ⟨h1,_⟩|⟨g',av,aQ,he,hb,hh,hc,hm,hs,ht⟩
 ·cases h1
 ·injection he with h1 h2 h3
  injection h1 with h1
  injection h1 with h1
  subst h1 h3;unfold Blk;rw[hh,<-ht,z_c,hl,q_t (by simpa using Nat.le_of_eq hs)]
theorem blk_own {W:World} {base G k:Nat} {L:List ByteArray} (h:Blk W G 9 (sv L).toArray) (hl:L.length=k) (hb:base<=G) (hm:k<=maxLen):Own W base 9 (.slice (some ⟨G,0,none⟩) k k) (sv L):=by
 refine ⟨by simp,.inr ⟨G,k,(sv L).toArray,by rw[z_c,hl],hb,h,by rw[z_c,hl];exact q_e _,hm,by simp[z_c,hl],by rw[List.toList_toArray,Nat.mul_one,List.take_length]⟩⟩
theorem repeat_any (w:World) (s:Nat) (hs:s=2\/s=4) (v:Value) (x:ByteArray) (hv:z_g w v (sv [x])) :
  Cl 142 #[v,.int .i64 s] w fun e w'=>∃u,e=.returned u/\z_g w' u (sv (List.replicate s x))/\Kp NoB w w':=by
 have HV:=Zz hv;obtain ⟨A,c,rfl,aK,bf,aa⟩:=hv;have HM:=Zz (fun W=>Tryz.bits_Mul 1 s (by decide) (by omega) W)
 have e1:1*s / 18446744073709551616=0:=by omega
 have e2:1*s % 18446744073709551616=s:=by omega
 rw[e1,e2] at HM;have bK:=mk_txt s (by omega) w;have cf:=Own.made_txts w w.heap.size s (q_e _) (by omega);have iI:=(Kp.refl NoB w).alloc (.cells (madeCells #[.string ⟨#[]⟩] s) 9);obtain ⟨w0,dX⟩:∃w0,w.alloc (.cells (madeCells #[.string ⟨#[]⟩] s) 9)=w0:=⟨_,rfl⟩;rw[dX] at bK cf iI;have vW:=Zz (HV.o.below iI.below0);obtain ⟨G,hG⟩:∃G,w.heap.size=G:=⟨_,rfl⟩;rw[hG] at bK cf;have cR:=Zz hG;have bx:=own_blk cf (by simp) (c:=s);rw[<-fl_none (fun _=>x) (fun j=>decide (j<0)) s (fun j _=>by simp)] at bx;have HB:=Zz bx;have HK:=Zz iI
 have hws:IntKind.u64.wrap (s:Int)=(s:Int):=by rw[q_s];omega
 have hwi:IntKind.i64.wrap (s:Int)=(s:Int):=by rw[q_r];omega
 have mu:¬((s:Int)<0):=by omega
 have iS:¬(9223372036854775807<(s:Int)):=by omega
 have HS:=Zz hs
 have Ro:s<=4/\2<=s:=by omega
 clear cf iI dX hG bx e1 e2 aa hs;go_enter func142,ntmps142;go_wp2_with fail;refine (HM.o _).mono ?_;rintro e w1 ⟨rfl,rfl⟩
 go_upto_region 7 with fail
 clear bK
 have rR:Hid (∀m,1<=m->2*m<=s->(List.take m (sv (fl (fun _=>x) (fun j=>decide (j<m)) s)).toArray.toList++sv (List.replicate m x)++List.drop (m+(sv (List.replicate m x)).length) (sv (fl (fun _=>x) (fun j=>decide (j<m)) s)).toArray.toList).toArray=(sv (fl (fun _=>x) (fun j=>decide (j<2*m)) s)).toArray):=Zz fun m hm lu=>by
  rcases HS.o with rfl|rfl
  ·obtain rfl:m=1:=by omega
   rfl
  ·rcases (by omega:m=1\/m=2) with rfl|rfl<;>rfl
 have oX:Hid ((List.take 0 (sv (fl (fun _=>x) (fun j=>decide (j<0)) s)).toArray.toList++sv [x]++List.drop (0+(sv [x]).length) (sv (fl (fun _=>x) (fun j=>decide (j<0)) s)).toArray.toList).toArray=(sv (fl (fun _=>x) (fun j=>decide (j<1)) s)).toArray):=Zz (by
  rcases HS.o with rfl|rfl<;>rfl)
 have vX:Hid (z_g w0 (.slice A 1 c) (sv [x])):=vW
 have b9:Hid (∀m,∀u∈sv (List.replicate m x),u.oneCell'=true):=Zz fun m u hu=>by
  obtain ⟨y,_,rfl⟩:=List.mem_map.1 hu;rfl
 have b6:Hid (∀p:Nat->Bool,(sv (fl (fun _=>x) p s)).toArray.size=s):=Zz fun p=>by rw[q_y,z_c,y_T]
 rw[show (sv [x]).length=1 from rfl]
 go_wp2_with (refine wpList_ex rfl ?_;refine ex_copy rfl underlying38 (by kernel_rfl) rfl rfl HB.o vX.o (by show 0<1;decide) (by show 1<=s;omega) (by rw[b6.o];show 0+1<=s;omega) (b9.o 1) ?_;rw[oX.o];have ak:=Zz (HB.o.setRow (cs':=(sv (fl (fun _=>x) (fun j=>decide (j<1)) s)).toArray));have al:=Zz (HK.o.setRow G (sv (fl (fun _=>x) (fun j=>decide (j<1)) s)).toArray (.inr (Nat.le_of_eq cR.o)));generalize w0.setRow G (sv (fl (fun _=>x) (fun j=>decide (j<1)) s)).toArray=w2 at *)
 clear HB HK
 go_loopw [8] (fun s8 wr=>∃m:Nat,(m=1\/m=2\/m=4)/\m<=s/\s8=.int .i64 m/\Hid (Blk wr G 9 (sv (fl (fun _=>x) (fun j=>decide (j<m)) s)).toArray)/\Hid (Kp NoB w1 wr)) (fun s8 _=>s-(intOf s8).toNat)
 case atStart=>exact ⟨1,by omega,by omega,rfl,ak,al⟩
 case round =>
  clear ak al;obtain ⟨m,hm,I5,rfl,HB,HK⟩:=hrel;by_cases af:m<s
  ·have me:(m:Int)<(s:Int):=by omega
   have lu:2*m<=s:=by rcases HS.o with h|h<;>omega
   have gV:1<=m:=by omega
   have pj:¬(s=m):=by omega
   have X6:(m:Int)<=(s:Int):=by omega
   have HC:=Zz (rR.o m gV lu)
   have bH:z_g wr.drew (.slice (some ⟨G,0,none⟩) m s) (sv (List.replicate m x)):=by
    have hl:(sv (List.replicate m x)).length=m:=by rw[z_c,q_w]
    refine ⟨some ⟨G,0,none⟩,s,by rw[hl],by rw[hl];exact I5,by omega,fun _=>⟨G,0,rfl,fun j hj=>?_⟩⟩;rw[hl] at hj;have:=HB.o.cell j;rw[q_D];refine Eq.trans this ?_;rw[q_p];rw[y_y _ _ (by rw[y_T];omega),y_y _ _ (by rw[q_w];exact hj),fl_at _ _ _ _ (by omega)];simp[tl,hj]
   have dc:=Zz bH;have bh:=Zz HB.o.drew;have aW:=Zz HK.o.drew;have dj:=Zz hm;clear bH HB HK hm
   go_upto_region 9 with fail
   refine fs ?_;generalize wr.drew=w5 at *;refine fp 0 ?_;refine fp 1 ?_;refine fp 2 ?_;refine fp 3 ?_;refine fp 4 ?_;refine fp 5 ?_;refine fp 6 ?_;refine y_L 7 rfl rfl (by kernel_rfl) ?_;refine ex_copy (off:=m) (dLen:=s-m) (dCap:=s-m) rfl underlying38 (by kernel_rfl) rfl (by rw[show m=(sv (List.replicate m x)).length by rw[z_c,q_w]];rfl) bh.o dc.o (by rw[z_c,q_w];exact gV) (by rw[z_c,q_w];omega) (by rw[b6.o,z_c,q_w];omega) (b9.o m) ?_;rw[HC.o];refine ⟨oN,?_⟩;refine fp 8 ?_;refine fp 9 ?_;refine fe ?_;have bk:=Zz (bh.o.setRow (cs':=(sv (fl (fun _=>x) (fun j=>decide (j<2*m)) s)).toArray));have aB:=Zz (aW.o.setRow G (sv (fl (fun _=>x) (fun j=>decide (j<2*m)) s)).toArray (.inr (Nat.le_of_eq cR.o)));generalize w5.setRow G _=w6 at *;rw[show IntKind.i64.wrap ((m:Int)+((sv (List.replicate m x)).length:Int))=((2*m:Nat):Int) by rw[z_c,q_w,q_r];omega];go_wp2;go_roundw
   case rel=>exact ⟨2*m,by have:=dj.o;omega,lu,rfl,bk,aB⟩
   case measure=>simp[intOf];omega
  ·obtain rfl:m=s:=by omega
   have hO:=blk_own (base:=G) HB.o (y_T _ _ _) (q_e _) (by simp only[maxLen];omega)
   rw[show fl (fun _=>x) (fun j=>decide (j<m)) m=List.replicate m x by
    apply q_m (by simp[fl]);intro j h1 h2
    have hj:j<m:=by simpa using h2
    simp[fl,hj]] at hO
   go_wp2;go_ret;exact ⟨_,rfl,hO.reads,HK.o⟩
theorem build_any (w:World) (hL:Lay w) (hw:10<=w.heap.size) (s:Nat) (hs:s=2\/s=4) (v:Value) (T:List ByteArray) (hv:z_g w v (sv T)) (hT:T.length=s) (hz:∀i,i<s->(tl T i).size=32) (dg pr:Nat->ByteArray)
  (h1:∀i,i<s->dg (s+i)=tl T i) (h2:∀i,1<=i->i<s->pr i=dg (2*i)++dg (2*i+1)/\dg i=z_X (pr i)) :
  Cl 141 #[v] w fun e w'=>∃u,e=.returned (.tuple #[u,.string (dg 1),.int .i64 0])/\z_g w' u (sv (fl pr (fun j=>decide (0<j)) s))/\Kp NoB w w':=by
 have No:2<=s/\s<=4:=by omega
 have Np:Hid (∀i,1<=i->i<2*s->(dg i).size=32):=Zz fun i hi sD=>by
  rcases Nat.lt_or_ge i s with h|h
  ·rw[(h2 i hi h).2];exact y_X _
  ·obtain ⟨j,rfl⟩:∃j,i=s+j:=⟨i-s,by omega⟩
   rw[h1 j (by omega)];exact hz j (by omega)
 have EH:=Zz (fun (W:World) (hW:Lay W)=>(show Cl 191 #[.int .i64 s] W fun e w'=>e=.returned (.int .i64 (dep s:Int))/\w'=W by rcases hs with rfl|rfl;exact depth_2 W hW;exact depth_4 W hW))
 have pX:¬(dep s=0):=by rcases hs with rfl|rfl<;>decide
 obtain ⟨A,c,rfl,aK,bf,aa⟩:=hv;rw[z_c,hT] at aK aa ⊢;obtain ⟨b,off,rfl,ae⟩:=aa (by omega)
 have bA:Hid (∀i,i<s->w.cell? ⟨b,off+i,none⟩=some (.string (dg (s+i)))):=Zz fun i hi=>by rw[ae i hi,y_y T i (by omega),h1 i hi]
 have H2:=Zz h2;have bj:=Zz hL;have fo:b<w.heap.size:=q_c w _ (bA.o 0 (by omega));clear hL h1 h2 hz ae aa hs hT
 have X7:((dep s:Int)==0)=false:=by rw[q_o];omega
 generalize dep s=dd at *;have bK:=mk_txt (2*s) (by omega) w;have cf:=Own.made_txts w w.heap.size (2*s) (q_e _) (by omega);have iI:=(Kp.refl NoB w).alloc (.cells (madeCells #[.string ⟨#[]⟩] (2*s)) 9)
 have dB:(w.alloc (.cells (madeCells #[.string ⟨#[]⟩] (2*s)) 9)).heap.size=w.heap.size+1:=by simp
 obtain ⟨w0,dX⟩:∃w0,w.alloc (.cells (madeCells #[.string ⟨#[]⟩] (2*s)) 9)=w0:=⟨_,rfl⟩;rw[dX] at bK cf iI dB
 have e2s:((2*s:Nat):Int)=2*(s:Int):=by omega
 rw[e2s] at bK;rw[<-fl_none dg (fun j=>decide (s<=j) && decide (j<s+0)) (2*s) (fun j _=>by simp)] at cf;obtain ⟨G,hG⟩:∃G,w.heap.size=G:=⟨_,rfl⟩;rw[hG] at bK cf fo;have cR:=Zz hG;have HO:=Zz cf;have HK:=Zz iI
 have X8:IntKind.i64.wrap (2*(s:Int))=2*(s:Int):=by rw[q_r];omega
 have yb:=Zz dB;clear hG cf iI dX dB;go_enter func141,ntmps141;go_wp2_with fail;refine (EH.o _ bj.o).mono ?_;rintro e w1 ⟨rfl,rfl⟩
 go_upto_region 6 with fail
 clear bK
 go_loopw [7,19] (fun _ s19 wr=>∃i:Nat,i<=s/\s19=.int .i64 i/\Hid (Own wr G 9 (.slice (some ⟨G,0,none⟩) (2*s) (2*s)) (sv (fl dg (fun j=>decide (s<=j) && decide (j<s+i)) (2*s))))/\Hid (Kp NoB w1 wr)/\wr.heap.size=w0.heap.size) (fun _ s19 _=>s-(intOf s19).toNat)
 case atStart=>exact ⟨0,by omega,rfl,HO,HK,rfl⟩
 case round =>
  clear HO HK;obtain ⟨i,hi,rfl,HO,HK,Si⟩:=hrel;have Sj:=Zz Si;clear Si;by_cases af:i<s
  ·have bt:(i:Int)<(s:Int):=by omega
   have hx:=bA.o i af;have hk:=(HK.o.below0.cell (q_c w1 _ hx)).trans hx;have hds:=Np.o (s+i) (by omega) (by omega);have Dw:=y_h HO.o (y_T _ _ _) (s+i) (by omega);have Q5:=HO.o.frozen (s+i)
   have HS:=Zz (fl_set dg (fun j=>decide (s<=j) && decide (j<s+i)) (fun j=>decide (s<=j) && decide (j<s+(i+1))) (2*s) (s+i) (fun j hj aA=>by
    have:(j<s+(i+1))=(j<s+i):=by rw[eq_iff_iff];omega
    simp only[this]) (by simp))
   have nk:(s:Int)+(i:Int)=((s+i:Nat):Int):=by omega
   have eP:((s+i:Nat):Int)<2*(s:Int):=by omega
   have X9:IntKind.i64.wrap ((s+i:Nat):Int)=((s+i:Nat):Int):=by rw[q_r];omega
   have jD:=Zz (v_A HO.o (y_T _ _ _) (s+i) (dg (s+i)));rw[HS.o] at jD;have eY:=Zz (HK.o.setCell ⟨G,s+i,none⟩ (.string (dg (s+i))) (.inr (Nat.le_of_eq cR.o)));have tJ:Hid ((wr.setCell ⟨G,s+i,none⟩ (.string (dg (s+i)))).heap.size=w0.heap.size):=Zz (by rw[<-Sj.o];simp[World.setCell]);clear hx;generalize dg (s+i)=d at *;have Ya:Hid (i+1<=s):=Zz af;generalize rW:s+i=k at *;have uR:=Zz rW;clear rW;go_wp2;go_roundw
   case rel=>exact ⟨i+1,Ya.o,by go_num,jD,eY,tJ.o⟩
   case measure=>simp[intOf];omega
  ·obtain rfl:i=s:=by omega
   have bK:=mk_txt i (by omega) wr;have cf:=Own.made_txts wr wr.heap.size i (q_e _) (by omega);have gC:=Zz (HO.o.alloc (.cells (madeCells #[.string ⟨#[]⟩] i) 9));have xV:=Zz (HK.o.alloc (.cells (madeCells #[.string ⟨#[]⟩] i) 9))
   have Yb:wr.heap.size=G+1:=by rw[Sj.o,yb.o,cR.o]
   rw[Yb] at bK cf;obtain ⟨w5,fY⟩:∃w5,wr.alloc (.cells (madeCells #[.string ⟨#[]⟩] i) 9)=w5:=⟨_,rfl⟩;rw[fY] at bK cf gC xV;rw[<-fl_none pr (fun j=>decide (i-1<j)) i (fun j _=>by simp;omega)] at cf
   rw[fl_eq dg _ (fun j=>decide (i-1<j)) (2*i) (fun j hj=>by
    have:(i<=j)=(i-1<j):=by rw[eq_iff_iff];omega
    simp only[this];have h2:decide (j<i+i)=true:=decide_eq_true (by omega)
    rw[h2,Bool.and_true])] at gC
   have HP:=Zz cf;clear cf fY HO HK
   have iJ:IntKind.i64.wrap ((i:Int)-1)=((i-1:Nat):Int):=by rw[q_r];omega
   have kM:(i:Int)-1=((i-1:Nat):Int):=by omega
   have LU:Hid (i-1<i):=Zz (by omega)
   go_upto_region 14 with fail
   clear bK iJ kM
   go_loopw [9] (fun s9 wr=>∃m:Nat,m<i/\s9=.int .i64 m/\Hid (Own wr G 9 (.slice (some ⟨G,0,none⟩) (2*i) (2*i)) (sv (fl dg (fun j=>decide (m<j)) (2*i))))/\Hid (Own wr (G+1) 9 (.slice (some ⟨G+1,0,none⟩) i i) (sv (fl pr (fun j=>decide (m<j)) i)))/\Hid (Kp NoB w1 wr)) (fun s9 _=>(intOf s9).toNat)
   case atStart=>exact ⟨i-1,LU.o,rfl,gC,HP,xV⟩
   case round =>
    clear gC HP xV;obtain ⟨m,hm,rfl,HO,HP,HK⟩:=hrel;by_cases jy:0<m
    ·obtain ⟨q1,q2⟩:=H2.o m jy hm
     have c1:=y_h HO.o (y_T _ _ _) (2*m) (by omega);have c2:=y_h HO.o (y_T _ _ _) (2*m+1) (by omega);rw[fl_at _ _ _ _ (by omega),if_pos (by simp;omega)] at c1 c2;have dv:=Np.o (2*m) (by omega) (by omega);have cX:=Np.o (2*m+1) (by omega) (by omega);have I6:=HP.o.frozen m;have Mv:=y_h HP.o (y_T _ _ _) m hm
     have ff:=Zz (fl_set pr (fun j=>decide (m<j)) (fun j=>decide (m-1<j)) i m (fun j hj aA=>by
      have:(m-1<j)=(m<j):=by rw[eq_iff_iff];omega
      simp only[this]) (by simp;omega))
     have np:=Zz (fl_set dg (fun j=>decide (m<j)) (fun j=>decide (m-1<j)) (2*i) m (fun j hj aA=>by
      have:(m-1<j)=(m<j):=by rw[eq_iff_iff];omega
      simp only[this]) (by simp;omega))
     have pi:(pr m).size<=100000:=by rw[q1,ByteArray.size_append,dv,cX];decide
     have HN:=Zz (fun W (hW:Lay W) (bE:10<=W.heap.size)=>nodeB_any W hW bE (pr m) pi);rw[<-q2] at HN;have mi:=Zz (v_A HP.o.drew (y_T _ _ _) m (pr m));rw[ff.o] at mi;have jD:=Zz (HO.o.drew.far (p:=⟨G+1,m,none⟩) (by simp[Value.ownBlock]) (.string (pr m)));have eY:=Zz (HK.o.drew.setCell ⟨G+1,m,none⟩ (.string (pr m)) (.inr (by have:=cR.o;show _<=G+1;omega)))
     have et:(wr.drew.setCell ⟨G+1,m,none⟩ (.string (pr m))).cell? ⟨G+1,m,none⟩=some (.string (pr m)):=by
      rw[y_h mi.o (y_T _ _ _) m hm,fl_at _ _ _ _ hm,if_pos (by simp;omega)]
     have jv:=Zz et;have oz:Hid (10<=(wr.drew.setCell ⟨G+1,m,none⟩ (.string (pr m))).heap.size):=Zz (by have:=eY.o.size;omega)
     have me:(m:Int)<(i:Int):=by omega
     have e2m:2*(m:Int)=((2*m:Nat):Int):=by omega
     have e2m1:((2*m:Nat):Int)+1=((2*m+1:Nat):Int):=by omega
     have b1:((2*m:Nat):Int)<2*(i:Int):=by omega
     have b2:((2*m+1:Nat):Int)<2*(i:Int):=by omega
     have b3:(m:Int)<2*(i:Int):=by omega
     have Mm:IntKind.i64.wrap ((2*m:Nat):Int)=((2*m:Nat):Int):=by rw[q_r];omega
     have Qn:IntKind.i64.wrap ((2*m+1:Nat):Int)=((2*m+1:Nat):Int):=by rw[q_r];omega
     have d1:wr.drew.cell? ⟨G,2*m,none⟩=_:=c1;have d2:wr.drew.cell? ⟨G,2*m+1,none⟩=_:=c2;have dp:wr.drew.cell? ⟨G+1,m,none⟩=_:=Mv;have dz:wr.drew.frozen? ⟨G+1,m,none⟩=_:=I6;rw[q1] at mi jD eY jv oz HN;clear et c1 c2 Mv I6 q1 q2 HO HP HK pi;generalize dg (2*m)=x at *;generalize dg (2*m+1)=y at *;generalize ag:2*m=k2 at *;generalize au:k2+1=k3 at *
     go_upto_region 16 with fail
     go_still_tail 14,(by kernel_rfl)
     go_upto_region 17 with fail
     change Code.wp _ _ _ _ (wr.drew.setCell ⟨G+1,m,none⟩ (.string (x++y)));have et:=jv.o;generalize wr.drew.setCell ⟨G+1,m,none⟩ (.string (x++y))=w6 at *;generalize x++y=xy at *;clear d1 d2 dp dz;go_wp2_with fail;refine (HN.o _ (bj.o.no eY.o) oz.o).mono ?_;rintro e w7 ⟨rfl,aM⟩;have eM:=Zz (jD.o.kp aM fun _ _ h=>h);have gE:=Zz (mi.o.kp aM fun _ _ h=>h);have bC:=Zz (eY.o.trans aM);have Dw:=y_h eM.o (y_T _ _ _) m (by omega);have Q5:=eM.o.frozen m;have ia:=Zz (v_A eM.o (y_T _ _ _) m (dg m));rw[np.o] at ia;have fk:=Zz (gE.o.far (p:=⟨G,m,none⟩) (by simp[Value.ownBlock]) (.string (dg m)));have bq:=Zz (bC.o.setCell ⟨G,m,none⟩ (.string (dg m)) (.inr (Nat.le_of_eq cR.o)))
     have gV:IntKind.i64.wrap ((m:Int)-1)=((m-1:Nat):Int):=by rw[q_r];omega
     have lu:(m:Int)-1=((m-1:Nat):Int):=by omega
     have jz:Hid (m-1<i):=Zz (by omega);have ej:Hid (m-1<m):=Zz (by omega);clear aM;generalize dg m=dm at *;generalize DO:m-1=m1 at *;go_wp2;go_roundw
     case rel=>exact ⟨m1,jz.o,rfl,ia,fk,bq⟩
     case measure=>simp[intOf];exact ej.o
    ·obtain rfl:m=0:=by omega
     have c1:=y_h HO.o (y_T _ _ _) 1 (by omega);rw[fl_at _ _ _ _ (by omega),if_pos (by simp)] at c1;have d1:wr.drew.cell? ⟨G,1,none⟩=_:=c1
     have gY:(1:Int)<2*(i:Int):=by omega
     have nz:=Zz HP.o.reads;clear c1
     go_upto_region 18 with fail
     go_still (by kernel_rfl)
     go_wp2
     go_ret3
     exact ⟨_,rfl,nz.o.drew,HK.o.drew⟩
end Go.Proofs.YtdkheklakfbeeaaGreatDoor
