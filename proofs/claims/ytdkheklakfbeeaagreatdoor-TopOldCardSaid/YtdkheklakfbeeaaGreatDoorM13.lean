/- Part 13 of the proof. -/
import Derived.Test.YtdkheklakfbeeaaGreatDoorM12
set_option linter.all false
set_option maxRecDepth 100000
set_option maxHeartbeats 16000000
namespace Go.Proofs.YtdkheklakfbeeaaGreatDoor
open Go.RowKit Tryz
variable {base e k size:Nat}{v:Value}{w:W_}{xs:List Value}
def ones3 (a:Int) (x y:B_):∀u∈[Value.int .i64 a,.string x,.string y],u.oneCell'=true:=by
 intro u e;simp at e;rcases e with rfl|rfl|rfl<;>rfl
def nI {g t:Nat} {cs:Array Value} (h:w.ownsRow base e size v k xs) (hb:ab w g t cs) (i:e≠t):∀q,v.ownBlock=some q->¬q=g:=fun q l j=>by
 subst j;exact hH h hb i l
def vR {g t:Nat} {cs:Array Value} (h:w.ownsRow base e size v k xs) (hb:ab w g t cs) (i:e≠t):¬some g=v.ownBlock:=fun j=>hH h hb i j.symm
def v_Y {base' g size' p:Nat} {i:Value} {j:List Value} (h:w.ownsRow base e size v k xs) (n:w.ownsRow base' g size' i p j) (l:e≠g):∀q,i.ownBlock=some q->¬some q=v.ownBlock:=fun q o m=>by
 obtain ⟨cs,hb⟩:=fj n o;exact vR h hb l m
section
variable {b n an:Nat} {key:List UInt8} {F:Nat->Prop}
def JJ (T:a_ w) (h:Bk w b n (fun _=>dk0) F) (hw:10<=w.heap.size) (ha:ab w an 180 #[.int .u64 0,.string (bs [])]) (hk:key.length=32) (d s:Nat) (z:2<=d) (h4:d<=4) (hs:sl s) (hn:d+2<=n) :
  Cl 54 #[.pointer (some ⟨b,0,none⟩),.pointer (some ⟨an,0,none⟩),.string (bs key),.int .i64 d,.int .i64 s] w fun e w'=>e=.returned (.int .i64 0)/\ab w' an 180 #[.int .u64 1,.string (bs (dC (bh (g8 d s n))))]/\∃l,Gr w F l/\Bk w' b n (eY (fU d s n) 1 (bs (bh (g8 d s n))) n) l/\Kp (fun q=>F q\/q=an) w w':=by
 have cE:n<=12:=by obtain ⟨G,c,st,A,Φ,h0,_⟩:=h;exact h0.n12
 have bl:=M3 z h4 hs hn cE;have om:=Zz (fun W (k:Kp ac w W)=>ls (h.no k) an hk);have po:=Zz (fun W (T:a_ W)=>w_N W T d s ⟨z,o_,hs⟩);have bR:=Zz (fun W σ' l (hb:Bk W b n σ' l)=>x_m hb);have nE:=Zz (fun W (ha:ab W an 180 #[.int .u64 0,.string (bs [])])=>w_9 W an 0 [] ha);have NG:=Zz repeatZ;have Gu:=Zz (fun W (T:a_ W) (H2:10<=W.heap.size)=>v_C W T H2);have fG:=Zz (fun W i=>x_4 W b an i s key);have eJ:=Zz (fun W σ' l (hb:Bk W b n σ' l) (T:a_ W) (H2:10<=W.heap.size) i (hi:i<n)=>Qk RX T hb H2 hi hs hk);have pn:=Zz (fun W σ' l (hb:Bk W b n σ' l) (T:a_ W) (H2:10<=W.heap.size) i (hi:i<n) v (hv:∀W',Kp l W W'->iB W' v 2 (EZ s).length (eu (EZ s))) (ee:(σ' i).wait=0) (hd:(σ' i).dead=false)=>v_h RX T hb H2 hi hs hk v (EZ s) hv (by rw[show EZ s=uJ s (s-1) s from rfl,uA];rcases hs with rfl|rfl<;>decide) (wH hs) o_ hd);have mo:=Zz (fun W σ' l (hb:Bk W b n σ' l) (T:a_ W) (H2:10<=W.heap.size) (ha:ab W an 180 #[.int .u64 0,.string (bs [])]) vs vm hR ee cJ=>z_ah (key:=key) T hb H2 0 [] ha (g8 d s n) vs vm bl hR (by show 0<1;decide) ee cJ);have eI:=Zz (fun q (m:F q)=>h.lt m);have cz:=Zz (h.off ha (by unfold ci;decide));have il:=Zz bl;have vJ:=Zz (Ru d s n);have KV:=Zz (x_Z d s n);have fI:Hid (∀vs vm,dK (g8 d s n) vs vm=#[.int .u64 1,.int .u64 1,.int .i64 d,.int .i64 s,.int .i64 0,.int .i64 0,.bool false,vs,vm]):=Zz fun _ _=>rfl
 have KW:Hid (∀W base vs vm,aH W base 3 vs (zv (List.range (d+2)))->W.ownsRow base 108 3 vm n (ds (rX d s n))->ja W (g8 d s n) vs vm):=Zz fun W base vs vm M z=>⟨M.reads,by
  have e:(g8 d s n).mem.length=n:=x_Z d s n;rw[e]
  exact Sy z⟩
 have dr:=Zz h;have qn:=Zz ha;have bf:=Zz T;have rR:(0:Int)<=(d:Int):=o_;have nO:¬((n:Int)<(d:Int)+2):=o_
 have tR:IntKind.i64.wrap ((d:Int)+2)=(d:Int)+2:=by rw[eM];omega
 have hsp:0<s/\s<=4:=by rcases hs with rfl|rfl<;>decide
 have H5:=Zz (ab.new w 113 (aT b an key));have R:=Zz ((Kp.refl ac w).alloc (.cells (aT b an key) 113));have dH:=Zz hw;have dN:=Zz hn;clear T h ha bl hs;have A6:Hid ((g8 d s n).count=1):=Zz rfl
 have je:Hid (∀i j,(fU d s i j).wait<=1000):=Zz fun i j=>by rw[Cn];decide
 generalize g8 d s n=S0 at *;generalize htt:e9 s eD=O at *;go_enter func54,ntmps54
 go_upto_region 2 with fail
 change Code.wp _ _ _ _ (w.alloc (.cells (aT b an key) 113));generalize w.alloc (.cells (aT b an key) 113)=w1 at *;obtain ⟨G,hG⟩:∃G,w.heap.size=G:=⟨_,rfl⟩;rw[hG] at H5 ⊢;have cq:=Zz hG;clear hG;have x0:=H5.o.c0;have m1:=H5.o.c1;have m2:=H5.o.c2;go_wp2_with fail;refine (om.o _ R.o).mono ?_;rintro e w2 ⟨rfl,C⟩;have ak:=Zz (H5.o.kp C fun h=>h);have am:=Zz (R.o.trans C);clear C x0 m1 m2 H5 R om
 go_upto_region 6 with fail
 have y6:=Zz (ab.new w2 84 #[.int .i64 d,.int .i64 s,.int .i64 0,.bool false]);have OT:=Zz (am.o.alloc (.cells #[.int .i64 d,.int .i64 s,.int .i64 0,.bool false] 84));have TF:=Zz (ak.o.alloc (.cells #[.int .i64 d,.int .i64 s,.int .i64 0,.bool false] 84));clear ak am;generalize w2.alloc (.cells #[.int .i64 d,.int .i64 s,.int .i64 0,.bool false] 84)=w3 at *;generalize w2.heap.size=Y at *;have y0:=y6.o.c0;have y1:=y6.o.c1;have y2:=y6.o.c2;have y3:=y6.o.c3;go_wp2_with fail;refine (po.o _ (bf.o.no OT.o)).mono ?_;rintro e w4 ⟨rfl,ar⟩;have cC:=Zz (TF.o.kp ar fun h=>h);have ay:=Zz (OT.o.trans ar);clear ar y0 y1 y2 y3 y6 OT TF;go_wp2_with fail;refine (bR.o _ _ _ (dr.o.no ay.o)).mono ?_;rintro e w4 ⟨rfl,rfl⟩;go_wp2_with fail;refine (nE.o _ (qn.o.kp ay.o fun h=>h)).mono ?_;rintro e x3 ⟨rfl,aE⟩;have a8:=Zz (cC.o.kp aE fun h=>h);have ax:=Zz (ay.o.trans aE);clear aE cC ay
 go_upto_region 12 with fail
 have db:=Zz (ab.new x3 60 #[.int .u64 1,.int .u64 1,.int .i64 d,.int .i64 s,.int .i64 0,.int .i64 0,.bool false,.slice none 0 0,.slice none 0 0]);have H0:=Zz (ax.o.alloc (.cells #[.int .u64 1,.int .u64 1,.int .i64 d,.int .i64 s,.int .i64 0,.int .i64 0,.bool false,.slice none 0 0,.slice none 0 0] 60));have uw:=Zz (a8.o.alloc (.cells #[.int .u64 1,.int .u64 1,.int .i64 d,.int .i64 s,.int .i64 0,.int .i64 0,.bool false,.slice none 0 0,.slice none 0 0] 60));have y4:Hid (w.heap.size<=x3.heap.size/\x3.heap.size<(x3.alloc (.cells #[.int .u64 1,.int .u64 1,.int .i64 d,.int .i64 s,.int .i64 0,.int .i64 0,.bool false,.slice none 0 0,.slice none 0 0] 60)).heap.size):=Zz ⟨ax.o.size,s_⟩;clear a8 ax;generalize x3.alloc (.cells #[.int .u64 1,.int .u64 1,.int .i64 d,.int .i64 s,.int .i64 0,.int .i64 0,.bool false,.slice none 0 0,.slice none 0 0] 60)=o at *;generalize x3.heap.size=P at *;go_wp2_with fail;refine (bR.o _ _ _ (dr.o.no H0.o)).mono ?_;rintro e o ⟨rfl,rfl⟩;have vK:=Zz (bf.o.no H0.o);have ji:=Zz (qn.o.kp H0.o fun h=>h);have gK:Hid (∃l,Gr o F l/\Bk o b n (fU d s 0) l):=Zz ⟨F,Gr.refl _ _,by rw[Rw];exact dr.o.no H0.o⟩;have bJ:=Zz (Kp.refl (fun q=>F q\/q=P) o);have KQ:Hid (∃f x,aH o o.heap.size 3 f (zv (List.range (min 0 (d+2))))/\o.ownsRow o.heap.size 108 3 x 0 (ds ((rX d s n).take 0))/\ab o P 60 #[.int .u64 1,.int .u64 1,.int .i64 d,.int .i64 s,.int .i64 0,.int .i64 0,.bool false,f,x]):=Zz ⟨_,_,by rw[Nat.zero_min];exact aH.nil_ _ _ _,World.ownsRow_nil _ _ _ _,db.o⟩;have jY:Hid (¬F G/\¬F P):=Zz ⟨fun u=>by have:=(eI.o _ u).2;have:=cq.o;omega,fun u=>by have:=(eI.o _ u).2;have:=y4.o.1;omega⟩;have uy:Hid (G<o.heap.size/\G≠P):=Zz ⟨uw.o.lt,ab.ne_ uw.o db.o d_⟩;have jr:Hid (10<=P):=Zz (by have:=y4.o.1;have:=dH.o;omega)
 go_upto_region 13 with fail
 go_loopw [17,18,19,20,21,22,57] (fun _ _ _ _ _ _ OU wr=>∃i:Nat,i<=n/\OU=.int .i64 i/\Hid (∃f x,aH wr o.heap.size 3 f (zv (List.range (min i (d+2))))/\wr.ownsRow o.heap.size 108 3 x i (ds ((rX d s n).take i))/\ab wr P 60 #[.int .u64 1,.int .u64 1,.int .i64 d,.int .i64 s,.int .i64 0,.int .i64 0,.bool false,f,x])/\Hid (∃l,Gr o F l/\Bk wr b n (fU d s i) l)/\Hid (Kp (fun q=>F q\/q=P) o wr)) (fun _ _ _ _ _ _ OU _=>n-(intOf OU).toNat)
 case atStart=>exact ⟨0,o_,rfl,KQ,gK,bJ⟩
 case round =>
  clear KQ gK bJ;obtain ⟨i,hi,rfl,yf,x4,R⟩:=hrel;obtain ⟨f,x,vf,TG,TH⟩:=yf.o;obtain ⟨y9,br,az⟩:=x4.o;have H7:=Zz vf;have H3:=Zz TG;have Z:=Zz TH;have H1:=Zz br;have aU:=Zz az;have y5:=Zz (uw.o.kp R.o fun h=>h.elim jY.o.1 uy.o.2);have jH:=Zz (vK.o.kp R.o fun g hg u=>by rcases u with u|u;(have:=(eI.o g u).1;omega);(have:=jr.o;omega));have j9:Hid (10<=wr.heap.size):=Zz (by have:=dH.o;have:=H0.o.size;have:=R.o.size;omega);clear vf TG TH br az yf x4;by_cases af:i<n
  ·have bL:(i:Int)<(n:Int):=o_
   go_wp2_with fail;refine (NG.o wr).mono ?_;rintro e w7 ⟨rfl,aI⟩;have bH:=Zz aI;clear aI;go_wp2_with fail;refine (Gu.o _ (jH.o.no bH.o) (by have:=bH.o.size;have:=j9.o;omega)).mono ?_;rintro e w8 ⟨rfl,aN⟩;have bp:=Zz (bH.o.trans aN);clear aN bH;have x7:=Zz (ab.new w8 108 #[.int .i64 0,.string uL,.string fb]);have H:=Zz (bp.o.alloc (.cells #[.int .i64 0,.string uL,.string fb] 108));have lj:Hid (o.heap.size<=w8.heap.size):=Zz (cL R.o.size bp.o.size)
   go_upto_region 16 with fail
   generalize w8.alloc (.cells #[.int .i64 0,.string uL,.string fb] 108)=H4 at *;obtain ⟨D,hD⟩:∃D,w8.heap.size=D:=⟨_,rfl⟩;rw[hD] at x7 lj ⊢;have OC:=Zz hD;clear hD;have Q:=Zz (R.o.then H.o fun _ _ h=>h.elim);have p:=Zz (Z.o.kp H.o fun h=>h);have a:=Zz (H7.o.kp H.o fun _ _ h=>h);have r:=Zz (dL H3.o H.o fun _ _ h=>h);have x8:=Zz (aU.o.no H.o);have H8:=Zz (y5.o.kp H.o fun h=>h);have KX:=Zz (jH.o.no H.o);have Gv:Hid (10<=H4.heap.size):=Zz (by have:=j9.o;have:=H.o.size;omega)
   have nF:Hid (∀q,x.ownBlock=some q->q<D):=Zz fun q m=>by have:=(iZ H3.o m).2;have:=OC.o;have:=bp.o.size;omega
   clear R H7 H3 Z aU y5 jH bp;have OV:Hid (P<o.heap.size):=Zz y4.o.2;by_cases zy:i<d+2
   ·have oX:(i:Int)<(d:Int)+2:=o_
    have jE:min i (d+2)=i:=Nat.min_eq_left o_;have ml:min (i+1) (d+2)=i+1:=Nat.min_eq_left o_;rw[jE] at a;have x0:=H8.o.c0;have m1:=H8.o.c1;have m2:=H8.o.c2;go_wp2_with fail;refine (fG.o H4 i).mono ?_;rintro e bY ⟨rfl,bZ⟩;have x6:=Zz bZ;clear bZ x0 m1 m2;go_wp2_with fail;refine (eJ.o bY _ y9 (x8.o.no x6.o) (KX.o.no x6.o) (by have:=Gv.o;have:=x6.o.size;omega) i af).mono ?_;rintro e fN ⟨u11,rfl,Gw,cP⟩;have HU:=Zz Gw;have dI:=Zz (x6.o.trans cP);have kd:=Zz (H8.o.kp dI.o fun h=>h);clear Gw cP x6;have x0:=kd.o.c0;have m1:=kd.o.c1;have m2:=kd.o.c2;go_wp2_with fail;refine (fG.o fN i).mono ?_;rintro e iN ⟨rfl,cF⟩;have S:=Zz (dI.o.trans cF);have Ba:=Zz (dL HU.o cF fun _ _ h=>h);clear cF x0 m1 m2 dI HU kd;have x2:=Zz (x8.o.no S.o);go_wp2_with fail;refine (pn.o iN _ y9 x2.o (KX.o.no S.o) (by have:=Gv.o;have:=S.o.size;omega) i af u11 (fun W' hk=>Sy (dL Ba.o hk (x2.o.offRow Ba.o (by unfold ci;decide)))) (Cn _ _ _ _) (w_T _ _ _ _)).mono ?_;rintro e h8 ⟨rfl,F2,bC,aq,C⟩;rw[Tt,Vj d s i zy] at aq;have Gx:Hid (∃l,Gr o F l/\Bk h8 b n (fU d s (i+1)) l):=Zz ⟨F2,H1.o.then bC (cL Q.o.size S.o.size),aq⟩;have Bb:Hid (∀g t cs,ab H4 g t cs->¬ci t->ab h8 g t cs):=Zz fun g t cs hb ht=>(hb.kp S.o fun h=>h).kp C (x2.o.off (hb.kp S.o fun h=>h) ht);have Gy:=Zz (Bb.o _ _ _ p.o (by unfold ci;decide));have h9:=Zz (Bb.o _ _ _ x7.o (by unfold ci;decide));have sF:=Zz ((a.o.kp S.o fun _ _ h=>h).kp C (x2.o.offRow (a.o.kp S.o fun _ _ h=>h) (by unfold ci;decide)));have yg:=Zz (dL (dL r.o S.o fun _ _ h=>h) C (x2.o.offRow (dL r.o S.o fun _ _ h=>h) (by unfold ci;decide)));have mU:Hid (Kp (fun q=>F q\/q=P) o h8):=Zz ((Q.o.then S.o fun _ _ h=>h.elim).then C fun q m u=>.inl (H1.o q m u));clear bC aq C Q p a r x8 H8 KX S Ba x2 Bb x7 H1;have q0:=h9.o.c0;have q1:=h9.o.c1;have g0:=h9.o.frozen 0;have g1:=h9.o.frozen 1;have H6:=((Kp.refl (fun q=>q=D) h8).setCell ⟨D,0,none⟩ (.int .i64 1) (.inl rfl)).setCell ⟨D,1,none⟩ (.string O) (.inl rfl)
    have TI:P≠D:=fun e=>by have:=OV.o;have:=lj.o;omega
    have U:Hid (ab ((h8.setCell ⟨D,0,none⟩ (.int .i64 1)).setCell ⟨D,1,none⟩ (.string O)) D 108 #[.int .i64 1,.string O,.string fb]):=Zz ((h9.o.set_ 0 (.int .i64 1)).set_ 1 (.string O));have p:=Zz (Gy.o.kp H6 TI);have a:=Zz (sF.o.kp H6 (nI sF.o h9.o d_))
    have Gz:∀q,x.ownBlock=some q->¬q=D:=fun q m e=>by have:=nF.o q m;omega
    have r:=Zz (dL yg.o H6 Gz);have Q:Hid (Kp (fun q=>F q\/q=P) o ((h8.setCell ⟨D,0,none⟩ (.int .i64 1)).setCell ⟨D,1,none⟩ (.string O))):=Zz (mU.o.then H6 fun q m e=>by have e:q=D:=e;have:=lj.o;omega)
    have h2:Hid (∃l,Gr o F l/\Bk ((h8.setCell ⟨D,0,none⟩ (.int .i64 1)).setCell ⟨D,1,none⟩ (.string O)) b n (fU d s (i+1)) l):=Zz (by
     obtain ⟨l,M,z⟩:=Gx.o
     exact ⟨l,M,z.kp H6 fun q m u=>by
      have m:q=D:=m;subst m
      exact z.off h9.o (by unfold ci;decide) u⟩)
    clear H6 Gz Gy sF yg mU Gx
    go_upto_region 22 with fail
    clear q0 q1 g0 g1 h9;generalize (h8.setCell ⟨D,0,none⟩ (.int .i64 1)).setCell ⟨D,1,none⟩ (.string O)=mp at *;have p7:=p.o.c7;have H9:=Q.o.size;have K:Hid (aH mp o.heap.size 3 f (zv (List.range i))):=a
    go_upto_region 23 with (at_builtin;refine Bp (w0:=mp) o.heap.size rfl (.tmp 89) (.tmp 91) 57 3 (.int .i64 0) 8 rfl underlying57 rs rfl d_ f (zv (List.range i)) (.int .i64 i) rfl rfl rfl K.o ((Below.refl _ _).mono H9) H9 (by rw[iF,zH];omega) ?_;intro v1 x1 X hB hg x5;obtain ⟨h1,h5,rfl⟩:∃A c,v1=.slice A (i+1) c:=(by obtain ⟨A,c,e⟩:=X.shape;exact ⟨A,c,by rw[e,<-Mz,iF,zH]⟩);have p7:x1.cell? ⟨P,7,none⟩=some f:=(p.o.grown hg (fun e=>vR K.o p.o d_ e)).cell 7;have f7:=(p.o.grown hg (fun e=>vR K.o p.o d_ e)).frozen 7;have oo:=Zz X;have GA:=Zz hg;clear X hg x5 hB)
    have y:Kp (fun q=>some q=f.ownBlock) mp x1:=Kp.of_grown GA.o fun _ h=>h;have x9:=p.o.kp y (vR K.o p.o d_);have I:=(Kp.refl (fun q=>q=P) x1).setCell ⟨P,7,none⟩ (.slice h1 (i+1) h5) (.inl rfl);have h7:ab (x1.setCell ⟨P,7,none⟩ (.slice h1 (i+1) h5)) P 60 #[.int .u64 1,.int .u64 1,.int .i64 d,.int .i64 s,.int .i64 0,.int .i64 0,.bool false,.slice h1 (i+1) h5,x]:=x9.set_ 7 (.slice h1 (i+1) h5);have L:=oo.o.kp I (nI oo.o x9 d_);rw[<-Mz] at L;have Bc:=dL r.o y (v_Y K.o r.o d_);have B:=dL Bc I (nI Bc x9 d_);have DD:=U.o.kp y (vR K.o U.o d_);have hd:=DD.kp I fun e=>TI (Eq.symm e)
    have YN:Hid (∃l,Gr o F l/\Bk (x1.setCell ⟨P,7,none⟩ (.slice h1 (i+1) h5)) b n (fU d s (i+1)) l):=Zz (by
     obtain ⟨l,M,z⟩:=h2.o;have h3:=z.kp y fun q m u=>z.offRow K.o (by unfold ci;decide) q m.symm u
     exact ⟨l,M,h3.kp I fun q m u=>by
      have m:q=P:=m;subst m
      exact h3.off x9 (by unfold ci;decide) u⟩)
    have YO:=Zz ((Q.o.then y fun q m h=>by have:=(iZ K.o h.symm).1;omega).then I fun q m e=>.inr e);have YP:=Zz h7;have OW:=Zz L;have OX:=Zz B;have YQ:=Zz hd;clear y x9 I h7 L B Bc DD hd p7 f7 p a K r U h2 Q oo GA;generalize x1.setCell ⟨P,7,none⟩ (.slice h1 (i+1) h5)=Ed at *;have p:=YP;have a:=OW;have r:=OX;have U:=YQ;have h2:=YN;have Q:=YO;have p8:=p.o.c8;have q0:=U.o.c0;have q1:=U.o.c1;have q2:=U.o.c2;have cO:=Zz (ones3 1 O fb);have H9:=Q.o.size;have OY:=Zz (a.o.alloc (.cells #[.int .i64 1,.string O,.string fb] 108));have iq:=Zz (p.o.alloc (.cells #[.int .i64 1,.string O,.string fb] 108));have OZ:=Zz (Q.o.alloc (.cells #[.int .i64 1,.string O,.string fb] 108))
    have GB:Hid (∃l,Gr o F l/\Bk (Ed.alloc (.cells #[.int .i64 1,.string O,.string fb] 108)) b n (fU d s (i+1)) l):=Zz (by
     obtain ⟨l,M,z⟩:=h2.o
     exact ⟨l,M,z.no ((Kp.refl ac Ed).alloc _)⟩)
    have O0:=Zz (World.ownsRow.alloc r.o (.cells #[.int .i64 1,.string O,.string fb] 108))
    go_wp2_with (at_builtin;refine Y3 o.heap.size rfl (.tmp 95) (.tmp 97) 58 108 (.agg #[.int .i64 0,.string ⟨#[]⟩,.string ⟨#[]⟩]) 3 40 rfl underlying58 CO rfl d_ d_ x i _ [Value.int .i64 1,.string O,.string fb] rfl rfl rfl cO.o r.o H9 o_ ?_;intro v1 N X hg x5;obtain ⟨E,J,rfl⟩:=lM X;have p8:N.cell? ⟨P,8,none⟩=some x:=(p.o.grown hg (fun e=>vR r.o p.o d_ e)).cell 8;have f8:=(p.o.grown hg (fun e=>vR r.o p.o d_ e)).frozen 8;have y7:=Zz X;have Bd:=Zz hg;clear X hg x5)
    have y:Kp (fun q=>some q=x.ownBlock) Ed N:=Kp.of_grown Bd.o fun _ h=>h;have V:=p.o.kp y (vR r.o p.o d_);have I:=(Kp.refl (fun q=>q=P) N).setCell ⟨P,8,none⟩ (.slice E (i+1) J) (.inl rfl);have h7:ab (N.setCell ⟨P,8,none⟩ (.slice E (i+1) J)) P 60 #[.int .u64 1,.int .u64 1,.int .i64 d,.int .i64 s,.int .i64 0,.int .i64 0,.bool false,.slice h1 (i+1) h5,.slice E (i+1) J]:=V.set_ 8 (.slice E (i+1) J);have L:=(a.o.kp y (v_Y r.o a.o d_)).kp I (nI (a.o.kp y (v_Y r.o a.o d_)) V d_);have B:=dL y7.o I (nI y7.o V d_)
    have y8:ds ((rX d s n).take i)++[Value.int .i64 1,.string O,.string fb]=ds ((rX d s n).take (i+1)):=by
     rw[vJ.o i af,z_ai,if_pos zy];rfl
    rw[y8] at B;have oq:Hid (∃f x,aH (N.setCell ⟨P,8,none⟩ (.slice E (i+1) J)) o.heap.size 3 f (zv (List.range (min (i+1) (d+2))))/\(N.setCell ⟨P,8,none⟩ (.slice E (i+1) J)).ownsRow o.heap.size 108 3 x (i+1) (ds ((rX d s n).take (i+1)))/\ab (N.setCell ⟨P,8,none⟩ (.slice E (i+1) J)) P 60 #[.int .u64 1,.int .u64 1,.int .i64 d,.int .i64 s,.int .i64 0,.int .i64 0,.bool false,f,x]):=Zz ⟨_,_,by rw[ml];exact L,B,h7⟩
    have Be:Hid (∃l,Gr o F l/\Bk (N.setCell ⟨P,8,none⟩ (.slice E (i+1) J)) b n (fU d s (i+1)) l):=Zz (by
     obtain ⟨l,M,z⟩:=h2.o;have h3:=z.kp y fun q m u=>z.offRow r.o (by unfold ci;decide) q m.symm u
     exact ⟨l,M,h3.kp I fun q m u=>by
      have m:q=P:=m;subst m
      exact h3.off V (by unfold ci;decide) u⟩)
    have aB:=Zz ((Q.o.then y fun q m h=>by have:=(iZ r.o h.symm).1;omega).then I fun q m e=>by exact .inr e);clear y V I h7 L B y8;go_wp2;go_roundw
    case rel=>exact ⟨i+1,o_,by go_num,oq,Be,aB⟩
    case measure=>simp[intOf];omega
   have oX:¬((i:Int)<(d:Int)+2):=o_;have jE:min i (d+2)=d+2:=Nat.min_eq_right o_;have ml:min (i+1) (d+2)=d+2:=Nat.min_eq_right o_;rw[jE] at a;have h2:Hid (∃l,Gr o F l/\Bk H4 b n (fU d s (i+1)) l):=Zz ⟨y9,H1.o,by rw[TV d s i zy];exact x8.o⟩;have U:=x7;clear H8 x8 KX H1 H x7;have p8:=p.o.c8;have q0:=U.o.c0;have q1:=U.o.c1;have q2:=U.o.c2;have cO:=Zz (ones3 0 uL fb);have H9:=Q.o.size;have OY:=Zz (a.o.alloc (.cells #[.int .i64 0,.string uL,.string fb] 108));have iq:=Zz (p.o.alloc (.cells #[.int .i64 0,.string uL,.string fb] 108));have OZ:=Zz (Q.o.alloc (.cells #[.int .i64 0,.string uL,.string fb] 108))
   have GB:Hid (∃l,Gr o F l/\Bk (H4.alloc (.cells #[.int .i64 0,.string uL,.string fb] 108)) b n (fU d s (i+1)) l):=Zz (by
    obtain ⟨l,M,z⟩:=h2.o
    exact ⟨l,M,z.no ((Kp.refl ac H4).alloc _)⟩)
   have O0:=Zz (World.ownsRow.alloc r.o (.cells #[.int .i64 0,.string uL,.string fb] 108))
   go_wp2_with (at_builtin;refine Y3 o.heap.size rfl (.tmp 95) (.tmp 97) 58 108 (.agg #[.int .i64 0,.string ⟨#[]⟩,.string ⟨#[]⟩]) 3 40 rfl underlying58 CO rfl d_ d_ x i _ [Value.int .i64 0,.string uL,.string fb] rfl rfl rfl cO.o r.o H9 o_ ?_;intro v1 N X hg x5;obtain ⟨E,J,rfl⟩:=lM X;have p8:N.cell? ⟨P,8,none⟩=some x:=(p.o.grown hg (fun e=>vR r.o p.o d_ e)).cell 8;have f8:=(p.o.grown hg (fun e=>vR r.o p.o d_ e)).frozen 8;have y7:=Zz X;have Bd:=Zz hg;clear X hg x5)
   have y:Kp (fun q=>some q=x.ownBlock) H4 N:=Kp.of_grown Bd.o fun _ h=>h;have V:=p.o.kp y (vR r.o p.o d_);have I:=(Kp.refl (fun q=>q=P) N).setCell ⟨P,8,none⟩ (.slice E (i+1) J) (.inl rfl);have h7:ab (N.setCell ⟨P,8,none⟩ (.slice E (i+1) J)) P 60 #[.int .u64 1,.int .u64 1,.int .i64 d,.int .i64 s,.int .i64 0,.int .i64 0,.bool false,f,.slice E (i+1) J]:=V.set_ 8 (.slice E (i+1) J);have L:=(a.o.kp y (v_Y r.o a.o d_)).kp I (nI (a.o.kp y (v_Y r.o a.o d_)) V d_);have B:=dL y7.o I (nI y7.o V d_)
   have y8:ds ((rX d s n).take i)++[Value.int .i64 0,.string uL,.string fb]=ds ((rX d s n).take (i+1)):=by
    rw[vJ.o i af,z_ai,if_neg zy];rfl
   rw[y8] at B;have oq:Hid (∃f x,aH (N.setCell ⟨P,8,none⟩ (.slice E (i+1) J)) o.heap.size 3 f (zv (List.range (min (i+1) (d+2))))/\(N.setCell ⟨P,8,none⟩ (.slice E (i+1) J)).ownsRow o.heap.size 108 3 x (i+1) (ds ((rX d s n).take (i+1)))/\ab (N.setCell ⟨P,8,none⟩ (.slice E (i+1) J)) P 60 #[.int .u64 1,.int .u64 1,.int .i64 d,.int .i64 s,.int .i64 0,.int .i64 0,.bool false,f,x]):=Zz ⟨_,_,by rw[ml];exact L,B,h7⟩
   have Be:Hid (∃l,Gr o F l/\Bk (N.setCell ⟨P,8,none⟩ (.slice E (i+1) J)) b n (fU d s (i+1)) l):=Zz (by
    obtain ⟨l,M,z⟩:=h2.o;have h3:=z.kp y fun q m u=>z.offRow r.o (by unfold ci;decide) q m.symm u
    exact ⟨l,M,h3.kp I fun q m u=>by
     have m:q=P:=m;subst m
     exact h3.off V (by unfold ci;decide) u⟩)
   have aB:=Zz ((Q.o.then y fun q m h=>by have:=(iZ r.o h.symm).1;omega).then I fun q m e=>by exact .inr e);clear y V I h7 L B y8;go_wp2;go_roundw
   case rel=>exact ⟨i+1,o_,by go_num,oq,Be,aB⟩
   case measure=>simp[intOf];omega
  obtain rfl:i=n:=o_;have H7:Hid (aH wr o.heap.size 3 f (zv (List.range (d+2)))):=Zz (by have M:=H7.o;rwa [Nat.min_eq_right dN.o] at M);have H3:Hid (wr.ownsRow o.heap.size 108 3 x i (ds (rX d s i))):=Zz (by have M:=H3.o;rwa [kx (by rw[KV.o];exact bS _)] at M);obtain ⟨E,J,rfl⟩:=lM H3.o
  obtain ⟨h1,h5,rfl⟩:∃A c,f=.slice A (d+2) c:=by
   obtain ⟨A,c,e⟩:=H7.o.shape;exact ⟨A,c,by rw[e,iF,zH]⟩
  have iX:=Zz (KW.o wr _ _ _ H7.o H3.o);have GC:=Zz (ji.o.kp R.o fun h=>h.elim cz.o fun e=>by have:=qn.o.lt;have:=y4.o.1;omega);have x4:=Zz (mo.o wr _ y9 aU.o jH.o j9.o GC.o _ _ iX.o (fun j _=>je.o _ _) ⟨0,by have:=dN.o;omega,w_T _ _ _ _⟩);rw[fI.o,A6.o] at x4;have x0:=y5.o.c0;have m1:=y5.o.c1;have m2:=y5.o.c2;have p0:=Z.o.c0;have p1:=Z.o.c1;have p2:=Z.o.c2;have p3:=Z.o.c3;have p4:=Z.o.c4;have p5:=Z.o.c5;have p6:=Z.o.c6;have p7:=Z.o.c7;have p8:=Z.o.c8;go_wp2_with fail;refine x4.o.mono ?_;rintro e rl ⟨rfl,GD,F3,fa,b9,aw⟩
  have HR:Hid (ab rl an 180 #[.int .u64 1,.string (bs (dC (bh S0)))]/\∃l,Gr w F l/\Bk rl b i (eY (fU d s i) 1 (bs (bh S0)) i) l/\Kp (fun q=>F q\/q=an) w rl):=Zz (by
   refine ⟨GD,F3,fun q m u=>?_,b9,?_⟩
   ·have h6:q<o.heap.size:=ea m H0.o.size
    exact H1.o q h6 (fa q (ea h6 R.o.size) u)
   refine ((H0.o.mono fun _ _ h=>h.elim).then R.o fun q m h=>h.elim .inl fun e=>?_).then aw fun q m h=>h.elim (fun h=>.inl (H1.o q (ea m H0.o.size) h)) .inr;have:=y4.o.1
   omega)
  clear GD fa b9 aw;go_wp2;go_ret;exact ⟨rfl,HR.o⟩
end
def nT (L:List Nat) (M:List fv):List UInt8:=L.flatMap bQ++M.flatMap pe
def v_o (x:Nat) (L:List Nat) (M:List fv):nT (x::L) M=bQ x++nT L M:=by simp[nT,List.append_assoc]
def nT_mem (m:fv) (M:List fv):nT [] (m::M)=pe m++nT [] M:=by simp[nT]
def Ay (S:cj):bh S=bQ S.count++(bQ S.epoch++nT (lG S) S.mem):=by simp[bh,nT,List.append_assoc]
def JN {m i:Nat} (h:i<m):(List.range m).drop i=i::(List.range m).drop (i+1):=by
 rw[List.drop_eq_getElem_cons (by simpa using h)];simp
def num_rd (W:W_) (P x:Nat) (rest:List UInt8) (g:x<18446744073709551616) (i:rest.length<=900000) (h:ab W P 317 (Rd.cs (bQ x++rest,0))) :
  Cl 183 #[.pointer (some ⟨P,0,none⟩)] W fun e w'=>e=.returned (.int .u64 x)/\ab w' P 317 (Rd.cs (rest,0))/\Kp (·=P) W w':=by
 have:=v_X W P (bQ x++rest,0) (by rw[cd,ec];omega) h
 rwa [(Rd.num_ok g rest).1,(Rd.num_ok g rest).2.1] at this
def Wq (W:W_) (P x b:Nat) (rest:List UInt8) (i:x<b) (hb:b<=1000) (j:rest.length<=900000) (h:ab W P 317 (Rd.cs (bQ x++rest,0))) :
  Cl 179 #[.pointer (some ⟨P,0,none⟩),.int .i64 b] W fun e w'=>e=.returned (.int .i64 x)/\ab w' P 317 (Rd.cs (rest,0))/\Kp (·=P) W w':=by
 have g:=Rd.below_ok (n:=x) (b:=b) o_ i rest;have:=v_l W P (bQ x++rest,0) (by rw[cd,ec];omega) (by show 0<100;decide) b o_ o_ h
 rwa [g.1,g.2] at this
def Dl (G:Nat) (W:W_):(Instr.index 278 (.agg #[.pointer (some ⟨G,2,none⟩),.pointer (some ⟨G,3,none⟩),.pointer (some ⟨G,4,none⟩),.pointer (some ⟨G,5,none⟩)]) (.int .i64 0)).run prog W=.ok (.pointer (some ⟨G,2,none⟩)) W/\(Instr.index 278 (.agg #[.pointer (some ⟨G,2,none⟩),.pointer (some ⟨G,3,none⟩),.pointer (some ⟨G,4,none⟩),.pointer (some ⟨G,5,none⟩)]) (.int .i64 1)).run prog W=.ok (.pointer (some ⟨G,3,none⟩)) W/\(Instr.index 278 (.agg #[.pointer (some ⟨G,2,none⟩),.pointer (some ⟨G,3,none⟩),.pointer (some ⟨G,4,none⟩),.pointer (some ⟨G,5,none⟩)]) (.int .i64 2)).run prog W=.ok (.pointer (some ⟨G,4,none⟩)) W/\(Instr.index 278 (.agg #[.pointer (some ⟨G,2,none⟩),.pointer (some ⟨G,3,none⟩),.pointer (some ⟨G,4,none⟩),.pointer (some ⟨G,5,none⟩)]) (.int .i64 3)).run prog W=.ok (.pointer (some ⟨G,5,none⟩)) W:=⟨rfl,rfl,rfl,rfl⟩
def ID (w:W_) (S:cj) (H0:a7 S) :
  Cl 131 #[.string (bs (bh S))] w fun e w'=>∃vs vm,e=.returned (.tuple #[.agg (dK S vs vm),.int .i64 0])/\bg w' w.heap.size S vs vm/\Kp ac w w':=by
 have po:=Zz (fun W vs vm (h:ja W S vs vm)=>hA H0 h);have eS:=Zz (fun W=>jl W (bh S));have xw:=Zz num_rd;have x0:=Zz Wq;have vL:=Zz Hh;have Bf:=Zz (fun W P=>ki W P ([],0));have OJ:=Ay S;have KY:=H0.mem;have aJ:=fun i h=>H0.st2 i h;have h3:=H0.n1;have h4:=H0.n12;have h5:=H0.d8
 have h6:S.slots<=4:=by rcases H0.sl with h|h<;>omega
 have h7:=H0.c;have h8:=H0.e
 have fE:Hid (∀(L:List Nat) (j:Nat),L.length<=100->(nT L (S.mem.drop j)).length<=800000):=Zz fun L j hL=>by
  have q1:=w_t bQ 8 L (fun x _=>Nat.le_of_eq (ec x))
  have q2:=w_t pe 88 (S.mem.drop j) (fun x hx=>by
   obtain ⟨i,hi,e⟩:=List.getElem_of_mem (List.mem_of_mem_drop hx)
   rw[<-e];exact Nat.le_of_eq (v_P (KY i hi).1 (KY i hi).2.1))
  have q3:(S.mem.drop j).length<=12:=by rw[List.length_drop];omega
  unfold nT;rw[cd];have:(S.mem.drop j).length*88<=12*88:=Nat.mul_le_mul_right _ q3;have:L.length*8<=100*8:=Nat.mul_le_mul_right _ hL;omega
 have xV:=Zz OJ;have gD:=Zz KY;have aR:=Zz aJ;clear OJ KY aJ H0;obtain ⟨count,epoch,d,s,mem⟩:=S
 dsimp only at h3 h4 h5 h6 h7 h8 fE xV gD aR
 obtain ⟨n,hn⟩:∃n,mem.length=n:=⟨_,rfl⟩;have HN:=Zz hn;rw[hn] at h3 h4;have GE:Hid (lG ⟨count,epoch,d,s,mem⟩=d::s::0::0::0::(d+2)::(List.range (d+2)++[n])):=Zz (by rw[<-hn];rfl);clear hn;have fK:Hid (∀vs vm,dK ⟨count,epoch,d,s,mem⟩ vs vm=#[.int .u64 count,.int .u64 epoch,.int .i64 d,.int .i64 s,.int .i64 0,.int .i64 0,.bool false,vs,vm]):=Zz fun _ _=>rfl;have KW:Hid (∀W B vs vm,aH W B 3 vs (zv (List.range (d+2)))->W.ownsRow B 108 3 vm n (ds mem)->bg W B ⟨count,epoch,d,s,mem⟩ vs vm):=Zz fun W B vs vm I h2=>⟨I,by rw[<-HN.o] at h2;exact h2⟩;generalize hsp:bh ⟨count,epoch,d,s,mem⟩=rj at *;have r:=Zz (ab.new w 60 #[.int .u64 0,.int .u64 0,.int .i64 0,.int .i64 0,.int .i64 0,.int .i64 0,.bool false,.slice none 0 0,.slice none 0 0]);have aX:=Zz ((Kp.refl ac w).alloc (.cells #[.int .u64 0,.int .u64 0,.int .i64 0,.int .i64 0,.int .i64 0,.int .i64 0,.bool false,.slice none 0 0,.slice none 0 0] 60));clear hsp;go_enter func131,ntmps131
 go_upto_region 1 with fail
 generalize w.alloc (.cells #[.int .u64 0,.int .u64 0,.int .i64 0,.int .i64 0,.int .i64 0,.int .i64 0,.bool false,.slice none 0 0,.slice none 0 0] 60)=w1 at *;obtain ⟨M,vB⟩:∃M,w.heap.size=M:=⟨_,rfl⟩;rw[vB] at r ⊢;have vM:=Zz vB;clear vB;go_wp2_with fail;refine (eS.o w1).mono ?_;rintro e y2 ⟨rfl,hP,ae⟩;have p:=Zz hP;have am:=Zz (aX.o.trans ae);have ot:=Zz (r.o.kp ae fun h=>h);have Y:Hid (w.heap.size<=w1.heap.size):=Zz aX.o.size
 have GF:w1.heap.size≠M:=fun e=>by have:=r.o.lt;omega
 have X:=Zz GF;clear hP ae GF r aX eS;generalize w1.heap.size=P at *
 go_upto_region 3 with fail
 have g:=Zz (ab.new y2 60 #[.int .u64 0,.int .u64 0,.int .i64 0,.int .i64 0,.int .i64 0,.int .i64 0,.bool false,.slice none 0 0,.slice none 0 0]);have ap:=Zz (am.o.alloc (.cells #[.int .u64 0,.int .u64 0,.int .i64 0,.int .i64 0,.int .i64 0,.int .i64 0,.bool false,.slice none 0 0,.slice none 0 0] 60));have cW:=Zz (ot.o.alloc (.cells #[.int .u64 0,.int .u64 0,.int .i64 0,.int .i64 0,.int .i64 0,.int .i64 0,.bool false,.slice none 0 0,.slice none 0 0] 60));have fL:=Zz (p.o.alloc (.cells #[.int .u64 0,.int .u64 0,.int .i64 0,.int .i64 0,.int .i64 0,.int .i64 0,.bool false,.slice none 0 0,.slice none 0 0] 60));have o:Hid (y2.heap.size≠P/\y2.heap.size≠M/\w.heap.size<=y2.heap.size):=Zz ⟨fun e=>by have:=p.o.lt;omega,fun e=>by have:=ot.o.lt;omega,am.o.size⟩;clear am ot p;generalize y2.alloc (.cells #[.int .u64 0,.int .u64 0,.int .i64 0,.int .i64 0,.int .i64 0,.int .i64 0,.bool false,.slice none 0 0,.slice none 0 0] 60)=w3 at *;generalize y2.heap.size=G at *;rw[xV.o] at fL;have gX:=Zz (fE.o (lG ⟨count,epoch,d,s,mem⟩) 0 (by rw[GE.o];simp;omega));have yi:=Zz (xw.o w3 P count _ o_ (by rw[cd,ec];have:=gX.o;rw[List.drop_zero] at this;omega) fL.o);go_wp2_with fail;refine yi.o.mono ?_;rintro e w4 ⟨rfl,ia,ar⟩;have jI:=Zz ia;have bo:=g.o.kp ar fun e=>o.o.1 e;have ey:=Zz (cW.o.kp ar fun e=>X.o (Eq.symm e));have ay:=Zz (ap.o.then ar fun q l e=>(by have:=Y.o;have e:q=P:=e;omega:False));have H6:=bo.cell 0;have f0:=bo.frozen 0;have eL:=Zz ((Kp.refl (fun q=>q=G) w4).setCell ⟨G,0,none⟩ (.int .u64 count) (.inl rfl));have sH:Hid (ab (w4.setCell ⟨G,0,none⟩ (.int .u64 count)) G 60 #[.int .u64 count,.int .u64 0,.int .i64 0,.int .i64 0,.int .i64 0,.int .i64 0,.bool false,.slice none 0 0,.slice none 0 0]):=Zz (bo.set_ 0 (.int .u64 count));have eF:=Zz (jI.o.kp eL.o fun e=>o.o.1 (Eq.symm e));have sI:=Zz (ey.o.kp eL.o fun e=>o.o.2.1 (Eq.symm e));have ax:=Zz (ay.o.then eL.o fun q l e=>(by have:=o.o.2.2;have e:q=G:=e;omega:False));have rV:=Zz (xw.o _ P epoch _ o_ (by have:=gX.o;rw[List.drop_zero] at this;omega) eF.o);clear ia ar bo g cW ap fL yi
 go_upto_region 4 with fail
 clear H6 f0 jI ey ay eL;generalize w4.setCell ⟨G,0,none⟩ (.int .u64 count)=w5 at *;go_wp2_with fail;refine rV.o.mono ?_;rintro e w6 ⟨rfl,fy,E⟩;have y0:=Zz fy;have sJ:=sH.o.kp E fun e=>o.o.1 e;have x8:=Zz (sI.o.kp E fun e=>X.o (Eq.symm e));have x7:=Zz (ax.o.then E fun q l e=>(by have:=Y.o;have e:q=P:=e;omega:False));have H6:=sJ.cell 1;have f0:=sJ.frozen 1;have Dq:=Zz ((Kp.refl (fun q=>q=G) w6).setCell ⟨G,1,none⟩ (.int .u64 epoch) (.inl rfl));have GG:Hid (ab (w6.setCell ⟨G,1,none⟩ (.int .u64 epoch)) G 60 #[.int .u64 count,.int .u64 epoch,.int .i64 0,.int .i64 0,.int .i64 0,.int .i64 0,.bool false,.slice none 0 0,.slice none 0 0]):=Zz (sJ.set_ 1 (.int .u64 epoch));have fM:=Zz (y0.o.kp Dq.o fun e=>o.o.1 (Eq.symm e));have sK:=Zz (x8.o.kp Dq.o fun e=>o.o.2.1 (Eq.symm e));have bH:=Zz (x7.o.then Dq.o fun q l e=>(by have:=o.o.2.2;have e:q=G:=e;omega:False));clear fy E sJ sH sI ax eF rV
 go_upto_region 5 with fail
 clear H6 f0 y0 x8 x7 Dq;generalize w6.setCell ⟨G,1,none⟩ (.int .u64 epoch)=w7 at *
 go_upto_region 6 with fail
 rw[GE.o] at fM;have fM:Hid (ab w7 P 317 (Rd.cs (nT (([d,s,0,0]:List Nat).drop 0++(0::(d+2)::(List.range (d+2)++[n]))) mem,0))):=fM
 have x6:Hid (∀L:List Nat,L.length<=100->(nT L mem).length<=800000):=Zz fun L hL=>by have:=fE.o L 0 hL;rwa [List.drop_zero] at this
 go_loopw [7,21] (fun _ em wr=>∃i:Nat,i<=4/\em=.int .i64 i/\Hid (ab wr P 317 (Rd.cs (nT (([d,s,0,0]:List Nat).drop i++(0::(d+2)::(List.range (d+2)++[n]))) mem,0)))/\Hid (ab wr G 60 #[.int .u64 count,.int .u64 epoch,.int .i64 (if 1<=i then (d:Int) else 0),.int .i64 (if 2<=i then (s:Int) else 0),.int .i64 0,.int .i64 0,.bool false,.slice none 0 0,.slice none 0 0])/\Hid (ab wr M 60 #[.int .u64 0,.int .u64 0,.int .i64 0,.int .i64 0,.int .i64 0,.int .i64 0,.bool false,.slice none 0 0,.slice none 0 0])/\Hid (Kp ac w wr)) (fun _ em _=>4-(intOf em).toNat)
 case atStart=>exact ⟨0,o_,rfl,fM,GG,sK,bH⟩
 case round =>
  clear fM GG sK bH;obtain ⟨i,hi,rfl,p,g,r,t⟩:=hrel
  match i,hi with
  | 0,_ =>
   obtain ⟨eN,ff,fB,kC⟩:=Dl G wr;have g:Hid (ab wr G 60 #[.int .u64 count,.int .u64 epoch,.int .i64 0,.int .i64 0,.int .i64 0,.int .i64 0,.bool false,.slice none 0 0,.slice none 0 0]):=g;have a:=Zz (x0.o wr P d 17 (nT (([s,0,0]:List Nat)++(0::(d+2)::(List.range (d+2)++[n]))) mem) o_ d_ (cL (x6.o _ (by simp;omega)) d_) (by have:=p.o;rw[<-v_o];exact this));go_wp2_with fail;refine a.o.mono ?_;rintro e N ⟨rfl,O,y⟩;have h9:=Zz O;have z:=g.o.kp y fun e=>o.o.1 e;have H2:=Zz (r.o.kp y fun e=>X.o (Eq.symm e));have H:=Zz (t.o.then y fun q l e=>(by have:=Y.o;have e:q=P:=e;omega:False));have H6:=z.cell 2;have f0:=z.frozen 2;have b:=Zz ((Kp.refl (fun q=>q=G) N).setCell ⟨G,2,none⟩ (.int .i64 d) (.inl rfl));have H3:Hid (ab (N.setCell ⟨G,2,none⟩ (.int .i64 d)) G 60 #[.int .u64 count,.int .u64 epoch,.int .i64 d,.int .i64 0,.int .i64 0,.int .i64 0,.bool false,.slice none 0 0,.slice none 0 0]):=Zz (z.set_ 2 (.int .i64 d));have H1:=Zz (h9.o.kp b.o fun e=>o.o.1 (Eq.symm e));have H4:=Zz (H2.o.kp b.o fun e=>o.o.2.1 (Eq.symm e));have F:=Zz (H.o.then b.o fun q l e=>(by have:=o.o.2.2;have e:q=G:=e;omega:False));clear O y z a p g r t;go_wp2;go_roundw
   case rel=>exact ⟨1,o_,by go_num,H1,H3,H4,F⟩
   case measure=>simp[intOf]
  | 1,_ =>
   obtain ⟨eN,ff,fB,kC⟩:=Dl G wr;have g:Hid (ab wr G 60 #[.int .u64 count,.int .u64 epoch,.int .i64 d,.int .i64 0,.int .i64 0,.int .i64 0,.bool false,.slice none 0 0,.slice none 0 0]):=g;have a:=Zz (x0.o wr P s 17 (nT (([0,0]:List Nat)++(0::(d+2)::(List.range (d+2)++[n]))) mem) o_ d_ (cL (x6.o _ (by simp;omega)) d_) (by have:=p.o;rw[<-v_o];exact this));go_wp2_with fail;refine a.o.mono ?_;rintro e N ⟨rfl,O,y⟩;have h9:=Zz O;have z:=g.o.kp y fun e=>o.o.1 e;have H2:=Zz (r.o.kp y fun e=>X.o (Eq.symm e));have H:=Zz (t.o.then y fun q l e=>(by have:=Y.o;have e:q=P:=e;omega:False));have H6:=z.cell 3;have f0:=z.frozen 3;have b:=Zz ((Kp.refl (fun q=>q=G) N).setCell ⟨G,3,none⟩ (.int .i64 s) (.inl rfl));have H3:Hid (ab (N.setCell ⟨G,3,none⟩ (.int .i64 s)) G 60 #[.int .u64 count,.int .u64 epoch,.int .i64 d,.int .i64 s,.int .i64 0,.int .i64 0,.bool false,.slice none 0 0,.slice none 0 0]):=Zz (z.set_ 3 (.int .i64 s));have H1:=Zz (h9.o.kp b.o fun e=>o.o.1 (Eq.symm e));have H4:=Zz (H2.o.kp b.o fun e=>o.o.2.1 (Eq.symm e));have F:=Zz (H.o.then b.o fun q l e=>(by have:=o.o.2.2;have e:q=G:=e;omega:False));clear O y z a p g r t;go_wp2;go_roundw
   case rel=>exact ⟨2,o_,by go_num,H1,H3,H4,F⟩
   case measure=>simp[intOf]
  | 2,_ =>
   obtain ⟨eN,ff,fB,kC⟩:=Dl G wr;have g:Hid (ab wr G 60 #[.int .u64 count,.int .u64 epoch,.int .i64 d,.int .i64 s,.int .i64 0,.int .i64 0,.bool false,.slice none 0 0,.slice none 0 0]):=g;have a:=Zz (x0.o wr P 0 17 (nT (([0]:List Nat)++(0::(d+2)::(List.range (d+2)++[n]))) mem) o_ d_ (cL (x6.o _ (by simp;omega)) d_) (by have:=p.o;rw[<-v_o];exact this));go_wp2_with fail;refine a.o.mono ?_;rintro e N ⟨rfl,O,y⟩;have h9:=Zz O;have z:=g.o.kp y fun e=>o.o.1 e;have H2:=Zz (r.o.kp y fun e=>X.o (Eq.symm e));have H:=Zz (t.o.then y fun q l e=>(by have:=Y.o;have e:q=P:=e;omega:False));have H6:=z.cell 4;have f0:=z.frozen 4;have b:=Zz ((Kp.refl (fun q=>q=G) N).setCell ⟨G,4,none⟩ (.int .i64 0) (.inl rfl));have H3:Hid (ab (N.setCell ⟨G,4,none⟩ (.int .i64 0)) G 60 #[.int .u64 count,.int .u64 epoch,.int .i64 d,.int .i64 s,.int .i64 0,.int .i64 0,.bool false,.slice none 0 0,.slice none 0 0]):=Zz (z.set_ 4 (.int .i64 0));have H1:=Zz (h9.o.kp b.o fun e=>o.o.1 (Eq.symm e));have H4:=Zz (H2.o.kp b.o fun e=>o.o.2.1 (Eq.symm e));have F:=Zz (H.o.then b.o fun q l e=>(by have:=o.o.2.2;have e:q=G:=e;omega:False));clear O y z a p g r t;go_wp2;go_roundw
   case rel=>exact ⟨3,o_,by go_num,H1,H3,H4,F⟩
   case measure=>simp[intOf]
  | 3,_ =>
   obtain ⟨eN,ff,fB,kC⟩:=Dl G wr;have g:Hid (ab wr G 60 #[.int .u64 count,.int .u64 epoch,.int .i64 d,.int .i64 s,.int .i64 0,.int .i64 0,.bool false,.slice none 0 0,.slice none 0 0]):=g;have a:=Zz (x0.o wr P 0 17 (nT (([]:List Nat)++(0::(d+2)::(List.range (d+2)++[n]))) mem) o_ d_ (cL (x6.o _ (by simp;omega)) d_) (by have:=p.o;rw[<-v_o];exact this));go_wp2_with fail;refine a.o.mono ?_;rintro e N ⟨rfl,O,y⟩;have h9:=Zz O;have z:=g.o.kp y fun e=>o.o.1 e;have H2:=Zz (r.o.kp y fun e=>X.o (Eq.symm e));have H:=Zz (t.o.then y fun q l e=>(by have:=Y.o;have e:q=P:=e;omega:False));have H6:=z.cell 5;have f0:=z.frozen 5;have b:=Zz ((Kp.refl (fun q=>q=G) N).setCell ⟨G,5,none⟩ (.int .i64 0) (.inl rfl));have H3:Hid (ab (N.setCell ⟨G,5,none⟩ (.int .i64 0)) G 60 #[.int .u64 count,.int .u64 epoch,.int .i64 d,.int .i64 s,.int .i64 0,.int .i64 0,.bool false,.slice none 0 0,.slice none 0 0]):=Zz (z.set_ 5 (.int .i64 0));have H1:=Zz (h9.o.kp b.o fun e=>o.o.1 (Eq.symm e));have H4:=Zz (H2.o.kp b.o fun e=>o.o.2.1 (Eq.symm e));have F:=Zz (H.o.then b.o fun q l e=>(by have:=o.o.2.2;have e:q=G:=e;omega:False));clear O y z a p g r t;go_wp2;go_roundw
   case rel=>exact ⟨4,o_,by go_num,H1,H3,H4,F⟩
   case measure=>simp[intOf]
  | 4,_ =>
   have g:Hid (ab wr G 60 #[.int .u64 count,.int .u64 epoch,.int .i64 d,.int .i64 s,.int .i64 0,.int .i64 0,.bool false,.slice none 0 0,.slice none 0 0]):=g;have a:=Zz (x0.o wr P 0 2 (nT ((d+2)::(List.range (d+2)++[n])) mem) d_ d_ (cL (x6.o _ (by simp;omega)) d_) (by have:=p.o;rw[<-v_o];exact this));go_wp2_with fail;refine a.o.mono ?_;rintro e N ⟨rfl,O,y⟩;have h9:=Zz O;have z:=g.o.kp y fun e=>o.o.1 e;have H2:=Zz (r.o.kp y fun e=>X.o (Eq.symm e));have H:=Zz (t.o.then y fun q l e=>(by have:=Y.o;have e:q=P:=e;omega:False));have H6:=z.cell 6;have f0:=z.frozen 6;have b:=Zz ((Kp.refl (fun q=>q=G) N).setCell ⟨G,6,none⟩ (.bool false) (.inl rfl));have H3:Hid (ab (N.setCell ⟨G,6,none⟩ (.bool false)) G 60 #[.int .u64 count,.int .u64 epoch,.int .i64 d,.int .i64 s,.int .i64 0,.int .i64 0,.bool false,.slice none 0 0,.slice none 0 0]):=Zz (z.set_ 6 (.bool false));have H1:=Zz (h9.o.kp b.o fun e=>o.o.1 (Eq.symm e));have H4:=Zz (H2.o.kp b.o fun e=>o.o.2.1 (Eq.symm e));have F:=Zz (H.o.then b.o fun q l e=>(by have:=o.o.2.2;have e:q=G:=e;omega:False));clear O y z a p g r t
   go_upto_region 11 with fail
   clear H6 f0 h9 H2 H b;generalize N.setCell ⟨G,6,none⟩ (.bool false)=w9 at *;have kj:=Zz (x0.o w9 P (d+2) 13 (nT (List.range (d+2)++[n]) mem) o_ d_ (cL (x6.o _ (by simp;omega)) d_) (by have:=H1.o;rw[<-v_o];exact this));obtain ⟨m,hm⟩:∃m,d+2=m:=⟨_,rfl⟩;rw[hm] at kj KW h3;have HM:=Zz hm;clear hm;go_wp2_with fail;refine kj.o.mono ?_;rintro e bY ⟨rfl,pO,bZ⟩;have jr:Hid (ab bY P 317 (Rd.cs (nT ((List.range m).drop 0++[n]) mem,0))):=Zz pO;have yj:=Zz (H3.o.kp bZ fun e=>o.o.1 e);have yk:=Zz (H4.o.kp bZ fun e=>X.o (Eq.symm e));have bW:=Zz (F.o.then bZ fun q l e=>(by have:=Y.o;have e:q=P:=e;omega:False));have dh:Hid (aH bY w.heap.size 3 (.slice none 0 0) (zv (List.range 0))):=Zz (aH.nil_ _ _ _);clear pO bZ H1 H3 H4 F kj
   go_upto_region 12 with fail
   go_loopw [35] (fun vN wr=>∃i:Nat,i<=m/\vN=.int .i64 i/\Hid (∃C,aH wr w.heap.size 3 C (zv (List.range i))/\ab wr G 60 #[.int .u64 count,.int .u64 epoch,.int .i64 d,.int .i64 s,.int .i64 0,.int .i64 0,.bool false,C,.slice none 0 0])/\Hid (ab wr P 317 (Rd.cs (nT ((List.range m).drop i++[n]) mem,0)))/\Hid (ab wr M 60 #[.int .u64 0,.int .u64 0,.int .i64 0,.int .i64 0,.int .i64 0,.int .i64 0,.bool false,.slice none 0 0,.slice none 0 0])/\Hid (Kp ac w wr)) (fun vN _=>m-(intOf vN).toNat)
   case atStart=>exact ⟨0,o_,rfl,Zz ⟨_,dh.o,yj.o⟩,jr,yk,bW⟩
   case round =>
    clear dh yj jr yk bW;obtain ⟨i,hi,rfl,yf,p,r,t⟩:=hrel;obtain ⟨C,rk,y7⟩:=yf.o;have g:=Zz y7.drew;have f:=Zz rk;clear rk y7 yf;by_cases af:i<m
    ·have bL:(i:Int)<(m:Int):=o_
     have hm6:m<=6:=by have:=HM.o;omega
     have a:=Zz (fun W hB=>x0.o W P i 12 (nT ((List.range m).drop (i+1)++[n]) mem) o_ d_ (cL (x6.o _ (by simp;omega)) d_) hB)
     have p:Hid (ab wr.drew P 317 (Rd.cs (bQ i++nT ((List.range m).drop (i+1)++[n]) mem,0))):=Zz (by
      have I:=p.o;rw[JN af,List.cons_append,v_o] at I
      exact I)
     have f:Hid (aH wr.drew w.heap.size 3 C (zv (List.range i))):=f;have r:Hid (ab wr.drew M 60 #[.int .u64 0,.int .u64 0,.int .i64 0,.int .i64 0,.int .i64 0,.int .i64 0,.bool false,.slice none 0 0,.slice none 0 0]):=r;have t:=Zz t.o.drew
     go_upto_region 13 with fail
     refine fs ?_;generalize wr.drew=fN at *;have c7:=g.o.c7;refine fp 0 ?_;refine cw 1 c7 ?_;refine fp 2 ?_;refine fd 3 fun K y5 J=>?_;go_simp;refine (a.o _ p.o).mono ?_;rintro e iN ⟨rfl,pP,y6⟩;have GH:=Zz pP;have sL:=Zz (g.o.kp y6 fun e=>o.o.1 e);have yl:=Zz (r.o.kp y6 fun e=>X.o (Eq.symm e));have de:=Zz (t.o.then y6 fun q l e=>(by have:=Y.o;have e:q=P:=e;omega:False))
     have GI:=Zz (f.o.kp y6 fun q l e=>by
      obtain ⟨cs,hb⟩:=Sz f.o l;have e:q=P:=e;subst e
      exact ab.ne_ hb p.o d_ rfl)
     refine J _ _ (oK (sL.o.cell 7) oN) ?_;clear J K c7 pP y6 p g r t f;refine fd 4 fun K y5 J=>?_;go_simp;have x4:=Zz (GH.o.alloc (.cells #[.int .i64 i] 3));have H9:=Zz (sL.o.alloc (.cells #[.int .i64 i] 3));have x5:=Zz (yl.o.alloc (.cells #[.int .i64 i] 3));have x3:=Zz (de.o.alloc (.cells #[.int .i64 i] 3));have h1:=Zz (GI.o.alloc (.cells #[.int .i64 i] 3));have y9:Hid (b_ (iN.alloc (.cells #[.int .i64 i] 3)) (.slice (some ⟨iN.heap.size,0,none⟩) 1 1) [.int .i64 i]):=Zz (S8 iN #[.int .i64 i] 3 (by simp[maxLen]));refine J _ _ (oK (H9.o.cell 7) oN) ?_;clear J K GH sL yl de GI;generalize iN.alloc (.cells #[.int .i64 i] 3)=gh at *;refine Dj 5 rfl rfl k_ ?_;refine x_2 rfl underlying57 rs rfl d_ rfl rfl (fun u hu=>by simp at hu;subst hu;rfl) h1.o y9.o (by show 0<1;decide) x3.o.size (by rw[iF,zH];show (i+1)*8<=140737488355328;omega) ?_;intro v1 mp H8 hg
     have hz:zv (List.range i)++[.int .i64 i]=zv (List.range (i+1)):=by rw[List.range_succ];simp[zv]
     rw[hz] at H8;have T:Kp (fun q=>some q=C.ownBlock) gh mp:=Kp.of_grown hg fun _ h=>h;have mV:=Zz (H9.o.kp T fun h=>hH h1.o H9.o d_ h.symm);have GJ:=Zz (x4.o.kp T fun h=>hH h1.o x4.o d_ h.symm);have ym:=Zz (x5.o.kp T fun h=>hH h1.o x5.o d_ h.symm);have ly:=Zz (x3.o.then T fun q l h=>(by have:=(h1.o.lt q h.symm).1;omega:False));have Bg:=Zz H8;refine ⟨oW oN,?_⟩
     obtain ⟨Q,R,rfl⟩:∃A c,v1=.slice A (i+1) c:=by
      obtain ⟨A,c,e⟩:=H8.shape;exact ⟨A,c,by rw[e,iF,zH]⟩
     clear H8 hg T hz h1 H9 x4 x5 x3 y9;have c7:=mV.o.c7;have f7:=mV.o.frozen 7;refine fp 6 ?_;refine fd 7 fun K y5 J=>?_;go_simp;refine J _ _ (oW oN) ?_;clear J K;refine fe ?_;have E:=(Kp.refl (fun q=>q=G) mp).setCell ⟨G,7,none⟩ (.slice Q (i+1) R) (.inl rfl);have y8:ab (mp.setCell ⟨G,7,none⟩ (.slice Q (i+1) R)) G 60 #[.int .u64 count,.int .u64 epoch,.int .i64 d,.int .i64 s,.int .i64 0,.int .i64 0,.bool false,.slice Q (i+1) R,.slice none 0 0]:=mV.o.set_ 7 (.slice Q (i+1) R);have ve:=Bg.o.kp E fun q l e=>hH Bg.o mV.o d_ (l.trans (congrArg some e));have oq:Hid (∃C,aH (mp.setCell ⟨G,7,none⟩ (.slice Q (i+1) R)) w.heap.size 3 C (zv (List.range (i+1)))/\ab (mp.setCell ⟨G,7,none⟩ (.slice Q (i+1) R)) G 60 #[.int .u64 count,.int .u64 epoch,.int .i64 d,.int .i64 s,.int .i64 0,.int .i64 0,.bool false,C,.slice none 0 0]):=Zz ⟨_,ve,y8⟩;have y0:=Zz (GJ.o.kp E fun e=>o.o.1 (Eq.symm e));have x8:=Zz (ym.o.kp E fun e=>o.o.2.1 (Eq.symm e));have x7:=Zz (ly.o.then E fun q l e=>(by have:=o.o.2.2;have e:q=G:=e;omega:False));clear E y8 ve c7 f7 mV GJ ym ly Bg;go_wp2;go_roundw
     case rel=>exact ⟨i+1,o_,by go_num,oq,y0,x8,x7⟩
     case measure=>simp[intOf];omega
    obtain rfl:i=m:=o_
    have p:Hid (ab wr P 317 (Rd.cs (bQ n++nT [] (mem.drop 0),0))):=Zz (by
     have I:=p.o;rw[List.drop_of_length_le s_,List.nil_append,v_o] at I
     exact I)
    have f:Hid (aH wr w.heap.size 3 C (zv (List.range i))):=f;have g:Hid (ab wr G 60 #[.int .u64 count,.int .u64 epoch,.int .i64 d,.int .i64 s,.int .i64 0,.int .i64 0,.bool false,C,.slice none 0 0]):=g;have a:=Zz (x0.o wr P n 13 (nT [] (mem.drop 0)) o_ d_ (cL (fE.o [] 0 d_) d_) p.o);go_wp2_with fail;refine a.o.mono ?_;rintro e pM ⟨rfl,gN,sM⟩;have GK:=Zz gN;have yo:=Zz (g.o.kp sM fun e=>o.o.1 e);have yp:=Zz (r.o.kp sM fun e=>X.o (Eq.symm e));have GL:=Zz (t.o.then sM fun q l e=>(by have:=Y.o;have e:q=P:=e;omega:False))
    have oo:=Zz (f.o.kp sM fun q l e=>by
     obtain ⟨cs,hb⟩:=Sz f.o l;have e:q=P:=e;subst e
     exact ab.ne_ hb p.o d_ rfl)
    have mf:Hid (pM.ownsRow w.heap.size 108 3 (.slice none 0 0) 0 (ds (mem.take 0))):=Zz (World.ownsRow_nil _ _ _ _)
    obtain ⟨U,Z,rfl⟩:∃A c,C=.slice A i c:=by
     obtain ⟨A,c,e⟩:=oo.o.shape;exact ⟨A,c,by rw[e,iF,zH]⟩
    clear gN sM p g r t f a
    go_upto_region 16 with fail
    go_loopw [47] (fun GM wr=>∃j:Nat,j<=n/\GM=.int .i64 j/\Hid (∃H5,wr.ownsRow w.heap.size 108 3 H5 j (ds (mem.take j))/\ab wr G 60 #[.int .u64 count,.int .u64 epoch,.int .i64 d,.int .i64 s,.int .i64 0,.int .i64 0,.bool false,.slice U i Z,H5])/\Hid (aH wr w.heap.size 3 (.slice U i Z) (zv (List.range i)))/\Hid (ab wr P 317 (Rd.cs (nT [] (mem.drop j),0)))/\Hid (ab wr M 60 #[.int .u64 0,.int .u64 0,.int .i64 0,.int .i64 0,.int .i64 0,.int .i64 0,.bool false,.slice none 0 0,.slice none 0 0])/\Hid (Kp ac w wr)) (fun GM _=>n-(intOf GM).toNat)
    case atStart=>exact ⟨0,o_,rfl,Zz ⟨_,mf.o,yo.o⟩,oo,GK,yp,GL⟩
    case round =>
     clear mf yo oo GK yp GL;obtain ⟨j,hj,rfl,yf,f,TJ,r,t⟩:=hrel;obtain ⟨H5,qw,y7⟩:=yf.o;have g:=Zz y7;have D:=Zz qw;clear qw y7 yf;by_cases af:j<n
     ·have bL:(j:Int)<(n:Int):=o_
      have V:j<mem.length:=by rw[HN.o];exact af
      have a:=Zz (fun W hB=>vL.o W P (mem[j]'V) (aR.o j V) (gD.o j V).1 (gD.o j V).2.1 (nT [] (mem.drop (j+1))) (cL (fE.o [] (j+1) d_) d_) hB)
      have p:Hid (ab wr.drew P 317 (Rd.cs (pe (mem[j]'V)++nT [] (mem.drop (j+1)),0))):=Zz (by
       have I:=TJ.o;rw[List.drop_eq_getElem_cons V,nT_mem] at I
       exact I)
      have nY:Hid (ds (mem.take (j+1))=ds (mem.take j)++[.int .i64 ((mem[j]'V).st:Int),.string (mem[j]'V).top,.string (mem[j]'V).log]):=Zz (by
       rw[mx V,z_ai];rfl)
      obtain ⟨⟨xs,xt,x1⟩,hx⟩:∃x,mem[j]'V=x:=⟨_,rfl⟩;rw[hx] at a nY p
      dsimp only at a nY
      clear hx;have D:Hid (wr.drew.ownsRow w.heap.size 108 3 H5 j (ds (mem.take j))):=D;have g:Hid (ab wr.drew G 60 #[.int .u64 count,.int .u64 epoch,.int .i64 d,.int .i64 s,.int .i64 0,.int .i64 0,.bool false,.slice U i Z,H5]):=g;have f:Hid (aH wr.drew w.heap.size 3 (.slice U i Z) (zv (List.range i))):=f;have r:Hid (ab wr.drew M 60 #[.int .u64 0,.int .u64 0,.int .i64 0,.int .i64 0,.int .i64 0,.int .i64 0,.bool false,.slice none 0 0,.slice none 0 0]):=r;have t:=Zz t.o.drew
      go_upto_region 17 with fail
      refine fs ?_;generalize wr.drew=Ed at *;have h0:=g.o.c8;refine fp 0 ?_;refine cw 1 h0 ?_;refine fp 2 ?_;refine fd 3 fun K y5 J=>?_;go_simp;refine (a.o _ p.o).mono ?_;rintro e TK ⟨rfl,rJ,y1⟩;have GN:=Zz rJ;have sO:=Zz (g.o.kp y1 fun e=>o.o.1 e);have yq:=Zz (r.o.kp y1 fun e=>X.o (Eq.symm e));have GO:=Zz (t.o.then y1 fun q l e=>(by have:=Y.o;have e:q=P:=e;omega:False))
      have GP:=Zz (f.o.kp y1 fun q l e=>by
       obtain ⟨cs,hb⟩:=Sz f.o l;have e:q=P:=e;subst e
       exact ab.ne_ hb p.o d_ rfl)
      have GQ:=Zz (dL D.o y1 fun q l e=>by
       obtain ⟨cs,hb⟩:=fj D.o l;have e:q=P:=e;subst e
       exact ab.ne_ hb p.o d_ rfl)
      refine J _ _ (oK (sO.o.cell 8) oN) ?_;clear J K h0 rJ y1 p g r t f D;refine fd 4 fun K y5 J=>?_;go_simp;have x4:=Zz (GN.o.alloc (.cells #[.int .i64 xs,.string xt,.string x1] 108));have H9:=Zz (sO.o.alloc (.cells #[.int .i64 xs,.string xt,.string x1] 108));have x5:=Zz (yq.o.alloc (.cells #[.int .i64 xs,.string xt,.string x1] 108));have x3:=Zz (GO.o.alloc (.cells #[.int .i64 xs,.string xt,.string x1] 108));have h1:=Zz (GP.o.alloc (.cells #[.int .i64 xs,.string xt,.string x1] 108));have x2:=Zz (World.ownsRow.alloc GQ.o (.cells #[.int .i64 xs,.string xt,.string x1] 108));have y9:=Zz (v_B TK 108 3 [.int .i64 xs,.string xt,.string x1] rfl d_);refine J _ _ (oK (H9.o.cell 8) oN) ?_;clear J K GN sO yq GO GP GQ;generalize TK.alloc (.cells #[.int .i64 xs,.string xt,.string x1] 108)=YR at *;refine Dj 5 rfl rfl k_ ?_;refine v_v (m:=1) (k:=j) rfl underlying58 CO rfl d_ d_ rfl rfl (fun u hu=>by simp at hu;rcases hu with rfl|rfl|rfl<;>rfl) x2.o y9.o d_ x3.o.size o_ ?_;intro v1 y4 H8 hg;rw[<-nY.o] at H8;have T:Kp (fun q=>some q=H5.ownBlock) YR y4:=Kp.of_grown hg fun _ h=>h;have x9:=Zz (H9.o.kp T fun h=>hH x2.o H9.o d_ h.symm);have GS:=Zz (x4.o.kp T fun h=>hH x2.o x4.o d_ h.symm);have yr:=Zz (x5.o.kp T fun h=>hH x2.o x5.o d_ h.symm)
      have Bi:=Zz (h1.o.kp T fun q l h=>by
       obtain ⟨cs,hb⟩:=Sz h1.o l
       exact hH x2.o hb d_ h.symm)
      have GT:=Zz (x3.o.then T fun q l h=>(by have:=(iZ x2.o h.symm).1;omega:False));have Bj:=Zz H8;refine ⟨oW oN,?_⟩;obtain ⟨Q,R,rfl⟩:=lM H8;clear H8 hg T x2 H9 x4 x5 x3 y9 h1;have h0:=x9.o.c8;have f8:=x9.o.frozen 8;refine fp 6 ?_;refine fd 7 fun K y5 J=>?_;go_simp;refine J _ _ (oW oN) ?_;clear J K;refine fe ?_;have E:=(Kp.refl (fun q=>q=G) y4).setCell ⟨G,8,none⟩ (.slice Q (j+1) R) (.inl rfl);have y8:ab (y4.setCell ⟨G,8,none⟩ (.slice Q (j+1) R)) G 60 #[.int .u64 count,.int .u64 epoch,.int .i64 d,.int .i64 s,.int .i64 0,.int .i64 0,.bool false,.slice U i Z,.slice Q (j+1) R]:=x9.o.set_ 8 (.slice Q (j+1) R);have GU:=dL Bj.o E fun q l e=>hH Bj.o x9.o d_ (l.trans (congrArg some e));have oq:Hid (∃H5,(y4.setCell ⟨G,8,none⟩ (.slice Q (j+1) R)).ownsRow w.heap.size 108 3 H5 (j+1) (ds (mem.take (j+1)))/\ab (y4.setCell ⟨G,8,none⟩ (.slice Q (j+1) R)) G 60 #[.int .u64 count,.int .u64 epoch,.int .i64 d,.int .i64 s,.int .i64 0,.int .i64 0,.bool false,.slice U i Z,H5]):=Zz ⟨_,GU,y8⟩
      have dV:=Zz (Bi.o.kp E fun q l e=>by
       obtain ⟨cs,hb⟩:=Sz Bi.o l;have e:q=G:=e;subst e
       exact ab.ne_ hb x9.o d_ rfl)
      have y0:=Zz (GS.o.kp E fun e=>o.o.1 (Eq.symm e));have x8:=Zz (yr.o.kp E fun e=>o.o.2.1 (Eq.symm e));have x7:=Zz (GT.o.then E fun q l e=>(by have:=o.o.2.2;have e:q=G:=e;omega:False));clear E y8 GU h0 f8 x9 GS yr GT Bj Bi;go_wp2;go_roundw
      case rel=>exact ⟨j+1,o_,by go_num,oq,dV,y0,x8,x7⟩
      case measure=>simp[intOf];omega
     obtain rfl:j=n:=o_
     have p:Hid (ab wr P 317 (Rd.cs ([],0))):=Zz (by
      have I:=TJ.o;rw[List.drop_of_length_le (Nat.le_of_eq HN.o)] at I
      exact I)
     have D:Hid (wr.ownsRow w.heap.size 108 3 H5 j (ds mem)):=Zz (by
      have I:=D.o
      rwa [kx (Nat.le_of_eq HN.o)] at I)
     obtain ⟨y3,h0,rfl⟩:=lM D.o;have gM:=Zz (KW.o wr w.heap.size _ _ f.o D.o);have HD:Hid (Cl 180 #[.pointer (some ⟨P,0,none⟩)] wr fun e w'=>e=.returned (.int .i64 0)/\w'=wr):=Zz (Bf.o wr P p.o)
     have iy:Hid (Cl 108 #[.agg #[.int .u64 count,.int .u64 epoch,.int .i64 d,.int .i64 s,.int .i64 0,.int .i64 0,.bool false,.slice U i Z,.slice y3 j h0]] wr fun e w'=>e=.returned (.bool true)/\Kp ac wr w'):=Zz (by
      have I:=po.o wr _ _ gM.o.reads
      rwa [fK.o] at I)
     clear p D f;have g:Hid (ab wr G 60 #[.int .u64 count,.int .u64 epoch,.int .i64 d,.int .i64 s,.int .i64 0,.int .i64 0,.bool false,.slice U i Z,.slice y3 j h0]):=g;have k0:=g.o.c0;have k1:=g.o.c1;have k2:=g.o.c2;have k3:=g.o.c3;have k4:=g.o.c4;have k5:=g.o.c5;have k6:=g.o.c6;have k7:=g.o.c7;have k8:=g.o.c8;go_wp2_with fail;refine HD.o.mono ?_;rintro e kJ ⟨rfl,rfl⟩;go_wp2_with fail;refine iy.o.mono ?_;rintro e rl ⟨rfl,fO⟩;have H7:=Zz (g.o.kp fO fun h=>h);have sP:=Zz (r.o.kp fO fun h=>h);have sQ:=Zz (t.o.trans fO);have Bl:=Zz (gM.o.no fO);clear fO g r t gM HD iy k0 k1 k2 k3 k4 k5 k6 k7 k8;have k0:=H7.o.c0;have k1:=H7.o.c1;have k2:=H7.o.c2;have k3:=H7.o.c3;have k4:=H7.o.c4;have k5:=H7.o.c5;have k6:=H7.o.c6;have k7:=H7.o.c7;have k8:=H7.o.c8;have jq:(prog.info? 60).map (·.size)=some 9:=k_
     have aF:(#[.int .u64 count,.int .u64 epoch,.int .i64 d,.int .i64 s,.int .i64 0,.int .i64 0,.bool false,.slice U i Z,.slice y3 j h0]:Array Value).all (·.oneCell')=true:=by simp[Value.oneCell']
     go_wp2_with (refine wpList_store_row rfl 60 (.tmp 2) (.tmp 66) rfl M _ rfl rfl 60 _ sP.o jq rfl aF ?_)
     have vF:=sP.o.setRow (cs':=#[.int .u64 count,.int .u64 epoch,.int .i64 d,.int .i64 s,.int .i64 0,.int .i64 0,.bool false,.slice U i Z,.slice y3 j h0]);have aI:Kp (fun q=>q=M) rl (rl.setRow M #[.int .u64 count,.int .u64 epoch,.int .i64 d,.int .i64 s,.int .i64 0,.int .i64 0,.bool false,.slice U i Z,.slice y3 j h0]):=(Kp.refl _ rl).setRow M _ (.inl rfl);refine bodyPost_ret (x_X rfl rfl vF underlying60 rfl jq) rfl ?_
     have aD:∀v e xs k sz,rl.ownsRow w.heap.size e sz v k xs->e≠60->∀q,v.ownBlock=some q->¬q=M:=fun v e xs k sz h he q l e2=>by
      obtain ⟨cs,hb⟩:=fj h l;subst e2;exact ab.ne_ hb sP.o he rfl
     exact ⟨_,_,by rw[fK.o];rfl,Bl.o.kp aI (aD _ _ _ _ _ Bl.o.seats d_) (aD _ _ _ _ _ Bl.o.mems d_),sQ.o.then aI fun q l e=>(by have:=vM.o;have e:q=M:=e;omega:False)⟩
def supZ:Value:=.agg #[.int .u64 0,.int .u64 0,.int .i64 0,.int .i64 0,.int .i64 0,.int .i64 0,.bool false,.slice none 0 0,.slice none 0 0]
def JZ (w:W_) :
  Cl 131 #[.string (bs [])] w fun e w'=>e=.returned (.tuple #[supZ,.int .i64 4])/\Kp ac w w':=by
 have h4:=Zz (fun W=>jl W []);have x4:Hid (∀W P,ab W P 317 (Rd.cs ([],0))->Cl 183 #[.pointer (some ⟨P,0,none⟩)] W fun e w'=>e=.returned (.int .u64 0)/\ab w' P 317 (Rd.cs ([],3))/\Kp (·=P) W w'):=Zz fun W P N=>v_X W P ([],0) d_ N;have H8:Hid (∀W P,ab W P 317 (Rd.cs ([],3))->Cl 183 #[.pointer (some ⟨P,0,none⟩)] W fun e w'=>e=.returned (.int .u64 0)/\ab w' P 317 (Rd.cs ([],3))/\Kp (·=P) W w'):=Zz fun W P N=>v_X W P ([],3) d_ N
 have M:Hid (∀W P (b:Nat),1<=b->b<=1000->ab W P 317 (Rd.cs ([],3))->Cl 179 #[.pointer (some ⟨P,0,none⟩),.int .i64 b] W fun e w'=>e=.returned (.int .i64 0)/\ab w' P 317 (Rd.cs ([],3))/\Kp (·=P) W w'):=Zz fun W P b h1 h2 N=>by
  have h:=v_l W P ([],3) d_ d_ b h1 o_ N
  have H5:Rd.below ([],3) b=0:=by unfold Rd.below;rw[if_neg];rintro ⟨h,_⟩;exact absurd h d_
  have H6:Rd.belowS ([],3) b=([],3):=by unfold Rd.belowS;rw[if_neg];rfl;rintro ⟨h,_⟩;exact absurd h d_
  rw[H5,H6] at h;exact h
 have x0:Hid (∀W P,ab W P 317 (Rd.cs ([],3))->Cl 180 #[.pointer (some ⟨P,0,none⟩)] W fun e w'=>e=.returned (.int .i64 3)/\w'=W):=Zz fun W P N=>ki W P ([],3) N;have R:=Zz (ab.new w 60 #[.int .u64 0,.int .u64 0,.int .i64 0,.int .i64 0,.int .i64 0,.int .i64 0,.bool false,.slice none 0 0,.slice none 0 0]);have V:=Zz ((Kp.refl ac w).alloc (.cells #[.int .u64 0,.int .u64 0,.int .i64 0,.int .i64 0,.int .i64 0,.int .i64 0,.bool false,.slice none 0 0,.slice none 0 0] 60));go_enter func131,ntmps131
 go_upto_region 1 with fail
 generalize w.alloc (.cells #[.int .u64 0,.int .u64 0,.int .i64 0,.int .i64 0,.int .i64 0,.int .i64 0,.bool false,.slice none 0 0,.slice none 0 0] 60)=T at *;obtain ⟨f,F⟩:∃f,w.heap.size=f:=⟨_,rfl⟩;rw[F] at R ⊢;have x2:=Zz F;clear F;go_wp2_with fail;refine (h4.o T).mono ?_;rintro e O ⟨rfl,h7,X⟩;have U:=Zz h7;have Y:=Zz (V.o.trans X);have D:=Zz (R.o.kp X fun h=>h);have J:Hid (w.heap.size<=T.heap.size):=Zz V.o.size
 have L:T.heap.size≠f:=fun e=>by have:=R.o.lt;omega
 have I:=Zz L;clear h7 X L R V h4;generalize T.heap.size=P at *
 go_upto_region 3 with fail
 have o:=Zz (ab.new O 60 #[.int .u64 0,.int .u64 0,.int .i64 0,.int .i64 0,.int .i64 0,.int .i64 0,.bool false,.slice none 0 0,.slice none 0 0]);have p:=Zz (Y.o.alloc (.cells #[.int .u64 0,.int .u64 0,.int .i64 0,.int .i64 0,.int .i64 0,.int .i64 0,.bool false,.slice none 0 0,.slice none 0 0] 60));have r:=Zz (D.o.alloc (.cells #[.int .u64 0,.int .u64 0,.int .i64 0,.int .i64 0,.int .i64 0,.int .i64 0,.bool false,.slice none 0 0,.slice none 0 0] 60));have s:=Zz (U.o.alloc (.cells #[.int .u64 0,.int .u64 0,.int .i64 0,.int .i64 0,.int .i64 0,.int .i64 0,.bool false,.slice none 0 0,.slice none 0 0] 60));have k:Hid (O.heap.size≠P/\O.heap.size≠f/\w.heap.size<=O.heap.size):=Zz ⟨fun e=>by have:=U.o.lt;omega,fun e=>by have:=D.o.lt;omega,Y.o.size⟩;clear Y D U;generalize O.alloc (.cells #[.int .u64 0,.int .u64 0,.int .i64 0,.int .i64 0,.int .i64 0,.int .i64 0,.bool false,.slice none 0 0,.slice none 0 0] 60)=w3 at *;generalize O.heap.size=G at *;have m:=Zz (x4.o w3 P s.o);go_wp2_with fail;refine m.o.mono ?_;rintro e n ⟨rfl,t,g⟩;have d:=Zz t;have j:=o.o.kp g fun e=>k.o.1 e;have x:=Zz (r.o.kp g fun e=>I.o (Eq.symm e));have u:=Zz (p.o.then g fun q c e=>(by have:=J.o;have e:q=P:=e;omega:False));have E:=j.cell 0;have f0:=j.frozen 0;have l:=Zz ((Kp.refl (fun q=>q=G) n).setCell ⟨G,0,none⟩ (.int .u64 0) (.inl rfl));have y:Hid (ab (n.setCell ⟨G,0,none⟩ (.int .u64 0)) G 60 #[.int .u64 0,.int .u64 0,.int .i64 0,.int .i64 0,.int .i64 0,.int .i64 0,.bool false,.slice none 0 0,.slice none 0 0]):=Zz (j.set_ 0 (.int .u64 0));have z:=Zz (d.o.kp l.o fun e=>k.o.1 (Eq.symm e));have v:=Zz (x.o.kp l.o fun e=>k.o.2.1 (Eq.symm e));have a:=Zz (u.o.then l.o fun q c e=>(by have:=k.o.2.2;have e:q=G:=e;omega:False));clear t g j o r p s m
 go_upto_region 4 with fail
 clear E f0 d x u l;generalize n.setCell ⟨G,0,none⟩ (.int .u64 0)=w3 at *;have o:=y;have s:=z;have r:=v;have p:=a;clear y z v a;have m:=Zz (H8.o w3 P s.o);go_wp2_with fail;refine m.o.mono ?_;rintro e n ⟨rfl,t,g⟩;have d:=Zz t;have j:=o.o.kp g fun e=>k.o.1 e;have x:=Zz (r.o.kp g fun e=>I.o (Eq.symm e));have u:=Zz (p.o.then g fun q c e=>(by have:=J.o;have e:q=P:=e;omega:False));have E:=j.cell 1;have f0:=j.frozen 1;have l:=Zz ((Kp.refl (fun q=>q=G) n).setCell ⟨G,1,none⟩ (.int .u64 0) (.inl rfl));have y:Hid (ab (n.setCell ⟨G,1,none⟩ (.int .u64 0)) G 60 #[.int .u64 0,.int .u64 0,.int .i64 0,.int .i64 0,.int .i64 0,.int .i64 0,.bool false,.slice none 0 0,.slice none 0 0]):=Zz (j.set_ 1 (.int .u64 0));have z:=Zz (d.o.kp l.o fun e=>k.o.1 (Eq.symm e));have v:=Zz (x.o.kp l.o fun e=>k.o.2.1 (Eq.symm e));have a:=Zz (u.o.then l.o fun q c e=>(by have:=k.o.2.2;have e:q=G:=e;omega:False));clear t g j o r p s m
 go_upto_region 5 with fail
 clear E f0 d x u l;generalize n.setCell ⟨G,1,none⟩ (.int .u64 0)=w3 at *;have o:=y;have s:=z;have r:=v;have p:=a;clear y z v a
 go_upto_region 6 with fail
 go_loopw [7,21] (fun _ em wr=>∃i:Nat,i<=4/\em=.int .i64 i/\Hid (ab wr P 317 (Rd.cs ([],3)))/\Hid (ab wr G 60 #[.int .u64 0,.int .u64 0,.int .i64 0,.int .i64 0,.int .i64 0,.int .i64 0,.bool false,.slice none 0 0,.slice none 0 0])/\Hid (ab wr f 60 #[.int .u64 0,.int .u64 0,.int .i64 0,.int .i64 0,.int .i64 0,.int .i64 0,.bool false,.slice none 0 0,.slice none 0 0])/\Hid (Kp ac w wr)) (fun _ em _=>4-(intOf em).toNat)
 case atStart=>exact ⟨0,o_,rfl,s,o,r,p⟩
 case round =>
  clear s o r p;obtain ⟨i,H7,rfl,s,o,r,p⟩:=hrel
  match i,H7 with
  | 0,_ =>
   obtain ⟨Z,B,A,C⟩:=Dl G wr;have m:=Zz (M.o wr P 17 d_ d_ s.o);go_wp2_with fail;refine m.o.mono ?_;rintro e n ⟨rfl,t,g⟩;have d:=Zz t;have j:=o.o.kp g fun e=>k.o.1 e;have x:=Zz (r.o.kp g fun e=>I.o (Eq.symm e));have u:=Zz (p.o.then g fun q c e=>(by have:=J.o;have e:q=P:=e;omega:False));have E:=j.cell 2;have f0:=j.frozen 2;have l:=Zz ((Kp.refl (fun q=>q=G) n).setCell ⟨G,2,none⟩ (.int .i64 0) (.inl rfl));have y:Hid (ab (n.setCell ⟨G,2,none⟩ (.int .i64 0)) G 60 #[.int .u64 0,.int .u64 0,.int .i64 0,.int .i64 0,.int .i64 0,.int .i64 0,.bool false,.slice none 0 0,.slice none 0 0]):=Zz (j.set_ 2 (.int .i64 0));have z:=Zz (d.o.kp l.o fun e=>k.o.1 (Eq.symm e));have v:=Zz (x.o.kp l.o fun e=>k.o.2.1 (Eq.symm e));have a:=Zz (u.o.then l.o fun q c e=>(by have:=k.o.2.2;have e:q=G:=e;omega:False));clear t g j o r p s m;go_wp2;go_roundw
   case rel=>exact ⟨1,o_,by go_num,z,y,v,a⟩
   case measure=>simp[intOf]
  | 1,_ =>
   obtain ⟨Z,B,A,C⟩:=Dl G wr;have m:=Zz (M.o wr P 17 d_ d_ s.o);go_wp2_with fail;refine m.o.mono ?_;rintro e n ⟨rfl,t,g⟩;have d:=Zz t;have j:=o.o.kp g fun e=>k.o.1 e;have x:=Zz (r.o.kp g fun e=>I.o (Eq.symm e));have u:=Zz (p.o.then g fun q c e=>(by have:=J.o;have e:q=P:=e;omega:False));have E:=j.cell 3;have f0:=j.frozen 3;have l:=Zz ((Kp.refl (fun q=>q=G) n).setCell ⟨G,3,none⟩ (.int .i64 0) (.inl rfl));have y:Hid (ab (n.setCell ⟨G,3,none⟩ (.int .i64 0)) G 60 #[.int .u64 0,.int .u64 0,.int .i64 0,.int .i64 0,.int .i64 0,.int .i64 0,.bool false,.slice none 0 0,.slice none 0 0]):=Zz (j.set_ 3 (.int .i64 0));have z:=Zz (d.o.kp l.o fun e=>k.o.1 (Eq.symm e));have v:=Zz (x.o.kp l.o fun e=>k.o.2.1 (Eq.symm e));have a:=Zz (u.o.then l.o fun q c e=>(by have:=k.o.2.2;have e:q=G:=e;omega:False));clear t g j o r p s m;go_wp2;go_roundw
   case rel=>exact ⟨2,o_,by go_num,z,y,v,a⟩
   case measure=>simp[intOf]
  | 2,_ =>
   obtain ⟨Z,B,A,C⟩:=Dl G wr;have m:=Zz (M.o wr P 17 d_ d_ s.o);go_wp2_with fail;refine m.o.mono ?_;rintro e n ⟨rfl,t,g⟩;have d:=Zz t;have j:=o.o.kp g fun e=>k.o.1 e;have x:=Zz (r.o.kp g fun e=>I.o (Eq.symm e));have u:=Zz (p.o.then g fun q c e=>(by have:=J.o;have e:q=P:=e;omega:False));have E:=j.cell 4;have f0:=j.frozen 4;have l:=Zz ((Kp.refl (fun q=>q=G) n).setCell ⟨G,4,none⟩ (.int .i64 0) (.inl rfl));have y:Hid (ab (n.setCell ⟨G,4,none⟩ (.int .i64 0)) G 60 #[.int .u64 0,.int .u64 0,.int .i64 0,.int .i64 0,.int .i64 0,.int .i64 0,.bool false,.slice none 0 0,.slice none 0 0]):=Zz (j.set_ 4 (.int .i64 0));have z:=Zz (d.o.kp l.o fun e=>k.o.1 (Eq.symm e));have v:=Zz (x.o.kp l.o fun e=>k.o.2.1 (Eq.symm e));have a:=Zz (u.o.then l.o fun q c e=>(by have:=k.o.2.2;have e:q=G:=e;omega:False));clear t g j o r p s m;go_wp2;go_roundw
   case rel=>exact ⟨3,o_,by go_num,z,y,v,a⟩
   case measure=>simp[intOf]
  | 3,_ =>
   obtain ⟨Z,B,A,C⟩:=Dl G wr;have m:=Zz (M.o wr P 17 d_ d_ s.o);go_wp2_with fail;refine m.o.mono ?_;rintro e n ⟨rfl,t,g⟩;have d:=Zz t;have j:=o.o.kp g fun e=>k.o.1 e;have x:=Zz (r.o.kp g fun e=>I.o (Eq.symm e));have u:=Zz (p.o.then g fun q c e=>(by have:=J.o;have e:q=P:=e;omega:False));have E:=j.cell 5;have f0:=j.frozen 5;have l:=Zz ((Kp.refl (fun q=>q=G) n).setCell ⟨G,5,none⟩ (.int .i64 0) (.inl rfl));have y:Hid (ab (n.setCell ⟨G,5,none⟩ (.int .i64 0)) G 60 #[.int .u64 0,.int .u64 0,.int .i64 0,.int .i64 0,.int .i64 0,.int .i64 0,.bool false,.slice none 0 0,.slice none 0 0]):=Zz (j.set_ 5 (.int .i64 0));have z:=Zz (d.o.kp l.o fun e=>k.o.1 (Eq.symm e));have v:=Zz (x.o.kp l.o fun e=>k.o.2.1 (Eq.symm e));have a:=Zz (u.o.then l.o fun q c e=>(by have:=k.o.2.2;have e:q=G:=e;omega:False));clear t g j o r p s m;go_wp2;go_roundw
   case rel=>exact ⟨4,o_,by go_num,z,y,v,a⟩
   case measure=>simp[intOf]
  | 4,_ =>
   have m:=Zz (M.o wr P 2 d_ d_ s.o);go_wp2_with fail;refine m.o.mono ?_;rintro e n ⟨rfl,t,g⟩;have d:=Zz t;have j:=o.o.kp g fun e=>k.o.1 e;have x:=Zz (r.o.kp g fun e=>I.o (Eq.symm e));have u:=Zz (p.o.then g fun q c e=>(by have:=J.o;have e:q=P:=e;omega:False));have E:=j.cell 6;have f0:=j.frozen 6;have l:=Zz ((Kp.refl (fun q=>q=G) n).setCell ⟨G,6,none⟩ (.bool false) (.inl rfl));have y:Hid (ab (n.setCell ⟨G,6,none⟩ (.bool false)) G 60 #[.int .u64 0,.int .u64 0,.int .i64 0,.int .i64 0,.int .i64 0,.int .i64 0,.bool false,.slice none 0 0,.slice none 0 0]):=Zz (j.set_ 6 (.bool false));have z:=Zz (d.o.kp l.o fun e=>k.o.1 (Eq.symm e));have v:=Zz (x.o.kp l.o fun e=>k.o.2.1 (Eq.symm e));have a:=Zz (u.o.then l.o fun q c e=>(by have:=k.o.2.2;have e:q=G:=e;omega:False));clear t g j o r p s m
   go_upto_region 11 with fail
   clear E f0 d x u l;generalize n.setCell ⟨G,6,none⟩ (.bool false)=w3 at *;have o:=y;have s:=z;have r:=v;have p:=a;clear y z v a;have m:=Zz (M.o w3 P 13 d_ d_ s.o);go_wp2_with fail;refine m.o.mono ?_;rintro e x5 ⟨rfl,K,Q⟩;have h3:=Zz K;have h9:=Zz (o.o.kp Q fun e=>k.o.1 e);have H0:=Zz (r.o.kp Q fun e=>I.o (Eq.symm e));have h0:=Zz (p.o.then Q fun q c e=>(by have:=J.o;have e:q=P:=e;omega:False));clear K Q m s o r p
   go_upto_region 12 with fail
   go_loopw [35] (fun x3 wr=>x3=.int .i64 0/\wr=x5) (fun _ _=>0)
   case atStart=>exact ⟨rfl,rfl⟩
   case round =>
    obtain ⟨rfl,rfl⟩:=hrel;have m:=Zz (M.o wr P 13 d_ d_ h3.o);go_wp2_with fail;refine m.o.mono ?_;rintro e x6 ⟨rfl,h6,S⟩;have H9:=Zz h6;have x7:=Zz (h9.o.kp S fun e=>k.o.1 e);have h5:=Zz (H0.o.kp S fun e=>I.o (Eq.symm e));have H2:=Zz (h0.o.then S fun q c e=>(by have:=J.o;have e:q=P:=e;omega:False));clear h6 S m h3 h9 H0 h0
    go_upto_region 16 with fail
    go_loopw [47] (fun H1 wr=>H1=.int .i64 0/\wr=x6) (fun _ _=>0)
    case atStart=>exact ⟨rfl,rfl⟩
    case round =>
     obtain ⟨rfl,rfl⟩:=hrel;have m:=Zz (x0.o wr P H9.o);go_wp2_with fail;refine m.o.mono ?_;rintro e H ⟨rfl,rfl⟩;have h8:(prog.info? 60).map (·.size)=some 9:=k_
     have H3:(#[.int .u64 0,.int .u64 0,.int .i64 0,.int .i64 0,.int .i64 0,.int .i64 0,.bool false,.slice none 0 0,.slice none 0 0]:Array Value).all (·.oneCell')=true:=by simp[Value.oneCell']
     go_wp2_with (refine wpList_store_row rfl 60 (.tmp 2) (.tmp 65) rfl f _ rfl rfl 60 _ h5.o h8 rfl H3 ?_)
     have x1:=h5.o.setRow (cs':=#[.int .u64 0,.int .u64 0,.int .i64 0,.int .i64 0,.int .i64 0,.int .i64 0,.bool false,.slice none 0 0,.slice none 0 0]);have H4:Kp (fun q=>q=f) H (H.setRow f #[.int .u64 0,.int .u64 0,.int .i64 0,.int .i64 0,.int .i64 0,.int .i64 0,.bool false,.slice none 0 0,.slice none 0 0]):=(Kp.refl _ H).setRow f _ (.inl rfl);refine bodyPost_ret (x_X rfl rfl x1 underlying60 rfl h8) rfl ?_;exact ⟨rfl,H2.o.then H4 fun q c e=>(by have:=x2.o;have e:q=f:=e;omega:False)⟩
end Go.Proofs.YtdkheklakfbeeaaGreatDoor
