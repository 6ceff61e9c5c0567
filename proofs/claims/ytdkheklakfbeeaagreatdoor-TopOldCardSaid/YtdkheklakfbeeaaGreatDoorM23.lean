/- Part 23 of the proof. -/
import Derived.WalkKit
import Derived.ShutString
import Derived.ChangeOld
import Derived.Below
import Derived.Stop.Joined
import Derived.Test.YtdkheklakfbeeaaGreatDoorM22
set_option linter.all false
set_option maxRecDepth 100000
set_option maxHeartbeats 16000000
namespace Go.Proofs.YtdkheklakfbeeaaGreatDoor
open Go.RowKit Go.Proofs.Tryz
variable {B:Nat->B_}{F:Nat->Prop}{S:cj}{an b d n s:Nat}{ch:Nat->Nat->B_}{key:List UInt8}{w:W_}{σ τ:Nat->ao}
def PL (w:W_) (p n m:Nat) (d d2:List UInt8) (h:d2.length=32) (i:m<=n) (g:ab w p 180 #[.int .u64 n,.string (bs d)]) :
  Cl 122 #[.pointer (some ⟨p,0,none⟩),.int .u64 m,.string (bs d2)] w fun e w'=>e=.returned (.int .i64 25)/\w'=w:=by
 have j:=g.c0;have k:(m:Int)<=(n:Int):=o_
 have hz:(bs d2).size=32:=by rw[cG,h]
 clear g;go_enter func122,ntmps122;go_wp2;go_ret;exact ⟨rfl,rfl⟩
section
def zp (T:a_ w) (h:Bk w b n σ F) (y1:10<=w.heap.size) (a:Nat) (C:List UInt8) (ha:ab w an 180 #[.int .u64 a,.string (bs C)]) (S:cj) (vs vm:Value) (M:a7 S) (hR:ja w S vs vm) (y0:S.count<=a) (Rc:a<=100000) (x9:∀i,i<n->(σ i).wait<=1000) (x4:∃i,i<n/\(σ i).dead=false) :
  Cl 74 #[.agg (aT b an key),.agg (dK S vs vm)] w fun e w'=>e=.returned (.int .i64 25)/\∃j,Gr w F j/\Bk w' b n (eY σ (S.count % 2) (bs (bh S)) n) j/\Kp F w w':=by
 have P:=Zz ((ab.new w 113 (aT b an key)).alloc (.cells (dK S vs vm) 60));have u:=Zz (((Kp.refl ac w).alloc (.cells (aT b an key) 113)).alloc (.cells (dK S vs vm) 60));have l:=Zz (ab.new (w.alloc (.cells (aT b an key) 113)) 60 (dK S vs vm));rw[World.size_alloc] at l;have H2:=Zz (fun W (k:Kp ac w W)=>Ea M (hR.no k));have y7:=Zz (fun W σ' j (hb:Bk W b n σ' j) i (U:i<n) (hz:(σ' i).wait<=100000)=>D2 (an:=an) (key:=key) hb i (S.count % 2) U o_ (bs (bh S)) (by rw[cG];have:=Xg M;omega) hz);have bR:=Zz (fun W σ' j (hb:Bk W b n σ' j)=>x_m hb);have fw:=Zz (fun W σ' j (hb:Bk W b n σ' j)=>rQ hb);have sB:=Zz (fun W (T:a_ W) (bn:10<=W.heap.size)=>v_w W T bn (bh S) (by have:=Xg M;omega));have H7:=Zz (fun W (hb:ab W an 180 #[.int .u64 a,.string (bs C)])=>PL W an a S.count C (dC (bh S)) (x_R _) y0 hb);have eI:=Zz (fun q (h5:F q)=>h.lt h5);have cz:=Zz (h.off ha (by unfold ci;decide));have h7:=Zz (h.offNew (g:=w.heap.size) (bS _));have H1:=Zz (h.offNew (g:=w.heap.size+1) o_);have x6:=Zz (h.no u.o);have y9:=Zz (ha.kp u.o fun h=>h);have x2:=Zz (T.no u.o);have je:=Zz x9;have dO:Hid (Sn σ n=true):=Zz (by obtain ⟨i,U,hd⟩:=x4;exact C2 σ n i U hd);have y8:=Zz (xJ σ (S.count % 2) (bs (bh S)));have h6:=Zz (NQ σ (S.count % 2) (bs (bh S)));have y4:=Zz (ws σ (S.count % 2) (bs (bh S)));have ya:=Zz (Bw σ);have pZ:Hid (w.heap.size≠an/\w.heap.size+1≠an):=Zz (by have:=ha.lt;constructor<;>omega);have eU:=M.c;obtain ⟨O,cs,Am,cm,cI,bU⟩:=hR.shape;subst cI bU
 have od:((S.count:Int)).tmod 2=((S.count % 2:Nat):Int):=by rw[Int.tmod_eq_emod_of_nonneg o_];rfl
 have kP:S.count % 2<2:=gx _ d_
 have cE:n<=12:=by obtain ⟨G,c,st,A,Φ,h0,_⟩:=h;exact h0.n12
 have dH:=Zz y1;clear T h ha M hR x9 x4 y0 y1;obtain ⟨count,epoch,d,s,mem⟩:=S
 dsimp only at od kP eU P u l H2 y7 sB H7 y8 h6 y4 ⊢
 generalize mem.length=V at *;generalize Ge:count % 2=r at *;clear Ge
 have aV:IntKind.i64.wrap (r:Int)=(r:Int):=by rw[eM];omega
 have fH:IntKind.u64.wrap (r:Int)=(r:Int):=by rw[ie];omega
 generalize bh ⟨count,epoch,d,s,mem⟩=N at *;generalize x5:dK ⟨count,epoch,d,s,mem⟩ (.slice O (d+2) cs) (.slice Am V cm)=CS at *;have nX:CS=#[.int .u64 count,.int .u64 epoch,.int .i64 d,.int .i64 s,.int .i64 0,.int .i64 0,.bool false,.slice O (d+2) cs,.slice Am V cm]:=x5.symm;clear x5;subst nX;change Cl 74 #[.agg #[.pointer (some ⟨b,0,none⟩),.pointer (some ⟨an,0,none⟩),.string (bs key)],_] w _;go_enter func74,ntmps74
 go_upto_region 1 with fail
 change Code.wp _ _ _ _ ((w.alloc (.cells (aT b an key) 113)).alloc (.cells #[.int .u64 count,.int .u64 epoch,.int .i64 d,.int .i64 s,.int .i64 0,.int .i64 0,.bool false,.slice O (d+2) cs,.slice Am V cm] 60));generalize (w.alloc (.cells (aT b an key) 113)).alloc (.cells #[.int .u64 count,.int .u64 epoch,.int .i64 d,.int .i64 s,.int .i64 0,.int .i64 0,.bool false,.slice O (d+2) cs,.slice Am V cm] 60)=w1 at *;obtain ⟨G,hG⟩:∃G,w.heap.size=G:=⟨_,rfl⟩;rw[hG] at P l h7 H1 pZ ⊢;have cq:=Zz hG;clear hG;have Q:=l.o.c0;have c1:=l.o.c1;have c2:=l.o.c2;have c3:=l.o.c3;have c4:=l.o.c4;have c5:=l.o.c5;have c6:=l.o.c6;have c7:=l.o.c7;have c8:=l.o.c8;go_wp2_with fail;refine (H2.o _ u.o).mono ?_;rintro e t ⟨rfl,m⟩;have D:=Zz (P.o.kp m fun h=>h);have y2:=Zz (l.o.kp m fun h=>h);have H:=Zz (u.o.trans m);have y5:=Zz (x6.o.no m);have AS:=Zz (y9.o.kp m fun h=>h);have qo:=Zz (x2.o.no m);clear m P l u x6 y9 x2 H2 Q c1 c2 c3 c4 c5 c6 c7 c8;have d0:=D.o.c0
 go_upto_region 3 with fail
 go_wp2_with fail;refine (bR.o _ _ _ y5.o).mono ?_;rintro e t ⟨rfl,rfl⟩;have z:Hid (∃j,Gr t F j/\Bk t b n (eY σ r (bs N) 0) j):=Zz ⟨F,Gr.refl _ _,by rw[y8.o];exact y5.o⟩;have o:=Zz (Kp.refl F t);clear d0
 go_upto_region 4 with fail
 go_loopw [7,8,18] (fun s7 _ h9 wr=>∃i:Nat,i<=n/\h9=.int .i64 i/\s7=.bool (Sn σ i)/\Hid (∃j,Gr t F j/\Bk wr b n (eY σ r (bs N) i) j)/\Hid (Kp F t wr)) (fun _ _ h9 _=>n-(intOf h9).toNat)
 case atStart=>exact ⟨0,o_,rfl,rfl,z,o⟩
 case round =>
  clear z o;obtain ⟨i,U,rfl,rfl,z,o⟩:=hrel;have R:=Zz (D.o.kp o.o h7.o);have mS:=Zz (y2.o.kp o.o H1.o);obtain ⟨H6,x3,x0⟩:=z.o;have y:=Zz x3;have H8:=Zz x0;clear x3 x0 z;by_cases H9:i<n
  ·have bL:(i:Int)<(n:Int):=o_
   have h3:=y7.o wr _ H6 H8.o i H9 (by rw[h6.o];have:=je.o i H9;omega);rw[h6.o,y4.o] at h3;have v:=Zz h3;have p:=ya.o i;clear h3;have Q:=mS.o.c0;have d0:=R.o.c0;have d1:=R.o.c1;have d2:=R.o.c2
   cases rM:(σ i).dead with
   | true =>
    rw[rM] at v p;rw[Bool.not_true,Bool.or_false] at p;have Y:=Zz p;clear p;simp only[if_true] at v;generalize Sn σ i=tk at *;go_wp2_with fail;refine v.o.mono ?_;rintro e H4 ⟨rfl,X,I,f,m⟩;have H3:Hid (∃j,Gr t F j/\Bk H4 b n (eY σ r (bs N) (i+1)) j):=Zz ⟨X,y.o.then I o.o.size,f⟩;have L:=Zz (Xn o.o y.o m);clear I f m o Q d0 d1 d2;go_wp2;go_roundw
    case rel=>exact ⟨i+1,o_,by go_num,by rw[Y.o],H3,L⟩
    case measure=>simp[intOf];omega
   | false =>
    rw[rM] at v p;rw[Bool.not_false,Bool.or_true] at p;have Y:=Zz p;clear p;simp only[Bool.false_eq_true,if_false] at v;generalize Sn σ i=tk at *;go_wp2_with fail;refine v.o.mono ?_;rintro e H4 ⟨rfl,X,I,f,m⟩;have H3:Hid (∃j,Gr t F j/\Bk H4 b n (eY σ r (bs N) (i+1)) j):=Zz ⟨X,y.o.then I o.o.size,f⟩;have L:=Zz (Xn o.o y.o m);clear I f m o Q d0 d1 d2;go_wp2;go_roundw
    case rel=>exact ⟨i+1,o_,by go_num,by rw[Y.o],H3,L⟩
    case measure=>simp[intOf];omega
  obtain rfl:i=n:=o_;rw[dO.o];have d0:=R.o.c0;go_wp2_with fail;refine (fw.o _ _ _ H8.o).mono ?_;rintro e H5 ⟨rfl,x8,B⟩;have a8:=Zz x8;have E:=Zz (Xn o.o y.o B);have fm:=Zz B;clear x8 B d0;have H0:=Zz (D.o.kp E.o h7.o).drew;have h8:=Zz (y2.o.kp E.o H1.o).drew;have y6:=Zz (AS.o.kp E.o cz.o).drew;have y3:=Zz ((qo.o.kp E.o fun g hg h4=>by have:=(eI.o g h4).1;omega).no (Kp.refl ac H5).drew);have Z:=Zz E.o.drew;have x1:=Zz (a8.o.no (Kp.refl ac H5).drew);have dW:=Zz (fm.o.drew)
  go_upto_region 17 with fail
  refine fs ?_;generalize H5.drew=w6 at *;have d1:=H0.o.c1;have x7:=h8.o.c0;refine fp 0 ?_;refine cw 1 d1 ?_;refine fp 2 ?_;refine cw 3 x7 ?_;refine fp 4 ?_;refine fd 5 fun K Qx J=>?_;go_simp;refine (sB.o _ y3.o (by have:=dH.o;have:=H.o.size;have:=Z.o.size;omega)).mono ?_;rintro e w7 ⟨rfl,x⟩;have lq:=Zz (h8.o.kp x fun h=>h);have ut:=Zz (H0.o.kp x fun h=>h);have jk:=Zz (y6.o.kp x fun h=>h);have bH:=Zz (Z.o.then x fun _ _ h=>h.elim);have dy:=Zz (x1.o.no x);refine J _ _ (oK (lq.o.cell 0) (oK (ut.o.cell 1) oN)) ?_;clear J K x d1 x7 h8 H0 y6 Z x1 dW y3;refine fd 6 fun K Qx J=>?_;go_simp;refine (H7.o _ jk.o).mono ?_;rintro e w8 ⟨rfl,rfl⟩;have HR:Hid (∃j,Gr w F j/\Bk w8 b i (eY σ r (bs N) i) j):=Zz ⟨H6,fun q h5 h4=>y.o q (ea h5 H.o.size) h4,dy.o⟩;have OF:Hid (Kp F w w8):=Zz ((H.o.mono fun _ _ h=>h.elim).trans bH.o);refine J _ _ (oW (oW oN)) ?_;clear J K;refine fp 7 ?_;refine fe ?_;go_wp2;go_ret;obtain ⟨j,h1,h2⟩:=HR.o;exact ⟨rfl,j,h1,h2,OF.o⟩
end
def VS (w:W_) (f:a_ w) (L:10<=w.heap.size) (v:Value) (l:List Wr) (hv:b_ w v (sv (bm l))) (hl:l.length<96) (q:∀x∈l,x.ok) (d:B_) (y:¬iD (bm l)=d) :
  Cl 185 #[v,.string d] w fun e w'=>e=.returned (.tuple #[.slice none 0 0,.int .i64 22])/\Kp ac w w':=by
 have r:=Nd l;obtain ⟨A,c,rfl,o,M,j⟩:=hv;have s:Hid (∀W,Kp ac w W->b_ W (.slice A (sv (bm l)).length c) (sv (bm l))):=Zz fun W k=>(show b_ w (.slice A (sv (bm l)).length c) (sv (bm l)) from ⟨A,c,rfl,o,M,j⟩).below k.below0;rw[cN,r] at o j s ⊢;obtain ⟨b,off,rfl,p⟩:=j o_;have J:=Zz f
 have G:Hid (∀i,i<(bm l).length->(tl (bm l) i).size<=3000):=Zz fun i Q=>by
  rw[Nd] at Q
  cases i with
  | zero=>show (bs (bQ l.length)).size<=3000;rw[cG,ec];decide
  | succ i =>
   have h:i<l.length:=o_
   have:tl (bm l) (i+1)=bs (bQ (l[i]'h).at'++df (l[i]'h).cell.data.toList):=by simp[tl,bm,h]
   rw[this,cG,cd,ec];unfold df;rw[cd,ec,g5];have:=(q _ (rY h)).2.2;omega
 have S:=Zz (fun W (P:a_ W) (N:10<=W.heap.size) u R=>z_ax W P N u (bm l) R o_ G.o);have m:=p 0 o_;rw[iQ _ 0 o_,z_aw,Nat.add_zero] at m;have t:=Zz (fun W=>w_C W (bQ l.length) (by rw[ec];decide));rw[(v_r hl).1,(v_r hl).2] at t
 have D:Hid (∀i (h:i<l.length),w.cell? ⟨b,off+(i+1),none⟩=some (.string (bs (bQ (l[i]'h).at'++df (l[i]'h).cell.data.toList)))):=Zz fun i h=>by
  rw[p (i+1) o_,iQ _ _ o_];simp[tl,bm,h]
 have h0:Hid (∀i (h:i<l.length),(l[i]'h).ok):=Zz fun i h=>q _ (rY h);have h2:=Zz (Ei l);have O:Hid (eu (l.take l.length)=eu l):=Zz (by rw[List.take_length])
 have H:Hid (∀i,(eu (l.take i)).length<=i*2):=Zz fun i=>by rw[sN,gC];omega
 have K:b<w.heap.size:=fV w _ m;clear j p f q;obtain ⟨n,hn⟩:∃n,l.length=n:=⟨_,rfl⟩;have F:=Zz hn;rw[hn] at o s t O hl m r ⊢;clear hn r;obtain ⟨B,C⟩:=Eb y;clear y;generalize iD (bm l)=T at *;generalize bQ n=V at *;have h1:¬(n+1=0):=o_;have Z:((n+1:Nat):Int)-1=(n:Int):=o_;have X:0<n+1:=o_;have h3:Hid (∀i,i<n->i+1<n+1):=Zz fun i h=>o_;have U:n+1<97:=o_;generalize n+1=I at *
 have Y:((I:Int)==0)=false:=by rw[pN];omega
 go_enter func185,ntmps185;go_wp2_with fail;refine (t.o _).mono ?_;rintro e h4 ⟨rfl,a⟩;have g:=Zz a;clear a;go_wp2_with fail;refine (S.o _ (J.o.no g.o) (by have:=g.o.size;omega) _ (s.o _ g.o)).mono ?_;rintro e h5 ⟨rfl,z⟩;have E:=Zz (g.o.trans z);clear z g m;go_wp2;go_ret2;exact ⟨rfl,E.o⟩
section
def VN (h0:a_ w) (h:Bk w b n σ F) (H8:10<=w.heap.size) (an:Nat) (key:List UInt8) (i:Nat) (H6:i<n) (h2:(σ i).dead=false) (l:List Wr) (hl:l.length<96) (H:∀x∈l,x.ok) (h1:∀k,k<=l.length->tl (σ i).now (2+k)=tl (bm l) k) (a:B_) (Y:¬iD (bm l)=a) :
  Cl 132 #[.agg (aT b an key),.int .i64 i,.string a] w fun e w'=>e=.returned (.tuple #[.slice none 0 0,.int .i64 22])/\Kp ac w w':=by
 have X:=Zz (ab.new w 113 (aT b an key));have I:=Zz ((Kp.refl ac w).alloc (.cells (aT b an key) 113))
 have H3:Hid (∀W,Kp ac w W->∀k,k<=l.length->Cl 130 #[.pointer (some ⟨b,0,none⟩),.int .i64 i,.int .i64 (2+k:Nat)] W fun e w'=>e=.returned (.tuple #[.string (tl (bm l) k),.int .i64 0])/\w'=W):=Zz fun W kk k hk=>by
  have:=x_n (h.no kk) i (2+k) H6 o_;rw[h2,h1 k hk] at this;exact this
 have D:Hid (∀W,Cl 128 #[.string (tl (bm l) 0)] W fun e w'=>e=.returned (.tuple #[.int .i64 (l.length+1:Nat),.int .i64 0])/\Kp ac W w'):=Zz fun W=>by
  have:=w_C W (bQ l.length) (by rw[ec];decide);rw[(v_r hl).1,(v_r hl).2] at this;exact this
 have x1:=Zz (fun W (k:Kp ac w W) v (hv:b_ W v (sv (bm l)))=>VS W (h0.no k) (by have:=k.size;omega) v l hv hl H a Y);have z:=Zz (Nd l);have L:Hid (aH (w.alloc (.cells (aT b an key) 113)) (w.alloc (.cells (aT b an key) 113)).heap.size 9 (.slice none 0 0) (sv ((bm l).take 0))):=Zz (aH.nil_ _ _ _);have H5:Hid (w.heap.size<=(w.alloc (.cells (aT b an key) 113)).heap.size):=Zz s_;clear h0 h h2 h1 H H8;clear Y;change Cl 132 #[.agg #[.pointer (some ⟨b,0,none⟩),.pointer (some ⟨an,0,none⟩),.string (bs key)],.int .i64 i,.string a] w _;go_enter func132,ntmps132
 go_upto_region 1 with fail
 change Code.wp _ _ _ _ (w.alloc (.cells (aT b an key) 113));generalize w.alloc (.cells (aT b an key) 113)=u at *;obtain ⟨G,hG⟩:∃G,w.heap.size=G:=⟨_,rfl⟩;rw[hG] at X H5 ⊢;have y1:=Zz hG;clear hG;have B:=Zz (Kp.refl ac u);obtain ⟨N,U⟩:∃N,l.length+1=N:=⟨_,rfl⟩;rw[U] at D z;have h6:=Zz U;have x5:N<=96:=o_;have y4:0<N:=o_;clear U
 go_upto_region 3 with fail
 go_loopw [8,9,10,11] (fun d x0 _ _ wr=>∃j:Nat,j<=N/\C6 d=j/\x0=.int .i64 (if j=0 then 1 else (N:Int))/\Hid (aH wr u.heap.size 9 d (sv ((bm l).take j)))/\Hid (Kp ac u wr)) (fun d _ _ _ _=>N-C6 d)
 case atStart=>exact ⟨0,o_,rfl,rfl,L,B⟩
 case round =>
  clear L B;obtain ⟨j,y3,x9,rfl,o,g⟩:=hrel
  have t:((bm l).take j).length=j:=by rw[gC,z.o];omega
  obtain ⟨E,Q,rfl⟩:∃A c,u8=.slice A j c:=by
   obtain ⟨A,c,e⟩:=o.o.shape;exact ⟨A,c,by rw[e,cN,t]⟩
  by_cases h8:j<N
  ·have H1:j<(bm l).length:=by rw[z.o];exact h8
   have hM:=X.o.kp g.o fun h=>h;have H9:=hM.c0;have HR:=Zz (H3.o wr (I.o.trans g.o) j (by have:=h6.o;omega));have Z:Hid (sv ((bm l).take j)++[.string (tl (bm l) j)]=sv ((bm l).take (j+1))):=Zz (v_U _ j H1);have y:=g.o.size;clear hM;by_cases f:j=0
   ·subst f
    have h5:=D;generalize tl (bm l) 0=R at *;go_wp2_with fail;refine HR.o.mono ?_;rintro e w3 ⟨rfl,rfl⟩
    go_upto_region 8 with (at_builtin;refine Bp (w0:=w3) u.heap.size rfl (.tmp 29) (.tmp 31) 38 9 (.string ⟨#[]⟩) 16 rfl underlying38 C4 rfl d_ _ _ (.string R) rfl rfl rfl o.o ((Below.refl _ _).mono y) y (by rw[cN,t];omega) ?_;intro V h3 m T r M;obtain ⟨h4,H0,rfl⟩:∃A c,V=.slice A (0+1) c:=(by obtain ⟨A,c,e⟩:=m.shape;exact ⟨A,c,by rw[e,cd,cN,t];rfl⟩);have s:=Zz m;have O:=Zz r;clear m T r M)
    have p:=Kp.of_grown O.o (S:=fun q=>some q=(Value.slice E (0) Q).ownBlock) fun _ h=>h;have J:=Zz (g.o.then p fun q H7 h=>by have:=(o.o.lt q h.symm).1;omega);rw[Z.o] at s;clear p;go_wp2_with fail;refine (h5.o h3).mono ?_;rintro e y0 ⟨rfl,P⟩;have h9:=Zz (J.o.trans P);have H4:=Zz (s.o.kp P fun _ _ h=>h);clear P H9;go_wp2;go_roundw
    case rel=>exact ⟨1,o_,rfl,rfl,H4,h9⟩
    case measure=>simp[C6];omega
   have x7:(j:Int)<(N:Int):=o_;have x8:(2:Int)+(j:Int)=((2+j:Nat):Int):=o_
   have x4:IntKind.i64.wrap ((2+j:Nat):Int)=((2+j:Nat):Int):=by rw[eM];omega
   have x6:¬(j+1=1):=o_;have x2:¬(((j+1:Nat):Int)=1):=o_
   have x3:(((j+1:Nat):Int)==1)=false:=by rw[pN];omega
   simp only[f,if_false];generalize tl (bm l) j=R at *;generalize 2+j=y5 at *;go_wp2_with fail;refine HR.o.mono ?_;rintro e w3 ⟨rfl,rfl⟩
   go_upto_region 8 with (at_builtin;refine Bp (w0:=w3) u.heap.size rfl (.tmp 29) (.tmp 31) 38 9 (.string ⟨#[]⟩) 16 rfl underlying38 C4 rfl d_ _ _ (.string R) rfl rfl rfl o.o ((Below.refl _ _).mono y) y (by rw[cN,t];omega) ?_;intro V h3 m T r M;obtain ⟨h4,H0,rfl⟩:∃A c,V=.slice A (j+1) c:=(by obtain ⟨A,c,e⟩:=m.shape;exact ⟨A,c,by rw[e,cd,cN,t];rfl⟩);have s:=Zz m;have O:=Zz r;clear m T r M)
   have p:=Kp.of_grown O.o (S:=fun q=>some q=(Value.slice E (j) Q).ownBlock) fun _ h=>h;have J:=Zz (g.o.then p fun q H7 h=>by have:=(o.o.lt q h.symm).1;omega);rw[Z.o] at s;clear p;go_wp2;go_roundw
   case rel=>exact ⟨j+1,o_,rfl,rfl,s,J⟩
   case measure=>simp[C6];omega
  obtain rfl:j=N:=o_;have f:¬j=0:=o_;simp only[f,if_false]
  have C:b_ wr (.slice E j Q) (sv (bm l)):=by
   have:=o.o.reads
   rwa [kx (Nat.le_of_eq z.o)] at this
  have h7:=Zz (x1.o wr (I.o.trans g.o) _ C);clear C;go_wp2_with fail;refine h7.o.mono ?_;rintro e y2 ⟨rfl,K⟩;have H2:=Zz ((I.o.trans g.o).trans K);clear K;go_wp2;go_ret2;exact ⟨rfl,H2.o⟩
end
def HY (σ:ao) (lg:B_):Option (List Wr)->Prop
 | none=>tl σ.now 2=bs []\/∃l:List Wr,l.length<96/\(∀x∈l,x.ok)/\(∀k,k<=l.length->tl σ.now (2+k)=tl (bm l) k)/\¬iD (bm l)=lg
 | some l=>l.length<96/\0<l.length/\(∀x∈l,x.ok)/\(∀k,k<=l.length->tl σ.now (2+k)=tl (bm l) k)/\lg=iD (bm l)
section
def Fz (I:a_ w) (h:Bk w b n σ F) (hw:10<=w.heap.size) (an:Nat) (hk:key.length=32) (S:cj) (vs vm:Value) (h1:a7 S) (K:S.mem.length=n) (hR:bg w 10 S vs vm) (L:Nat->Option (List Wr)) (fQ:∀j (h:j<S.mem.length),(S.mem[j]'h).st=1->(σ j).dead=false->HY (σ j) (S.mem[j]'h).log (L j)) (x4:∀j,j<n->(σ j).wait<=500) :
  Cl 88 #[.agg (aT b an key),.agg (dK S vs vm)] w fun e w'=>e=.returned (.int .i64 0)/\∃o,Gr w F o/\Bk w' b n (e6 σ S L n) o/\Kp F w w':=by
 have H5:=Zz ((ab.new w 113 (aT b an key)).alloc (.cells (dK S vs vm) 60));have Q:=Zz (((Kp.refl ac w).alloc (.cells (aT b an key) 113)).alloc (.cells (dK S vs vm) 60));have A:=Zz (ab.new (w.alloc (.cells (aT b an key) 113)) 60 (dK S vs vm));rw[World.size_alloc] at A;have jJ:=Zz (fun W m (hm:m.st<=2)=>mv W m hm);have ov:=Zz (fun W σ' o (hb:Bk W b n σ' o) i (J:i<n) (t:(σ' i).dead=true) H=>yc hb an key i J t H);have fT:=Zz (fun W σ' o (hb:Bk W b n σ' o) i (J:i<n) (t:(σ' i).dead=false) (h2:tl (σ' i).now 2=bs []) H=>wq hb an key i J t h2 H);have nA:=Zz (fun W σ' o (hb:Bk W b n σ' o) (I:a_ W) (T:10<=W.heap.size) i (J:i<n) (t:(σ' i).dead=false) l hl C h2=>NU I hb T an key i J t l hl C h2);have pI:=Zz (fun W σ' o (hb:Bk W b n σ' o) (I:a_ W) (T:10<=W.heap.size) i (J:i<n) (t:(σ' i).dead=false) l hl C h2 H aD=>VN I hb T an key i J t l hl C h2 H aD);have fG:=Zz (fun W i=>x_4 W b an i S.slots key);have pn:=Zz (fun W σ' o (hb:Bk W b n σ' o) (I:a_ W) (T:10<=W.heap.size) i (J:i<n) v l (hv:∀H6,Kp o W H6->iB H6 v 2 l.length (eu l)) (hl:l.length<=1000) (C:∀x∈l,x.ok) (x4:(σ' i).wait<=500) (t:(σ' i).dead=false)=>v_h RX I hb T J h1.sl hk v l hv hl C o_ t);have gO:=Zz (fun W (k:Kp F w W)=>(hR.kp k (h.offRow hR.seats (by unfold ci;decide)) (h.offRow hR.mems (by unfold ci;decide))));have h9:=Zz (h.no Q.o);have bf:=Zz (I.no Q.o);have eI:=Zz (fun q (h4:F q)=>h.lt h4);have Br:=Zz fQ;have je:=Zz x4;have aR:=Zz (fun i h=>h1.st2 i h);have GZ:=Zz (fun i h=>Re S.mem i h);have x9:Hid (¬F w.heap.size/\¬F (w.heap.size+1)):=Zz ⟨h.offNew (bS _),h.offNew o_⟩;have dH:=Zz hw
 have cE:n<=12:=by rw[<-K];exact h1.n12
 have Bs:=Zz (fun i (h:i<S.mem.length)=>SH h);obtain ⟨h7,cs,Am,cm,cI,h8⟩:=hR.reads.shape
 have y7:0<S.mem.length:=by have:=h1.n1;omega
 obtain ⟨h6,off,mM,_⟩:=hR.reads.memAt (Kp.refl _ _) h8 y7;subst mM;have H0:=Zz (hR.no Q.o);have Bt:Hid (∀W,bg W 10 S vs vm->∃h5 h0,some (⟨h6,off,none⟩:Addr)=some ⟨h5,h0,none⟩/\∀i (h:i<S.mem.length),W.cell? ⟨h5,h0+i*3,none⟩=some (.int .i64 ((S.mem[i]'h).st:Int))/\W.cell? ⟨h5,h0+i*3+1,none⟩=some (.string (S.mem[i]'h).top)/\W.cell? ⟨h5,h0+i*3+2,none⟩=some (.string (S.mem[i]'h).log)):=Zz fun W cM=>cM.reads.memAt (Kp.refl _ _) h8 y7;have kM:=Zz K;have yw:Hid (∀W,Kp F (w.alloc (.cells (aT b an key) 113) |>.alloc (.cells (dK S vs vm) 60)) W->bg W 10 S vs vm):=Zz fun W k=>H0.o.kp k (h9.o.offRow H0.o.seats (by unfold ci;decide)) (h9.o.offRow H0.o.mems (by unfold ci;decide));rw[K] at h8;subst cI h8;clear I h hw h1 hR fQ x4 H0 gO GZ;have sR:dK S (.slice h7 (S.data+2) cs) (.slice (some ⟨h6,off,none⟩) n cm)=#[.int .u64 S.count,.int .u64 S.epoch,.int .i64 S.data,.int .i64 S.slots,.int .i64 0,.int .i64 0,.bool false,.slice h7 (S.data+2) cs,.slice (some ⟨h6,off,none⟩) n cm]:=rfl;rw[sR] at H5 A Q h9 bf yw ⊢;rw[K] at y7;clear K sR;change Cl 88 #[.agg #[.pointer (some ⟨b,0,none⟩),.pointer (some ⟨an,0,none⟩),.string (bs key)],_] w _;go_enter func88,ntmps88
 go_upto_region 1 with fail
 change Code.wp _ _ _ _ ((w.alloc (.cells (aT b an key) 113)).alloc (.cells #[.int .u64 S.count,.int .u64 S.epoch,.int .i64 S.data,.int .i64 S.slots,.int .i64 0,.int .i64 0,.bool false,.slice h7 (S.data+2) cs,.slice (some ⟨h6,off,none⟩) n cm] 60));generalize (w.alloc (.cells (aT b an key) 113)).alloc (.cells #[.int .u64 S.count,.int .u64 S.epoch,.int .i64 S.data,.int .i64 S.slots,.int .i64 0,.int .i64 0,.bool false,.slice h7 (S.data+2) cs,.slice (some ⟨h6,off,none⟩) n cm] 60)=M at *;obtain ⟨G,hG⟩:∃G,w.heap.size=G:=⟨_,rfl⟩;rw[hG] at H5 A x9 ⊢;have cq:=Zz hG;clear hG;have c8:=A.o.c8;have gK:Hid (∃o,Gr M F o/\Bk M b n (e6 σ S L 0) o):=Zz ⟨F,Gr.refl _ _,by rw[xa];exact h9.o⟩;have bJ:=Zz (Kp.refl F M)
 go_upto_region 2 with fail
 clear c8
 go_loopw [5,6,7,8,12] (fun _ _ _ _ x6 wr=>∃i:Nat,i<=n/\x6=.int .i64 i/\Hid (∃o,Gr M F o/\Bk wr b n (e6 σ S L i) o)/\Hid (Kp F M wr)) (fun _ _ _ _ x6 _=>n-(intOf x6).toNat)
 case atStart=>exact ⟨0,o_,rfl,gK,bJ⟩
 case round =>
  clear gK bJ;obtain ⟨i,J,rfl,y,p⟩:=hrel;obtain ⟨d,br,az⟩:=y.o;have a:=Zz br;have r:=Zz az;have cU:=Zz (H5.o.kp p.o x9.o.1);have mS:=Zz (A.o.kp p.o x9.o.2);have x8:=Zz (bf.o.kp p.o fun g hg h3=>by have:=(eI.o g h3).1;omega);have x7:Hid (10<=wr.heap.size):=Zz (by have:=dH.o;have:=Q.o.size;have:=p.o.size;omega);clear br az y;by_cases R:i<n
  ·have bL:(i:Int)<(n:Int):=o_
   have X:i<S.mem.length:=by rw[kM.o];exact R
   obtain ⟨h5,h0,he,aa⟩:=Bt.o wr (yw.o wr p.o);cases he;obtain ⟨y0,y1,y2⟩:=aa i X;have H9:=aR.o i X;have y5:=Zz (Br.o i X);have H1:=Zz (Bs.o i X);have Bv:=Zz (je.o i R);have y6:=Zz (fun W=>jJ.o W (S.mem[i]'X) H9);clear aa;obtain ⟨⟨st,y8,lg⟩,hx⟩:∃x,S.mem[i]'X=x:=⟨_,rfl⟩;rw[hx] at y0 y1 y2 H9 y5 H1 y6
   dsimp only at y0 y1 y2 H9 y5 H1 y6
   clear hx;have Y:=Zz (ab.new wr 108 #[.int .i64 st,.string y8,.string lg]);have bF:=Zz ((Kp.refl ac wr).alloc (.cells #[.int .i64 st,.string y8,.string lg] 108));have pU:¬d wr.heap.size:=r.o.offNew (bS _);have eS:=Zz pU;clear pU
   go_upto_region 4 with fail
   clear y0 y1 y2;generalize wr.alloc (.cells #[.int .i64 st,.string y8,.string lg] 108)=w2 at *;obtain ⟨D,hD⟩:∃D,wr.heap.size=D:=⟨_,rfl⟩;rw[hD] at Y eS ⊢;clear hD;have d0:=Y.o.c0;have d1:=Y.o.c1;have d2:=Y.o.c2;go_wp2_with fail;refine (y6.o w2).mono ?_;rintro e w3 ⟨rfl,x2⟩;have s:=Zz (bF.o.trans x2);have oV:=Zz (Y.o.kp x2 fun h=>h);clear x2 d0 d1 d2 bF Y;by_cases x3:st=1
   ·subst x3
    have H3:=Zz (cU.o.kp s.o fun h=>h);have Z:=H3.o.c0;have m1:=H3.o.c1;have m2:=H3.o.c2;have d2:=oV.o.c2
    cases t:(σ i).dead with
    | true =>
     have E:(e6 σ S L i i).dead=true:=by rw[RY];exact t
     have c:qR (σ i) (dT S i) (L i)=σ i:=by unfold qR;rw[if_neg];rintro ⟨_,h⟩;rw[t] at h;cases h
     have P:=Zz c;have y:=Zz (ov.o w3 _ d (r.o.no s.o) i R E lg);clear E c;go_wp2_with fail;refine y.o.mono ?_;rintro e V ⟨rfl,f⟩;have z:=Zz (s.o.trans f);clear f Z m1 m2 d2;have O:Hid (∃o,Gr M F o/\Bk V b n (e6 σ S L (i+1)) o):=Zz ⟨d,a.o,by rw[x_3 σ S L i P.o];exact r.o.no z.o⟩;have N:=Zz (p.o.then z.o fun _ _ h=>h.elim);clear p r a;go_wp2;go_roundw
     case rel=>exact ⟨i+1,o_,by go_num,O,N⟩
     case measure=>simp[intOf];omega
    | false =>
     have E:(e6 σ S L i i).dead=false:=by rw[RY];exact t
     have U:=y5.o rfl t
     cases H2:L i with
     | none =>
      rw[H2] at U
      have c:qR (σ i) (dT S i) (L i)=σ i:=by unfold qR;rw[H2];split<;>rfl
      have P:=Zz c;rcases U with U|⟨l,b1,b2,b3,b4⟩
      ·have y:=Zz (fT.o w3 _ d (r.o.no s.o) i R E (by rw[RY];exact U) lg)
       clear E c U;go_wp2_with fail;refine y.o.mono ?_;rintro e V ⟨rfl,f⟩;have z:=Zz (s.o.trans f);clear f Z m1 m2 d2;have O:Hid (∃o,Gr M F o/\Bk V b n (e6 σ S L (i+1)) o):=Zz ⟨d,a.o,by rw[x_3 σ S L i P.o];exact r.o.no z.o⟩;have N:=Zz (p.o.then z.o fun _ _ h=>h.elim);clear p r a;go_wp2;go_roundw
       case rel=>exact ⟨i+1,o_,by go_num,O,N⟩
       case measure=>simp[intOf];omega
      have y:=Zz (pI.o w3 _ d (r.o.no s.o) (x8.o.no s.o) (by have:=s.o.size;have:=x7.o;omega) i R E l b1 b2 (by rw[RY];exact b3) lg b4);clear E c b1 b2 b3 b4;go_wp2_with fail;refine y.o.mono ?_;rintro e V ⟨rfl,f⟩;have z:=Zz (s.o.trans f);clear f Z m1 m2 d2;have O:Hid (∃o,Gr M F o/\Bk V b n (e6 σ S L (i+1)) o):=Zz ⟨d,a.o,by rw[x_3 σ S L i P.o];exact r.o.no z.o⟩;have N:=Zz (p.o.then z.o fun _ _ h=>h.elim);clear p r a;go_wp2;go_roundw
      case rel=>exact ⟨i+1,o_,by go_num,O,N⟩
      case measure=>simp[intOf];omega
     | some l =>
      rw[H2] at U;obtain ⟨y3,l2,y4,l4,l5⟩:=U
      have c:qR (σ i) (dT S i) (L i)=((σ i).wrs l).flush:=by unfold qR;rw[H2,if_pos ⟨H1.o,t⟩]
      have P:=Zz c;have y:=Zz (nA.o w3 _ d (r.o.no s.o) (x8.o.no s.o) (by have:=s.o.size;have:=x7.o;omega) i R E l y3 y4 (by rw[RY];exact l4));have sS:=Zz (fun W hb I T v hv=>pn.o W (e6 σ S L i) d hb I T i R v l hv o_ y4 (by rw[RY];exact Bv.o) E);rw[<-l5] at y;have lV:=Zz l2;have kw:=y3;clear E c y3 y4 l4 l5;obtain ⟨len,x1⟩:∃len,l.length=len:=⟨_,rfl⟩;rw[x1] at y sS l2 kw;have Ki:(0:Int)<(len:Int):=o_;have fE:=Zz x1;clear x1;go_wp2_with fail;refine y.o.mono ?_;rintro e V ⟨u,rfl,x5,f⟩;have HU:=Zz x5;have z:=Zz (s.o.trans f);have G3:=Zz ((mS.o.kp z.o fun h=>h));have H4:=Zz ((cU.o.kp z.o fun h=>h));obtain ⟨Au,cu,rfl⟩:=lM x5;clear x5 f Z m1 m2 d2 H3;have Z:=H4.o.c0;have m1:=H4.o.c1;have m2:=H4.o.c2;have e3:=G3.o.c3;go_wp2_with fail;refine (fG.o V i).mono ?_;rintro e w5 ⟨rfl,H8⟩;have B:=Zz (z.o.trans H8);have y9:=Zz (dL HU.o H8 fun _ _ h=>h);have H7:=Zz (r.o.no B.o);clear H8 Z m1 m2 e3 H4 G3 HU;go_wp2_with fail;refine (sS.o w5 H7.o (x8.o.no B.o) (by have:=B.o.size;have:=x7.o;omega) _ (fun H6 hk=>Sy (dL y9.o hk (H7.o.offRow y9.o (by unfold ci;decide))))).mono ?_;rintro e w6 ⟨rfl,F2,bC,x0,ae⟩;rw[RY,<-P.o,xc] at x0;have O:Hid (∃o,Gr M F o/\Bk w6 b n (e6 σ S L (i+1)) o):=Zz ⟨F2,a.o.then bC (cL p.o.size B.o.size),x0⟩;have N:=Zz ((p.o.then B.o fun _ _ h=>h.elim).then ae fun q h4 h3=>a.o q h4 h3);clear bC x0 ae p r a y9 H7;go_wp2;go_roundw
      case rel=>exact ⟨i+1,o_,by go_num,O,N⟩
      case measure=>simp[intOf];omega
   have G6:decide (st=1)=false:=h_ x3
   have c:qR (σ i) (dT S i) (L i)=σ i:=by unfold qR;rw[if_neg];rintro ⟨h,_⟩;rw[H1.o] at h;exact x3 h
   have P:=Zz c;clear c;rw[G6];have O:Hid (∃o,Gr M F o/\Bk w3 b n (e6 σ S L (i+1)) o):=Zz ⟨d,a.o,by rw[x_3 σ S L i P.o];exact r.o.no s.o⟩;have N:=Zz (p.o.then s.o fun _ _ h=>h.elim);clear p r a;go_wp2;go_roundw
   case rel=>exact ⟨i+1,o_,by go_num,O,N⟩
   case measure=>simp[intOf];omega
  obtain rfl:i=n:=o_;go_wp2;go_ret;exact ⟨rfl,d,fun q h4 h3=>a.o q (ea h4 Q.o.size) h3,r.o,(Q.o.mono fun _ _ h=>h.elim).trans p.o⟩
end
section
def I6 (t:a_ w) (h:Bk w b n σ F) (hw:10<=w.heap.size) (hk:key.length=32) (S:cj) (Y:a7 S) (Q:S.mem.length=n) (aP:0<S.count) (x5:S.count<1000) (y3:S.epoch<1000) (z:Nat) (Rc:S.count+1<=z) (Rg:z<=100000) (ha:ab w an 180 #[.int .u64 z,.string (bs (dC (bh S)))])
  (k h9:Nat) (kN:k<n) (cy:∀i,i<k->(σ i).dead=true) (x8:(σ k).dead=false) (bI:h9<2) (hc:tl (σ k).now h9=bs (bh S)) (N:List UInt8) (h0:h9=1->tl (σ k).now 0=bs N/\N.length<=2048/\(N=[]\/dC N≠dC (bh S)))
  (L:Nat->Option (List Wr)) (fQ:∀j (h:j<S.mem.length),(S.mem[j]'h).st=1->(σ j).dead=false->HY (σ j) (S.mem[j]'h).log (L j)) (y1:∀j,j<n->(σ j).wait<=500) :
  Cl 50 #[.pointer (some ⟨b,0,none⟩),.pointer (some ⟨an,0,none⟩),.string (bs key)] w fun e w'=>e=.returned (.tuple #[.pointer none,.int .i64 25])/\Kp F w w':=by
 have bl:=AC Y x5 y3;have om:=Zz (fun W (k:Kp ac w W)=>ls (h.no k) an hk);have nE:=Zz (fun W (k:Kp ac w W)=>w_9 W an _ _ (ha.kp k fun h=>h));have pj:=Zz (fun W (kk:Kp ac w W)=>xK (key:=key) (t.no kk) (h.no kk) (by have:=kk.size;omega) z S Y Q (ha.kp kk fun h=>h) k h9 kN cy x8 bI hc N h0);have uu:=Zz (fun W (kk:Kp ac w W) vs vm (hR:bg W 10 S vs vm)=>Fz (key:=key) (t.no kk) (h.no kk) (by have:=kk.size;omega) an hk S vs vm Y Q hR L fQ y1);have Gu:=Zz (fun W (t:a_ W) (x6:10<=W.heap.size)=>v_C W t x6);have mo:=Zz (fun W F' (hb:Bk W b n (e6 σ S L n) F') (t:a_ W) (x6:10<=W.heap.size) (ha:ab W an 180 #[.int .u64 z,.string (bs (dC (bh S)))]) vs vm hR=>zp (key:=key) t hb x6 z (dC (bh S)) ha (eG S) vs vm bl hR Rc Rg (fun i hi=>cL (Ct σ S L n i (y1 i hi)) d_) ⟨k,kN,by rw[w_A];exact x8⟩);have dN:=Zz (fun W=>Ci W (S.epoch+1) o_ o_);have y0:=Zz (fun q (l:F q)=>h.lt l);have cz:=Zz (h.off ha (by unfold ci;decide));have dr:=Zz h;have qn:=Zz ha;have bf:=Zz t;have E:=Zz hw;have gI:=Zz (fun W base vs vm (hr:bg W base S vs vm)=>hr.reads.shape);have qB:0<n:=o_;have I:=Zz Q
 have cE:n<=12:=by rw[<-Q];exact Y.n12
 have eU:((z:Int)==0)=false:=by rw[pN];omega
 have pT:=Zz aP;have jR:=Zz x5;have Y6:=Zz y3;have H3:¬((4294967295:Int)<=(S.epoch:Int)):=o_;have O4:=Zz (h_ H3);clear H3
 have h8:IntKind.u64.wrap ((S.count:Int)+1)=((S.count+1:Nat):Int):=by rw[ie];omega
 have H1:IntKind.u64.wrap ((S.epoch:Int)+1)=((S.epoch+1:Nat):Int):=by rw[ie];omega
 have d:=Zz (ab.new w 113 (aT b an key));have H6:=Zz ((Kp.refl ac w).alloc (.cells (aT b an key) 113));have fK:Hid (∀vs vm,dK S vs vm=#[.int .u64 S.count,.int .u64 S.epoch,.int .i64 S.data,.int .i64 S.slots,.int .i64 0,.int .i64 0,.bool false,vs,vm]):=Zz fun _ _=>rfl;have Bx:Hid (∀vs vm,dK (eG S) vs vm=#[.int .u64 (S.count+1:Nat),.int .u64 (S.epoch+1:Nat),.int .i64 S.data,.int .i64 S.slots,.int .i64 0,.int .i64 0,.bool false,vs,vm]):=Zz fun _ _=>rfl;have sm:=Zz h8;have O5:=Zz H1;clear h8 H1;clear t h hw ha Y cy x8 bI hc h0 fQ y1 bl Q aP x5 y3;go_enter func50,ntmps50
 go_upto_region 2 with fail
 change Code.wp _ _ _ _ (w.alloc (.cells (aT b an key) 113));generalize w.alloc (.cells (aT b an key) 113)=w1 at *;obtain ⟨G,hG⟩:∃G,w.heap.size=G:=⟨_,rfl⟩;rw[hG] at d ⊢;have cq:=Zz hG;clear hG;have c:=d.o.c0;have m1:=d.o.c1;have m2:=d.o.c2;go_wp2_with fail;refine (om.o _ H6.o).mono ?_;rintro e w2 ⟨rfl,H8⟩;have ak:=Zz (d.o.kp H8 fun h=>h);have H9:=Zz (H6.o.trans H8);clear H8 c m1 m2 d H6 om;go_wp2_with fail;refine (nE.o _ H9.o).mono ?_;rintro e w3 ⟨rfl,f⟩;have M:=Zz (ak.o.kp f fun h=>h);have H:=Zz (H9.o.trans f);clear f ak H9 nE;have c:=M.o.c0;have m1:=M.o.c1;have m2:=M.o.c2;go_wp2_with fail;refine (pj.o _ H.o).mono ?_;rintro e C ⟨vs,vm,rfl,cM,x0⟩;have cC:=Zz (M.o.kp x0 fun h=>h);have x1:=Zz (H.o.trans x0);have h7:=Zz (cM.more H.o.size);clear x0 cM c m1 m2 M H pj;obtain ⟨v,cs,Am,cm,cI,x3⟩:=gI.o _ _ _ _ h7.o;obtain ⟨g,cg,y6,br,bC⟩:=LF h7.o.mems (by rw[I.o];exact qB);rw[I.o] at x3 y6;rw[y6] at x3;cases x3;subst cI y6;have y8:Hid (w.heap.size<=g):=Zz br;rw[fK.o];clear br bC
 go_upto_region 9 with fail
 have p:=Zz (ab.new C 60 #[.int .u64 S.count,.int .u64 S.epoch,.int .i64 S.data,.int .i64 S.slots,.int .i64 0,.int .i64 0,.bool false,.slice v (S.data+2) cs,.slice (some ⟨g,0,none⟩) n cm]);have J:=Zz (cC.o.alloc (.cells #[.int .u64 S.count,.int .u64 S.epoch,.int .i64 S.data,.int .i64 S.slots,.int .i64 0,.int .i64 0,.bool false,.slice v (S.data+2) cs,.slice (some ⟨g,0,none⟩) n cm] 60));have a:=Zz (x1.o.alloc (.cells #[.int .u64 S.count,.int .u64 S.epoch,.int .i64 S.data,.int .i64 S.slots,.int .i64 0,.int .i64 0,.bool false,.slice v (S.data+2) cs,.slice (some ⟨g,0,none⟩) n cm] 60));have U:=Zz (h7.o.no ((Kp.refl ac C).alloc (.cells #[.int .u64 S.count,.int .u64 S.epoch,.int .i64 S.data,.int .i64 S.slots,.int .i64 0,.int .i64 0,.bool false,.slice v (S.data+2) cs,.slice (some ⟨g,0,none⟩) n cm] 60)));have h6:Hid (w.heap.size<=C.heap.size):=Zz x1.o.size;clear cC x1 h7;generalize C.alloc (.cells #[.int .u64 S.count,.int .u64 S.epoch,.int .i64 S.data,.int .i64 S.slots,.int .i64 0,.int .i64 0,.bool false,.slice v (S.data+2) cs,.slice (some ⟨g,0,none⟩) n cm] 60)=w5 at *;obtain ⟨P,hP⟩:∃P,C.heap.size=P:=⟨_,rfl⟩;rw[hP] at p h6 ⊢;clear hP;have Z:=p.o.c0;have A:=p.o.c1;have s2:=p.o.c2;have s3:=p.o.c3;have s4:=p.o.c4;have s5:=p.o.c5;have s6:=p.o.c6;have s7:=p.o.c7;have u:=p.o.c8;have c:=J.o.c0;have m1:=J.o.c1;have m2:=J.o.c2;have y7:=Zz (uu.o w5 a.o _ _ (U.o.more E.o));rw[fK.o] at y7;clear uu;have H3:=O4.o;go_wp2_with fail;refine y7.o.mono ?_;rintro e H2 ⟨rfl,H5,o9,eT,au⟩;have uy:=Zz o9;have oy:=Zz eT;have x:=Zz au;clear o9 eT au y7 c m1 m2 Z A s2 s3 s4 s5 s6 s7 u;have qY:Hid (¬F P/\¬F G):=Zz ⟨fun s=>by have:=(y0.o _ s).2;have:=h6.o;omega,fun s=>by have:=(y0.o _ s).2;have:=cq.o;omega⟩;have r:=p.o.kp x.o qY.o.1;have x2:=Zz (J.o.kp x.o qY.o.2);have oz:=Zz (dr.o.no a.o);have h4:=Zz (U.o.kp x.o (oz.o.offRow U.o.seats (by unfold ci;decide)) (oz.o.offRow U.o.mems (by unfold ci;decide)));have y4:=Zz ((qn.o.kp a.o fun h=>h).kp x.o cz.o);have vK:=Zz ((bf.o.no a.o).kp x.o fun g hg s=>by have:=(y0.o g s).1;omega);have h8:=sm.o;have H1:=O5.o;have Z:=r.cell 0;have A:=r.cell 1;have f0:=r.frozen 0;have f1:=r.frozen 1;have y:=((Kp.refl (fun q=>q=P) H2).setCell ⟨P,0,none⟩ (.int .u64 (S.count+1:Nat)) (.inl rfl)).setCell ⟨P,1,none⟩ (.int .u64 (S.epoch+1:Nat)) (.inl rfl);have R:Hid (ab ((H2.setCell ⟨P,0,none⟩ (.int .u64 (S.count+1:Nat))).setCell ⟨P,1,none⟩ (.int .u64 (S.epoch+1:Nat))) P 60 #[.int .u64 (S.count+1:Nat),.int .u64 (S.epoch+1:Nat),.int .i64 S.data,.int .i64 S.slots,.int .i64 0,.int .i64 0,.bool false,.slice v (S.data+2) cs,.slice (some ⟨g,0,none⟩) n cm]):=Zz ((r.set_ 0 (.int .u64 (S.count+1:Nat))).set_ 1 (.int .u64 (S.epoch+1:Nat)));have x9:=Zz (x2.o.kp y fun e=>ab.ne_ x2.o r d_ e);have O:=Zz (h4.o.kp y (nI h4.o.seats r d_) (nI h4.o.mems r d_));have y5:=Zz (y4.o.kp y fun e=>ab.ne_ y4.o r d_ e)
 have oA:=Zz (oy.o.kp y fun q l s=>by
  have l:q=P:=l;subst l
  exact oy.o.off r (by unfold ci;decide) s)
 have tT:=Zz (vK.o.kp y fun g hg e=>by have e:g=P:=e;have:=h6.o;have:=E.o;omega);have h1:=Zz (((a.o.mono (T:=ac) (S:=F) fun _ _ h=>h.elim).trans x.o).then y fun q l e=>(by have e:q=P:=e;have:=h6.o;omega:False).elim);clear r y x2 h4 y4 vK p J U oz
 go_upto_region 18 with fail
 change Code.wp _ _ _ _ ((H2.setCell ⟨P,0,none⟩ (.int .u64 (S.count+1:Nat))).setCell ⟨P,1,none⟩ (.int .u64 (S.epoch+1:Nat)));clear Z A f0 f1 h8 H1 oy;generalize (H2.setCell ⟨P,0,none⟩ (.int .u64 (S.count+1:Nat))).setCell ⟨P,1,none⟩ (.int .u64 (S.epoch+1:Nat))=w7 at *;have u:=R.o.c8
 have y9:Hid (w7.ownsRow w.heap.size 108 3 (.slice (some ⟨g,0,none⟩) n cm) n (ds (oC S.mem 0))):=Zz (by
  have V:=O.o.mems;rw[I.o] at V
  exact V)
 have sU:=Zz (Kp.refl (fun q=>q=g) w7)
 have B:Hid (P≠g/\G≠g/\an≠g/\¬H5 g):=Zz (by
  obtain ⟨yx,h3⟩:=fj y9.o (q:=g) rfl
  exact ⟨ab.ne_ R.o h3 d_,ab.ne_ x9.o h3 d_,ab.ne_ y5.o h3 d_,oA.o.off h3 (by unfold ci;decide)⟩)
 go_upto_region 19 with fail
 clear u
 go_loopw [15,65] (fun _ H4 wr=>∃i:Nat,i<=n/\H4=.int .i64 i/\Hid (wr.ownsRow w.heap.size 108 3 (.slice (some ⟨g,0,none⟩) n cm) n (ds (oC S.mem i)))/\Hid (Kp (fun q=>q=g) w7 wr)) (fun _ H4 _=>n-(intOf H4).toNat)
 case atStart=>exact ⟨0,o_,rfl,y9,sU⟩
 case round =>
  clear y9 sU;obtain ⟨i,hi,rfl,D,o⟩:=hrel;by_cases af:i<n
  ·have bL:(i:Int)<(n:Int):=o_
   have bB:i<S.mem.length:=by rw[I.o];exact af
   have sW:i<(oC S.mem i).length:=by rw[lB];exact bB
   have m:=Zz (R.o.kp o.o B.o.1).drew;have H0:=Zz ((tT.o.kp o.o fun q l e=>by have e:q=g:=e;have:=y8.o;have:=E.o;omega).no (Kp.refl ac wr).drew);have jK:Hid (wr.drew.ownsRow w.heap.size 108 3 (.slice (some ⟨g,0,none⟩) n cm) n (ds (oC S.mem i))):=D;have x7:=Zz o.o.drew;have qC:Hid (10<=wr.drew.heap.size):=Zz (by have:=E.o;have:=h1.o.size;have:=x7.o.size;omega);have qD:=Zz (w_4 (oC S.mem i) i sW fb);have bD:=Zz (DN S.mem i bB);have mW:=Zz (Re (oC S.mem i) i sW);clear D
   go_upto_region 21 with fail
   refine fs ?_;generalize wr.drew=w8 at *;have u:=m.o.c8;refine fp 0 ?_;refine cw 1 u ?_;refine fp 2 ?_;refine fd 3 fun K Qx X=>?_;go_simp;refine (Gu.o _ H0.o qC.o).mono ?_;rintro e w9 ⟨rfl,h2⟩;have iw:=Zz (m.o.kp h2 fun h=>h);have h5:=Zz (dL jK.o h2 fun _ _ h=>h);have aL:=Zz (x7.o.then h2 fun _ _ h=>h.elim);refine X _ _ (oK (iw.o.cell 8) oN) ?_;clear X K u h2 m jK x7 H0;refine fp 4 ?_;refine fp 5 ?_
   have g2:w9.cell? ⟨g,i*3+2,none⟩=some (.string ((oC S.mem i)[i]'sW).log):=by
    rw[Ho h5.o _ o_];exact mW.o.2.2
   have fg:=y_e h5.o (i*3+2);refine fd 6 fun K Qx X=>?_;go_simp;refine X _ _ (oW oN) ?_;clear X K;refine fe ?_;have oB:=x_a h5.o (i*3+2) (.string fb);rw[qD.o,bD.o] at oB;have eR:=Zz oB;have x4:=Zz (aL.o.setCell ⟨g,i*3+2,none⟩ (.string fb) (.inl rfl));clear oB g2 fg iw h5 aL;go_wp2;go_roundw
   case rel=>exact ⟨i+1,o_,by go_num,eR,x4⟩
   case measure=>simp[intOf];omega
  obtain rfl:i=n:=o_;have m:=Zz (R.o.kp o.o B.o.1);have y2:=Zz (x9.o.kp o.o B.o.2.1);have ll:=Zz (y5.o.kp o.o B.o.2.2.1);have kn:=Zz (oA.o.kp o.o fun q l s=>by have l:q=g:=l;subst l;exact B.o.2.2.2 s);have H0:=Zz (tT.o.kp o.o fun q l e=>by have e:q=g:=e;have:=y8.o;have:=E.o;omega)
  have sX:=Zz (O.o.seats.kp o.o fun q l e=>by
   obtain ⟨iR,az⟩:=fj O.o.seats l;obtain ⟨dj,aq⟩:=fj O.o.mems (q:=g) rfl;have e:q=g:=e;subst e
   exact ab.ne_ az aq d_ rfl)
  have lF:Hid (bg wr w.heap.size (eG S) (.slice v (S.data+2) cs) (.slice (some ⟨g,0,none⟩) i cm)):=Zz ⟨sX.o,by
   have V:=D.o
   have e1:oC S.mem i=S.mem.map AI:=by rw[<-I.o];exact Ef _
   have e2:(eG S).mem.length=i:=by rw[<-I.o];exact fW _
   rw[e1] at V;rw[e2]
   exact V⟩
  have H7:=Zz (mo.o wr H5 kn.o H0.o (by have:=E.o;have:=h1.o.size;have:=o.o.size;omega) ll.o _ _ lF.o.reads);rw[Bx.o] at H7;have c:=y2.o.c0;have m1:=y2.o.c1;have m2:=y2.o.c2;have Z:=m.o.c0;have A:=m.o.c1;have s2:=m.o.c2;have s3:=m.o.c3;have s4:=m.o.c4;have s5:=m.o.c5;have s6:=m.o.c6;have s7:=m.o.c7;have u:=m.o.c8;have DF:Hid (Kp F w wr):=Zz (h1.o.then o.o fun q l e=>(by have e:q=g:=e;have:=y8.o;omega:False).elim);have qE:Hid (Gr w F H5):=Zz fun q l s=>uy.o q (ea l a.o.size) s;clear D o R x9 y5 oA tT O sX h1 x a;go_wp2_with fail;refine H7.o.mono ?_;rintro e bY ⟨rfl,F3,fa,b9,f⟩;have x4:Hid (Kp F w bY):=Zz (DF.o.then f fun q l h=>qE.o q l h);clear fa b9 f H7 DF qE c m1 m2 Z A s2 s3 s4 s5 s6 s7 u;go_wp2;go_ret2;exact ⟨rfl,x4.o⟩
end
def uW (σ τ:Nat->ao) (i:Nat):Nat->ao:=fun j=>if j<i then ⟨false,(τ j).now,(τ j).now,0⟩ else σ j
def JI (σ τ:Nat->ao):uW σ τ 0=σ:=by funext j;simp[uW]
def Hd (σ τ:Nat->ao) (i:Nat):dY (uW σ τ i) i ⟨false,(τ i).now,(τ i).now,0⟩=uW σ τ (i+1):=by
 funext j;unfold dY uW;by_cases e:j=i
 ·subst e;rw[if_pos rfl,if_pos o_]
 rw[if_neg e];by_cases h:j<i
 ·rw[if_pos h,if_pos o_]
 rw[if_neg h,if_neg o_]
def v_A (σ τ:Nat->ao) (i j:Nat) (h:(σ j).dead=false):(uW σ τ i j).dead=false:=by
 unfold uW;split
 ·rfl
 exact h
def z_ad (σ τ:Nat->ao) (n j:Nat) (h:j<n):(uW σ τ n j).now=(τ j).now:=by unfold uW;rw[if_pos h]
def A8 (h:Vo n d s S σ ch B) (p:∀i,(τ i).now=(σ i).now):uW σ τ n=σ:=by
 funext j;unfold uW;by_cases k:j<n
 ·rw[if_pos k,p j]
  have l:=h.vk.ok.dk j k;have g:=h.al j;have m:=l.last g;have o:=l.wait;clear l;generalize σ j=x at g m o ⊢;obtain ⟨a,b,c,e⟩:=x;show (⟨false,b,b,0⟩:ao)=⟨a,b,c,e⟩;rw[show a=false from g,show c=b from m,show e=0 from o]
 rw[if_neg k]
section
variable {v:Nat} {m:Option Nat} {T:Nat->Prop}
def E6 (h:ab w v 88 (i3 b an key none m))
  (o:∀W,Kp ac w W->Cl 50 #[.pointer (some ⟨b,0,none⟩),.pointer (some ⟨an,0,none⟩),.string (bs key)] W fun e w'=>e=.returned (.tuple #[.pointer none,.int .i64 25])/\Kp T W w') :
  Cl 23 #[.pointer (some ⟨v,0,none⟩)] w fun e w'=>e=.returned (.int .i64 25)/\Kp T w w':=by
 have s:=h.c3;have g:=Zz h.drew;have q:=Zz (Kp.refl T w).drew;have p:=Zz (o w.drew (Kp.refl ac w).drew);clear h o;go_enter func23,ntmps23
 go_upto_region 5 with fail
 clear s;refine fs ?_;generalize w.drew=u at *;have j:=g.o.c0;have k:=g.o.c1;have l:=g.o.c2;refine fp 0 ?_;refine fp 1 ?_;refine fp 2 ?_;refine cw 3 j ?_;refine fp 4 ?_;refine fp 5 ?_;refine fp 6 ?_;refine cw 7 k ?_;refine fp 8 ?_;refine fp 9 ?_;refine fp 10 ?_;refine cw 11 l ?_;refine fd 12 fun K t n=>?_;go_simp;refine p.o.mono ?_;rintro e x ⟨rfl,i⟩;refine n _ _ (oW (oW (oW oN))) ?_;clear n K j k l;refine fp 13 ?_;refine fp 14 ?_;refine fp 15 ?_;refine fp 16 ?_;refine fp 17 ?_;refine fe ?_;have r:=Zz (q.o.trans i);clear i;go_wp2;go_ret;exact ⟨rfl,r.o⟩
end
def Ym (L:Nat->Option (List Wr)) (R:cj) (j:Nat):Option (List Wr):=match L j with|none=>none|some l=>if y_ R j=iD (bm l) then some l else none
def ze {w':W_} {X:Nat->Prop} {z p v I:Nat} {q:cj} {D:List Nat} {Y V kv:Value} {h7:List B_} {K:List (List (List B_))} {g:B_->Option B_} {h9:Nat} {U:Bool} {Q Ft:Nat->Prop} {H3:Nat->Nat->B_} {B':Nat->B_} (h:Tm w w' X z p b v (d+2) I S (uW σ τ (d+2)) D Y V kv h7 K g h9 U Q Ft) (M:a_ w) (H:10<=w.heap.size) (y:Vo (d+2) d s S σ ch B) (P:Vo (d+2) d s q τ H3 B') (H0:S.count<800) (x2:q.count<=S.count) (H9:q.count=S.count->∀i,(τ i).now=(σ i).now) :
  Cl 23 #[.pointer (some ⟨v,0,none⟩)] w' fun e w''=>∃G:Int,e=.returned (.int .i64 G)/\ab w'' z 43 (vP p Y V (.slice none 0 0) I U)/\Kp (Yx w X) w' w'':=by
 obtain ⟨R,hR⟩:=P.rc
 have L:0<S.count:=by
  obtain ⟨x1,h6⟩:=y.rc;obtain ⟨_,m,_,_,J,_⟩:=h6 0 d_;omega
 have r:∀a,a<2->∀i,i<d+2->tl (uW σ τ (d+2) i).now a=bs (bh (R a)):=fun a ha i n=>by
  rw[z_ad _ _ _ _ n];exact (hR a ha).2.2.2.2.2.2 i n
 have A:∀i,(uW σ τ (d+2) i).dead=false:=fun i=>v_A _ _ _ _ (y.al i)
 have E:∀a,a<2->(bh (R a)).length<=2048:=fun a ha=>by have:=Xg (hR a ha).1;omega
 have found:∀a,a<2->dC (bh (R a))=dC (bh S)->(a=1->dC (bh (R 0))≠dC (bh S))->Cl 23 #[.pointer (some ⟨v,0,none⟩)] w' fun e w''=>∃G:Int,e=.returned (.int .i64 G)/\ab w'' z 43 (vP p Y V (.slice none 0 0) I U)/\Kp (Yx w X) w' w'':=fun a ha Z m=>by
  obtain ⟨H5,x7,H6,H7,H8,x8,x9⟩:=hR a ha;by_cases x5:(R a).count=S.count
  ·have C:q.count=S.count:=o_
   have x3:a=S.count % 2:=by
    refine Decidable.byContradiction fun e=>?_;have:=H6 (by rw[C];exact e);omega
   have x0:=A8 y (H9 C);rw[x0] at h r;refine (EF h M H y o_ L H0 fun i n=>⟨bh (R 0),r 0 d_ i n,E 0 d_,fun x4=>m o_⟩).mono ?_;rintro e w'' ⟨rfl,hz,_,_,_,_,hk⟩;exact ⟨0,rfl,hz,hk⟩
  obtain ⟨an,gm,F,O,hF⟩:=h.hm;obtain ⟨t,N⟩:=P.lg;have h4:=O.ha;rw[<-Z] at h4
  have h8:∀j (o:j<(R a).mem.length),((R a).mem[j]'o).st=1->(uW σ τ (d+2) j).dead=false->HY (uW σ τ (d+2) j) ((R a).mem[j]'o).log (Ym t (R a) j):=fun j o _ _=>by
   have h3:j<d+2:=o_
   have hb:bad q τ j=false:=by rw[P.vk.bd j h3];simp
   have u:=(N j hb).1;have en:(uW σ τ (d+2) j).now=(τ j).now:=z_ad _ _ _ _ h3;rw[<-NM o]
   cases f:t j with
   | none =>
    rw[f] at u
    have eq:Ym t (R a) j=none:=by unfold Ym;rw[f]
    rw[eq]
    exact .inl (by rw[en];exact u)
   | some l =>
    rw[f] at u;obtain ⟨h0,H4,h1,h2,x6⟩:=u
    have eq:Ym t (R a) j=if y_ (R a) j=iD (bm l) then some l else none:=by unfold Ym;rw[f]
    rw[eq];by_cases c:y_ (R a) j=iD (bm l)
    ·rw[if_pos c]
     exact ⟨h0,H4,h1,fun k hk=>by rw[en];exact h2 k hk,c⟩
    rw[if_neg c];exact .inr ⟨l,h0,h1,fun k hk=>by rw[en];exact h2 k hk,fun e=>c e.symm⟩
  refine (E6 (T:=F) O.hv fun W k=>I6 (M.no (h.k.trans k)) (O.hb.no k) (by have:=h.k.size;have:=k.size;omega) rfl (R a) H5 H7 H8 o_ o_ S.count o_ o_ (h4.kp k fun h=>h) 0 a o_ (fun i n=>o_) (A 0) ha (r a ha 0 o_) (bh (R 0)) (fun e=>⟨r 0 d_ 0 o_,E 0 d_,.inr (by rw[Z];exact m e)⟩) _ h8 (fun j o=>by
   unfold uW
   rw[if_pos o];exact Nat.zero_le _)).mono ?_
  rintro e w'' ⟨rfl,hk⟩;have h5:Kp Ft w' w'':=hk.mono fun x _ H2=>(hF x).2 (.inl H2);exact ⟨25,rfl,h.hz.kp h5 fun H1=>(h.F _ H1).2.1 rfl,h.yF h5⟩
 by_cases m:dC (bh (R 0))=dC (bh S)
 ·exact found 0 d_ m (fun e=>o_)
 by_cases J:dC (bh (R 1))=dC (bh S)
 ·exact found 1 d_ J (fun _=>m)
 refine (Nl h M H L (fun i _=>A i) fun i n a ha=>⟨bh (R a),r a ha i n,E a ha,?_⟩).mono ?_
 ·rcases (by omega:a=0\/a=1) with rfl|rfl
  ·exact m
  exact J
 rintro e w'' ⟨rfl,hk⟩;exact ⟨24,rfl,(h.no hk).hz,hk.mono fun _ _ h=>h.elim⟩
def nR (W:W_) (S:cj) (vs vm:Value):(Instr.field 60 (.agg (dK S vs vm)) 0).run prog W=.ok (.int .u64 S.count) W:=k_
def WY:(prog.info? 29).map (fun i=>(i.zero,i.size,i.bytes))=some (some (.int .u64 0),1,8):=k_
def LL (m:Nat) (B:Nat->B_) (e:List B_):Prop:=e.length=m/\∀j,j<m->tl e j=B j
structure OldR (w wr:W_) (z p b v gt d s m i:Nat) (cv:Value) (q:Nat) (S:cj) (σ:Nat->ao) (f:Nat->Option B_) (dom:List Nat) (vn vl kv:Value) (now b5:List B_) (T:List (Nat->ao)) (cs:List Nat) (g:B_->Option B_) (gd:Nat) (pl:Bool) (Q Ft:Nat->Prop) (ch:Nat->Nat->B_) (B:Nat->B_):Prop where
 t:To w wr (fun x=>cv.ownBlock=some x) z p b v (d+2) q gt S σ f dom vn vl kv now b5 (FS T (d+2)) g gd pl Q Ft
 vo:Vo (d+2) d s S σ ch B
 wp:Wp m B f dom now
 la:LL m B b5
 sv:Sv (d+2) d s S σ T cs g pl
 cv:aH wr w.heap.size 29 cv (SE cs)
 cl:cs.length=i
 qq:q<=100*i
 nn:S.count<=2+i
 dm:dom.length<=i
 gg:gd<=2000*i
 rg:pl=true->0<i->∀x,p_ σ (d+2) x->g (kZ x)=some x
def OldX (w wr:W_) (z p b v e d s m i:Nat) (cv:Value):Prop:=∃q S σ f dom vn vl kv now b5 T cs g gd pl Q Ft ch B,OldR w wr z p b v e d s m i cv q S σ f dom vn vl kv now b5 T cs g gd pl Q Ft ch B
section
variable {S':cj} {iG:Nat->Nat->B_} {B':Nat->B_} {g:B_->Option B_}
def MK (e:Vo n d s S σ ch B) (hn:0<n) (h:∀x,p_ σ n x->g (kZ x)=some x):g (kZ ((⟨#[2]⟩:B_)++bs (bh S)))=some ((⟨#[2]⟩:B_)++bs (bh S)) :=
 h _ ⟨0,S.count % 2,hn,gx _ d_,by rw[e.vk.ok.rc 0 hn (e.al 0)]⟩
def Pb (h:Vo n d s S σ ch B) (o:Vo n d s S' τ iG B') (p:S'.count<S.count) (hn:0<n) (l:∀x,p_ τ n x->g (kZ x)=some x) (m:∀x,p_ σ n x->g (kZ x)=some x) :
  ∀i,i<n->∀a,a<2->∃c,tl (uW σ τ n i).now a=bs c/\c.length<=2048/\dC c≠dC (bh S):=fun i e a ha=>by
 obtain ⟨R,hR⟩:=o.rc;obtain ⟨j,q,_,_,_,_,k⟩:=hR a ha;refine ⟨bh (R a),by rw[z_ad _ _ _ _ e];exact k i e,by have:=Xg j;omega,Z_ h.vk.ok.ok j o_ (MK h hn m) (l _ ⟨i,a,e,ha,by rw[k i e]⟩)⟩
def KL (h:Vo n d s S σ ch B) (hn:0<n) (k:∀x,p_ σ n x->g (kZ x)=some x) :
  ∀i,i<n->∃e:List UInt8,tl (σ i).now 0=bs e/\e.length<=2048/\(S.count % 2=1->dC e≠dC (bh S)):=fun i j=>by
 obtain ⟨R,hR⟩:=h.rc;obtain ⟨l,q,o,_,_,_,m⟩:=hR 0 d_;exact ⟨bh (R 0),m i j,by have:=Xg l;omega,fun p=>Z_ h.vk.ok.ok l (o o_) (MK h hn k) (k _ ⟨i,0,j,d_,by rw[m i j]⟩)⟩
def Vo.pos (e:Vo n d s S σ ch B):0<S.count:=by
 obtain ⟨R,hR⟩:=e.rc;obtain ⟨_,g,_,_,h,_⟩:=hR 0 d_;omega
end
section
def J4 (hL:a_ w) (hw:10<=w.heap.size) (H6 H2 nn:Int) (u:Value) (N:Nat) (hu:ActsR w u N) :
  Cl 4 #[.agg #[.int .i64 H6,.int .i64 H2],u,.int .i64 nn] w fun e w'=>e=.returned (.bool true)/\Kp ac w w':=by
 obtain ⟨A,C,rfl,hNC,hC,aa⟩:=hu;have jQ:=Zz aa;obtain ⟨k,hk⟩:∃k,min N 8=k:=⟨_,rfl⟩;have Ni:k<=N:=o_;have bZ:k<=8:=o_;have Fi:min (N:Int) 8=(k:Int):=o_;have fk:=fun W=>JE W A N C k o_;have av:∀W ty,(Builtin.len_ #[23] ty #[.slice A N C]).run prog W=.ok (.int .i64 N) W:=fun W ty=>run_len_slice W _ ty A N C k_;generalize Value.slice A N C=u at *;have et:∀x:Int,(max 0 x).tmod 2=max 0 x % 2:=fun x=>Int.tmod_eq_emod_of_nonneg o_
 obtain ⟨d,hd⟩:∃d:Nat,IntKind.i64.wrap (2+(max 0 H6).tmod 2)=(d:Int)/\2<=d/\d<=4:=by
  refine ⟨(2+max 0 H6 % 2).toNat,?_,o_,o_⟩;rw[et,eM];omega
 obtain ⟨hd,h2,h4⟩:=hd
 obtain ⟨s,ri,CD⟩:∃s:Nat,(∀W:W_,(Op.shift .shl .i64 2 .i64 ((max 0 H2).tmod 2)).run prog W=.ok (.int .i64 s) W)/\sl s:=by
  rcases (show (max 0 H2).tmod 2=0\/(max 0 H2).tmod 2=1 by rw[et];omega) with e|e<;>rw[e]
  ·exact ⟨2,fun W=>k_,.inl rfl⟩
  exact ⟨4,fun W=>k_,.inr rfl⟩
 clear et
 have kA:2<=s/\s<=4:=by rcases CD with h|h<;>omega
 obtain ⟨m,hm⟩:∃m,s*d=m:=⟨_,rfl⟩
 have nV:0<m:=by rw[<-hm];exact Nat.mul_pos o_ o_
 have Fq:m<=16:=by rw[<-hm];exact Nat.mul_le_mul kA.2 h4
 have H1:=Zz hL;go_enter func4,ntmps4
 go_upto_region 1 with fail
 have ae:=((Kp.refl ac w).alloc (.cells #[.int .i64 H6,.int .i64 H2] 22));have y8:=Zz (ab.new w 22 #[.int .i64 H6,.int .i64 H2]);generalize w.alloc (.cells #[.int .i64 H6,.int .i64 H2] 22)=w1 at *;obtain ⟨G,hG⟩:∃G,w.heap.size=G:=⟨_,rfl⟩;have HG:=Zz hG;rw[hG] at y8 ⊢
 have aV:10<=w1.drew.heap.size:=by have:=ae.size;show 10<=w1.heap.size;omega
 have aM:=Zz (UZ (X:=fun _=>False) (H1.o.no ae.drew) aV ae.drew (fun x e=>e.elim) h2 h4 CD);rw[hm] at aM;have am:=Zz ae.drew;have y8:=Zz y8.o.drew;clear ae aV;refine fs ?_;generalize w1.drew=w2 at *;have b0:=y8.o.c0;have b1:=y8.o.c1;refine fp 0 ?_;refine cw 1 b0 ?_;refine fp 2 ?_;refine fp 3 ?_;refine fp 4 ?_;refine fp 5 ?_;refine cw 6 b1 ?_;refine fp 7 ?_;refine fp 8 ?_;refine fp 9 ?_;refine fd 10 fun K Qx hK=>?_;go_simp;refine aM.o.mono ?_;rintro e w3 ⟨z,p,b,v,h6,H5,y5,Ft,rfl,Z,kG⟩;refine hK _ _ (oW (oW oN)) ?_;clear hK K;have L:=Zz Z;clear Z kG b0 b1 aM y8;refine fp 11 ?_;refine fp 12 ?_;refine fp 13 ?_;refine fp 14 ?_;refine fp 15 ?_;refine fe ?_;clear hd ri;generalize (max 0 H6).tmod 2=y0 at *;generalize (max 0 H2).tmod 2=y1 at *;generalize max 0 H6=y2 at *;generalize max 0 H2=y3 at *;go_wp2_with fail;refine (Oo (H1.o.no L.o.k) (by have:=L.o.k.size;omega)).mono ?_;rintro e w4 ⟨rfl,ar⟩;have gK:Hid (OldX w w4 z p b v h6 d s m 0 (.slice none 0 0)):=Zz ⟨0,_,_,_,[],_,_,_,_,_,[],[],_,0,true,_,_,_,_,⟨(L.o.no ar).less (Y:=fun x=>(Value.slice none 0 0).ownBlock=some x) fun x e=>(by cases e),Vo.begin h2 h4 CD,Wp.begin m,⟨Aa,fun j x6=>(Wp.begin m).at' j x6⟩,Sv.nil _ _ _ _ _ _ _,aH.nil_ _ _ _,rfl,bS _,bS _,bS _,bS _,fun _ h=>absurd h (Nat.lt_irrefl 0)⟩⟩;have gD:=Zz hm;clear hL aa ar L am
 go_upto_region 6 with fail
 go_loopw [9,46] (fun s9 CB wr=>∃i:Nat,i<=k/\CB=.int .i64 i/\Hid (OldX w wr z p b v h6 d s m i s9)) (fun _ CB _=>(k-intOf CB).toNat)
 case atStart=>exact ⟨0,o_,rfl,gK⟩
 case round =>
  clear gK;obtain ⟨i,hi,rfl,HX⟩:=hrel;obtain ⟨q,S,σ,f,dom,H5,y5,kv,now,b5,T,cs,g,H9,h9,Q,Ft,ch,B,o⟩:=HX.o;have l:=Zz o;clear o HX
  obtain ⟨U,R,rfl⟩:∃A c,u9=.slice A i c:=by
   obtain ⟨A,c,e⟩:=l.o.cv.shape;exact ⟨A,c,by rw[e,v_I,l.o.cl]⟩
  by_cases af:i<k
  ·have bL:(i:Int)<(k:Int):=o_
   obtain ⟨H8,off,rfl,V,a,c,t,h7,r,cell,hc⟩:=jQ.o i o_
   have x2:∀j,j<7->wr.cell? ⟨H8,off+i*7+j,none⟩=(BK V a c t r cell h7)[j]?:=fun j x6=>by
    have h1:=hc j x6;have h2:∃y,(BK V a c t r cell h7)[j]?=some y:=⟨_,Array.getElem?_eq_getElem (by show j<7;exact x6)⟩;obtain ⟨y,x7⟩:=h2;rw[x7] at h1 ⊢;exact (l.o.t.k.below0.cell (fV w _ h1)).trans h1
   have q0:wr.cell? ⟨H8,off+i*7,none⟩=some (.int .i64 V):=x2 0 d_;have q1:wr.cell? ⟨H8,off+i*7+1,none⟩=some (.int .i64 a):=x2 1 d_;have q2:wr.cell? ⟨H8,off+i*7+2,none⟩=some (.int .i64 c):=x2 2 d_;have q3:wr.cell? ⟨H8,off+i*7+3,none⟩=some (.int .i64 t):=x2 3 d_;have q4:wr.cell? ⟨H8,off+i*7+4,none⟩=some (.int .u8 r.toNat):=x2 4 d_;have q5:wr.cell? ⟨H8,off+i*7+5,none⟩=some (.string cell):=x2 5 d_;have q6:wr.cell? ⟨H8,off+i*7+6,none⟩=some (.int .u64 h7):=x2 6 d_;clear hc x2;have H0:=Zz (ab.new wr 31 (BK V a c t r cell h7));have Vz:=Zz (l.o.t.add (g2:=wr.heap.size) (w'':=wr.alloc (.cells (BK V a c t r cell h7) 31)) (bS _) (by rw[World.size_alloc];omega) ((Kp.refl ac wr).alloc (.cells (BK V a c t r cell h7) 31)));have kB:=Zz (l.o.cv.alloc (.cells (BK V a c t r cell h7) 31));have iM:Hid (w.heap.size<=wr.heap.size):=Zz l.o.t.k.size
   go_upto_region 8 with fail
   clear q0 q1 q2 q3 q4 q5 q6;change Code.wp _ _ _ _ (wr.alloc (.cells (BK V a c t r cell h7) 31));generalize wr.alloc (.cells (BK V a c t r cell h7) 31)=w5 at *;generalize wr.heap.size=P at *;have Rh:=H0.o.c0;have a1':=H0.o.c1;have a2':=H0.o.c2;have a3':=H0.o.c3;have a4':=H0.o.c4;have a5':=H0.o.c5;have a6':=H0.o.c6;have co:=gD.o;have Ri:=YZ Vz.o H1.o l.o.vo.vk (by rw[co];exact l.o.wp) (by have:=l.o.dm;omega) V a c t h7 r cell;rw[co] at Ri;have jG:=Zz Ri;have mc:Hid (Aj a m<m):=Zz (gx _ nV);clear co Ri;go_wp2_with fail;refine jG.o.mono ?_;rintro e w6 ⟨rfl,JT,au⟩;have E:=Zz JT;have ji:=Zz (H0.o.kp au fun h=>h.2 (.inr rfl));have y4:=Zz (kB.o.kp au fun x o h=>h.2 (.inl o));have wV:=Zz (l.o.wp.write mc.o (xE r c))
   have Rj:(e8 dom (Aj a m)).length<=i+1:=by have:=dB dom (Aj a m);have:=l.o.dm;omega
   clear JT au Vz kB H0 jG Rh a1' a2' a3' a4' a5' a6'
   go_upto_region 9 with fail
   have dV:=Zz (show OldR w wr z p b v h6 d s m i (.slice U i R) q S σ f dom H5 y5 kv now b5 T cs g H9 h9 Q Ft ch B from l.o)
   go_cut [61] (fun s61 wx=>s61=.bool false/\Hid (∃O n σ' h5 M H3 h8 Ft' H B',To w wx (fun x=>(Value.slice U i R).ownBlock=some x\/x=P) z p b v (d+2) O h6 n σ' h5 M H5 H3 kv (now.set (Aj a m) (Gj r c)) h8 (FS T (d+2)) g H9 h9 Q Ft'/\Vo (d+2) d s n σ' H B'/\Wp m B' h5 M (now.set (Aj a m) (Gj r c))/\LL m B' h8/\O<=q+100/\M.length<=i+1/\(n.count=S.count+1\/n=S/\σ'=σ))/\Hid (aH wx w.heap.size 29 (.slice U i R) (SE cs)))
   case first =>
    have Rh:=ji.o.c0;by_cases ui:bits .and .i64 V 1=0
    ·have VA:=Zz (to_sync E.o H1.o hw l.o.vo (by have:=l.o.nn;omega) (by have:=l.o.qq;omega) (by rw[gD.o];exact wV.o))
     go_wp2_with fail;refine VA.o.mono ?_;rintro e w7 ⟨rfl,O,n,σ',H,B',H3,Ft',Z,hV,x0,hq,x5,y9⟩;rw[gD.o] at x0;have pg:Hid (∃O n σ' h5 M H3 h8 Ft' H B',To w w7 (fun x=>(Value.slice U i R).ownBlock=some x\/x=P) z p b v (d+2) O h6 n σ' h5 M H5 H3 kv (now.set (Aj a m) (Gj r c)) h8 (FS T (d+2)) g H9 h9 Q Ft'/\Vo (d+2) d s n σ' H B'/\Wp m B' h5 M (now.set (Aj a m) (Gj r c))/\LL m B' h8/\O<=q+100/\M.length<=i+1/\(n.count=S.count+1\/n=S/\σ'=σ)):=Zz ⟨O,n,σ',_,_,H3,_,Ft',H,B',Z,hV,x0,⟨x0.len,fun j x6=>x0.at' j x6⟩,hq,Nat.zero_le _,x5⟩;have x8:=Zz (y4.o.kp y9 fun x o h=>h.2 (.inl o));clear Z hV x0 hq x5 y9 VA Rh;go_wp2_with fail
     go_meet
     exact ⟨rfl,pg,x8⟩
    have pg:Hid (∃O n σ' h5 M H3 h8 Ft' H B',To w w6 (fun x=>(Value.slice U i R).ownBlock=some x\/x=P) z p b v (d+2) O h6 n σ' h5 M H5 H3 kv (now.set (Aj a m) (Gj r c)) h8 (FS T (d+2)) g H9 h9 Q Ft'/\Vo (d+2) d s n σ' H B'/\Wp m B' h5 M (now.set (Aj a m) (Gj r c))/\LL m B' h8/\O<=q+100/\M.length<=i+1/\(n.count=S.count+1\/n=S/\σ'=σ)):=Zz ⟨q,S,σ,_,_,y5,b5,Ft,ch,B,E.o,l.o.vo,wV.o,l.o.la,o_,Rj,.inr ⟨rfl,rfl⟩⟩;go_wp2_with fail
    go_meet
    exact ⟨rfl,pg,y4⟩
   case rest =>
    obtain ⟨rfl,HR,x8⟩:=hcut;clear E ji y4 wV dV;obtain ⟨O,n,σ',h5,M,H3,h8,Ft',H,B',Z,hV,x0,VB,DR,iK,x5⟩:=HR.o;have iu:=Zz hV;have uG:=Zz x0;have jk:=Zz VB;have qX:=Zz (l.o.sv.synced x5);have jF:=Zz x5
    have x1:Hid (O<=100*(i+1)/\n.count<=2+(i+1)/\H9<=2000*i/\T.length=i/\cs.length=i):=Zz ⟨by have:=l.o.qq;omega,by
     have:=l.o.nn;rcases x5 with e|⟨e,_⟩
     ·omega
     rw[e];omega,l.o.gg,l.o.sv.len.trans l.o.cl,l.o.cl⟩
    have vp:=Zz (to_look Z H1.o hw hV (by have:=l.o.gg;omega));clear Z hV x0 VB DR x5 HR l;go_wp2_with fail;refine vp.o.mono ?_;rintro e y6 ⟨rfl,ok,g',Rk,bu,I⟩;have JU:=Zz (qX.o.look bu)
    have uD:Hid ((ok && h9)=true->∀x,p_ σ' (d+2) x->g' (kZ x)=some x):=Zz fun e=>by
     simp only[Bool.and_eq_true] at e;exact (bu e.1).2
    have y7:=Zz (x8.o.kp I fun x o h=>h.2 (.inl o));have jU:=Zz (to_save Rk iu.o (by rw[xP,x1.o.2.2.2.1];omega));have J:=Rk.hz.c0;clear Rk bu I qX x8 vp jF;go_wp2_with fail;refine jU.o.mono ?_;rintro e w9 ⟨rfl,pE,Q',x3,h3⟩;obtain ⟨st,H7,JV⟩:=CZ x3 iu.o.vk.ok.ok;have H4:=Zz x3;have aR:=Zz H7;have nZ:=Zz JV;have JW:=Zz (y7.o.kp h3 fun x o h=>h.2 (.inl o));have JX:=Zz (JU.o.save iu.o uD.o);clear J;have J:=x3.hz.c0;clear x3 h3 H7 JV jU y7 JU;go_wp2_with fail;refine (Lg H4.o.hm).mono ?_;rintro e bY ⟨rfl,rfl⟩;go_wp2_with fail;refine (aR.o _ (Kp.refl _ _)).mono ?_;rintro e fN ⟨rfl,rfl⟩;go_wp2_with fail;refine (nZ.o _ (Kp.refl _ _)).mono ?_;rintro e iN ⟨bN,bX,rfl,cF⟩;have qH:=Zz (H4.o.no cF);have CF:=Zz (JW.o.kp cF fun _ _ h=>h);have VC:=fun W=>nR W n bN bX;have aj:w.heap.size<=iN.heap.size:=qH.o.k.size;generalize Value.agg (dK n bN bX)=sv at *;clear J cF H4 JW aR nZ
    go_upto_region 16 with (at_builtin;refine Bp (w0:=iN) w.heap.size rfl (.tmp 74) (.tmp 83) 54 29 (.int .u64 0) 8 rfl underlying54 WY rfl d_ _ _ (.int .u64 n.count) rfl rfl rfl CF.o ((Below.refl _ _).mono aj) aj (by rw[v_I];have:=x1.o;omega) ?_;intro v1 gh bt fF bT aZ;obtain ⟨A1,c1,rfl⟩:∃A c,v1=.slice A (i+1) c:=(by obtain ⟨A,c,e⟩:=bt.shape;exact ⟨A,c,by rw[e,cd,v_I,x1.o.2.2.2.2];rfl⟩);have bq:=Zz bt;have bV:=Zz bT;have mW:Hid ((Value.slice A1 (i+1) c1).ownBlock=(Value.slice U i R).ownBlock\/∃b,(Value.slice A1 (i+1) c1).ownBlock=some b/\iN.heap.size<=b):=Zz aZ;clear bt fF bT aZ)
    have Rl:Hid (OldX w gh z p b v h6 d s m (i+1) (.slice A1 (i+1) c1)):=Zz (by
     have aA:=Kp.of_grown bV.o (S:=fun x=>some x=(Value.slice U i R).ownBlock) fun _ h=>h
     have VD:=qH.o.reX (X':=fun x=>(Value.slice A1 (i+1) c1).ownBlock=some x) aA (fun x e=>⟨.inl e.symm,(CF.o.lt x e.symm).1⟩) (fun x e=>by
      rcases mW.o with h|⟨b,h,hb⟩
      ·exact .inl (.inl (by rw[<-h];exact e))
      refine .inr ⟨?_,(bq.o.lt x e).2⟩;rw[h] at e;injection e with e
      omega)
     rw[<-Q9] at VD;refine ⟨O,n,σ',h5,M,H5,H3,pE,_,h8,T++[σ'],cs++[n.count],g',_,ok && h9,Q',Ft',H,B',⟨VD,iu.o,uG.o,jk.o,JX.o,?_,?_,x1.o.1,x1.o.2.1,iK,?_,fun e _=>uD.o e⟩⟩
     ·rw[Q7];exact bq.o
     ·rw[cd,x1.o.2.2.2.2];rfl
     have:=x1.o.2.2.1
     omega)
    clear bq bV mW qH CF iu uG jk JX uD x1;go_wp2;go_roundw
    case rel=>exact ⟨i+1,o_,by go_num,Rl⟩
    case measure=>simp[intOf];omega
  obtain rfl:i=k:=o_;clear jQ fk av;by_cases gB:i=0
  ·subst gB
   go_wp2;go_ret;exact ⟨rfl,l.o.t.k⟩
  have aQ:¬((i:Int)=0):=o_;have VE:0<i:=o_
  obtain ⟨kk,yh,o8⟩:∃kk:Nat,(max (0:Int) nn).tmod (i:Int)=(kk:Int)/\kk<i:=by
   have e:=Int.tmod_eq_emod_of_nonneg (b:=(i:Int)) (show 0<=max 0 nn by omega);have h1:=Int.emod_nonneg (max 0 nn) (show (i:Int)≠0 by omega);have h2:=Int.emod_lt_of_pos (max 0 nn) (show 0<(i:Int) by omega);exact ⟨(max 0 nn % (i:Int)).toNat,by rw[e];omega,o_⟩
  have wU:T.length=i:=l.o.sv.len.trans l.o.cl;obtain ⟨τ,hτ⟩:∃τ,T[kk]'o_=τ:=⟨_,rfl⟩;have Rm:=l.o.sv.at' kk o_;rw[hτ] at Rm;have CG:=Zz Rm;have DT:Hid ((FS T (d+2)).getD kk []=ye τ (d+2)):=Zz (by rw[TN _ _ _ o_,hτ]);have VF:Hid ((FS T (d+2)).length=i):=Zz (by rw[xP];exact wU);obtain ⟨st,H7,JV⟩:=CZ l.o.t l.o.vo.vk.ok.ok;have aR:=Zz H7;have nZ:=Zz JV;have J:=l.o.t.hz.c0;obtain ⟨w1,rfl⟩:∃x,x=wr:=⟨wr,rfl⟩;clear H7 JV Rm hτ wU;go_wp2_with fail;refine (Lg l.o.t.hm).mono ?_;rintro e w5 ⟨rfl,rfl⟩;go_wp2_with fail;refine (aR.o _ (Kp.refl _ _)).mono ?_;rintro e w6 ⟨rfl,rfl⟩;go_wp2_with fail;refine (nZ.o _ (Kp.refl _ _)).mono ?_;rintro e w7 ⟨bN,bX,rfl,y9⟩;have ta:=Zz (l.o.t.no y9);have x8:=Zz (l.o.cv.kp y9 fun _ _ h=>h);have VC:=fun W=>nR W S bN bX;generalize Value.agg (dK S bN bX)=sv at *;clear J y9 aR nZ;have J:=ta.o.hz.c0;go_wp2_with fail;refine (Lg ta.o.hm).mono ?_;rintro e y6 ⟨rfl,rfl⟩;go_wp2_with fail;refine (G_ ta.o).mono ?_;rintro e w9 ⟨rfl,Cw,x3,h3⟩;have JW:=Zz (x8.o.kp h3 fun x o h=>h.2 o);have H4:=Zz x3;clear J h3 x3 ta x8 VC;have J:=H4.o.hz.c0;go_wp2_with fail;refine (mu_bank H4.o.hm).mono ?_;rintro e bY ⟨rfl,rfl⟩
  have yV:Hid (Cl 21 #[.pointer (some ⟨b,0,none⟩)] bY fun e w'=>e=.returned (.int .i64 (d+2:Nat))/\w'=bY):=Zz (by
   obtain ⟨an,gm,F,h0,hF⟩:=H4.o.hm
   exact x_m h0.hb)
  go_wp2_with fail;refine yV.o.mono ?_;rintro e fN ⟨rfl,rfl⟩;have me:Hid (Tm w fN (fun x=>(Value.slice U i R).ownBlock=some x) z p b v (d+2) h6 S (uW σ τ 0) [] H5 y5 kv b5 (FS T (d+2)) g H9 h9 Q Cw):=Zz (by rw[JI];exact H4.o);clear J yV H4
  go_upto_region 23 with fail
  go_loopw [114] (fun CH wr=>∃j:Nat,j<=d+2/\CH=.int .i64 j/\Hid (∃D Ft',D.length<=j/\Tm w wr (fun x=>(Value.slice U i R).ownBlock=some x) z p b v (d+2) h6 S (uW σ τ j) D H5 y5 kv b5 (FS T (d+2)) g H9 h9 Q Ft')/\Hid (aH wr w.heap.size 29 (.slice U i R) (SE cs))) (fun CH _=>(d+2-intOf CH).toNat)
  case atStart=>exact ⟨0,o_,rfl,Zz ⟨[],Cw,bS _,me.o⟩,JW⟩
  case round =>
   clear me JW;obtain ⟨j,x6,rfl,HR,HC⟩:=hrel;obtain ⟨D,Ft',hD,Z⟩:=HR.o;have L:=Zz Z;clear Z HR;have J:=L.o.hz.c0;by_cases uB:j<d+2
   ·have pY:(j:Int)<(d:Int)+2:=o_
    have hjn2:(j:Int)<((d+2:Nat):Int):=o_;obtain ⟨⟨n,H,B',x9,_⟩,_⟩:=CG.o;have dr:=Zz (tm_back L.o j uB o_ (v_A _ _ _ _ (l.o.vo.al j)) o_ kk (by rw[VF.o];exact o8) (by rw[VF.o];omega) (by rw[DT.o,j0]) (τ j).now (by rw[DT.o,Vn _ _ _ uB]) (x9.vk.ok.dk j uB).len (fun y _=>x9.sz j y));clear x9;go_wp2_with fail;refine dr.o.mono ?_;rintro e w5 ⟨rfl,Ft3,Rn,aE⟩;rw[Hd] at Rn;have nS:Hid (∃D Ft',D.length<=j+1/\Tm w w5 (fun x=>(Value.slice U i R).ownBlock=some x) z p b v (d+2) h6 S (uW σ τ (j+1)) D H5 y5 kv b5 (FS T (d+2)) g H9 h9 Q Ft'):=Zz ⟨_,Ft3,by have:=dB D j;omega,Rn⟩;have kB:=Zz (HC.o.kp aE fun x o h=>h.2 o);clear Rn aE L HC dr J;go_wp2;go_roundw
    case rel=>exact ⟨j+1,o_,by go_num,nS,kB⟩
    case measure=>simp[intOf];omega
   obtain rfl:j=d+2:=o_;obtain ⟨⟨n,H,B',x9,dR⟩,dq,rq,nh⟩:=CG.o;have vp:=Zz (tm_look L.o H1.o hw (fun y x7=>v_A _ _ _ _ (l.o.vo.al y)) (fun y x7 x o=>by rw[z_ad _ _ _ _ x7];exact x9.sz y x) (by have:=l.o.gg;omega));have VG:=Zz x9;have lX:=Zz rq;have uD:=Zz nh;have nD:Hid (n.count<=S.count/\n.count=cs.getD kk 0):=Zz ⟨by rw[dR];exact dq,dR⟩;clear x9 rq nh dR dq CG;go_wp2_with fail;refine vp.o.mono ?_;rintro e w6 ⟨rfl,ok,g',JT,bu,au⟩;have y4:=Zz (HC.o.kp au fun x o h=>h.2 o);have E:=Zz JT;have JY:=Zz bu;clear J JT bu au vp L HC;have J:=E.o.hz.c0
   have tI:S.count<800:=by have:=l.o.nn;omega
   go_wp2_with fail;refine (v_4 E.o.hm).mono ?_;rintro e w7 ⟨rfl,rfl⟩;clear J
   cases iY:(ok && h9) with
   | false =>
    rw[iY] at E;go_wp2_with fail;refine (ze E.o H1.o hw l.o.vo VG.o tI nD.o.1 (fun e=>lX.o (by rw[<-nD.o.2];exact e))).mono ?_;rintro e y6 ⟨er,rfl,x4,I⟩;have c5:=x4.c5;have bp:=Zz (E.o.k.then I fun x o h=>(by have:=h.1;omega));clear x4 I;go_wp2;go_ret
    exact ⟨rfl,bp.o⟩
   | true =>
    rw[iY] at E;simp only[Bool.and_eq_true] at iY;obtain ⟨h1,h2⟩:=JY.o iY.1;have bE:Hid (∀x,p_ τ (d+2) x->g' (kZ x)=some x):=Zz fun x o=>h1 _ _ (uD.o iY.2 x o);have vM:Hid (∀x,p_ σ (d+2) x->g' (kZ x)=some x):=Zz fun x o=>h1 _ _ (l.o.rg iY.2 VE x o);clear h1 h2 JY uD;have ij:=l.o.vo.pos;obtain ⟨gc,cc,eA,_,_,_⟩:=y4.o.form (by rw[v_I,l.o.cl];exact VE);rw[v_I,l.o.cl] at eA;injection eA with eA _ eC;subst eA eC
    have yP:Hid (∀W,aH W w.heap.size 29 (.slice (some ⟨gc,0,none⟩) i R) (SE cs)->W.cell? ⟨gc,kk,none⟩=some (.int .u64 n.count)):=Zz fun W h=>by
     have e:(SE cs).length=i:=by rw[v_I];exact l.o.cl
     rw[<-e] at h;rw[h.cell kk (by rw[e];exact o8),cvL_at _ _ (by rw[l.o.cl];exact o8),<-nD.o.2]
    have hkki:(kk:Int)<(i:Int):=o_;by_cases VH:n.count=S.count
    ·have tN:=A8 l.o.vo (lX.o (by rw[<-nD.o.2];exact VH))
     rw[tN] at E;go_wp2_with fail;refine (EF E.o H1.o hw l.o.vo o_ ij tI (KL l.o.vo o_ vM.o)).mono ?_;rw[hm];rintro e y6 ⟨rfl,x4,zt,VI,H7,bP,I⟩;have y7:=Zz (y4.o.kp I fun x o h=>h.2 o);have c5:=x4.c5;have ck:=yP.o y6 y7.o;rw[VH] at ck;have bp:=Zz (E.o.k.then I fun x o h=>(by have:=h.1;omega));have oS:=l.o.la;have dO:=Zz (Od x4 rfl oS.1 nV o_ VI H7 (fun W k y x7=>by rw[oS.2 y x7];exact bP W k y x7));have nF:=Zz zt;have HZ8:=Zz x4;have fT:Hid (b5.length<=100000):=Zz (by rw[oS.1];omega);clear I x4 zt VI H7 bP oS;go_wp2_with fail;refine dO.o.mono ?_;rintro e w9 ⟨lv,rfl,VJ,h3⟩;have HEQ:=Zz (tM VJ.reads ((nF.o.kp h3 fun _ _ h=>h).reads) fT.o);have c2:w9.cell? ⟨z,2,none⟩=some y5:=(HZ8.o.kp h3 fun h=>h).cell 2;have aL:=Zz (bp.o.trans h3);clear VJ h3 c5 ck dO;go_wp2_with fail;refine HEQ.o.mono ?_;rintro e bY ⟨rfl,bZ⟩;have bW:=Zz (aL.o.trans bZ);clear bZ c2;go_wp2;go_ret;exact ⟨rfl,bW.o⟩
    have mO:n.count<S.count:=by have:=nD.o.1;omega
    go_wp2_with fail;refine (Nl E.o H1.o hw ij (fun y _=>v_A _ _ _ _ (l.o.vo.al y)) (Pb l.o.vo VG.o mO o_ bE.o vM.o)).mono ?_;rintro e y6 ⟨rfl,I⟩;have y7:=Zz (y4.o.kp I fun _ _ h=>h);have c5:y6.cell? ⟨z,5,none⟩=some (.bool true):=(E.o.no I).hz.cell 5;have ck:=yP.o y6 y7.o;have ug:¬((n.count:Int)=(S.count:Int)):=o_;have bp:=Zz ((E.o.no I).k);clear I;go_wp2;go_ret;exact ⟨rfl,bp.o⟩
end
end Go.Proofs.YtdkheklakfbeeaaGreatDoor
section
open Go.Proofs.Tryz
namespace Go.Proofs.YtdkheklakfbeeaaGreatDoor.lawTopOld
open Go.ChangeShapes Go.WideShapes Go.ChangeAt Go.RowKit
def own:ownKnob prog.godebug=none:=k_
def laidOut:laidOutB prog=true:=k_
def Wx (os:Os) (args:Array Value):laidMetH prog Rows.topOldRow.laid ((World.doorLaid prog 400 os).forCall (fun _ _=>0) ⟨#[],args,[]⟩).memory :=
 laidMetH_of_parts3 (fuel:=8) (laidMet_of_run' 8 k_ k_) k_ k_
end Go.Proofs.YtdkheklakfbeeaaGreatDoor.lawTopOld
end
section
open Go.Proofs.Tryz
namespace Go.Proofs.YtdkheklakfbeeaaGreatDoor.lawTopOld
open Go.ChangeShapes Go.WideShapes Go.ChangeAt Go.RowKit
def Va {l:List Int} (h:l.length=2):∃a b,l=[a,b]:=by
 match l,h with
 | [a,b],_=>exact ⟨a,b,rfl⟩
def g10:decide (10<=(Go.begin prog (fun _ _=>0) default).world.heap.size)=true:=k_
def g6:decide (prog.globals.size<=9)=true:=k_
def size_of {w:W_} (h:w.ShapedOpen prog):10<=w.heap.size:=by
 obtain ⟨o,_,e,_⟩:=h.2 9 (of_decide_eq_true g6) (ea d_ (of_decide_eq_true g10));have:=(F4.1 e).1;omega
def core {H:Type} {enc:TypeId × Value->H} (W:W_) (base:Nat) (args:Array Value) (s U:List (DataW H)) (before:List MemPlace)
  (E:∀(j:Nat) t v,Tryz.f4.params[j]?=some t->args[j]?=some v->Value.okWide prog W .any base t v)
  (a:DataW.Whole enc prog Tryz.f4.params.toList Rows.topOldSpec.vars false W args.toList s U before) (X:laidMetH prog Rows.topOldRow.laid W) (Q:10<=W.heap.size) :
  Cl 4 args W fun e r=>∃v,e=.returned v/\Rows.topOldSpec.post enc prog Tryz.f4 false true false false W args v r:=by
 have g:∀(j:Nat) t v,Tryz.f4.params[j]?=some t->args[j]?=some v->Value.okWide prog W .any base t v:=E;have I:=a;obtain ⟨p,q,o,Y,rfl,h4,A⟩:=a;have z:DataW.TrodAll enc prog W 0 (fun _=>true) true Tryz.f4.params.toList args.toList s p:=o;rw[Tryz.params4] at z g;obtain ⟨d,h8,d0,R,C,q0,h2,rfl,rfl,u,F⟩:=trodAll_cons z;obtain ⟨n,w,d1,S,D,h6,rfl,rfl,rfl,y,K⟩:=trodAll_cons F;obtain ⟨f,h0,d2,T,h5,h7,rfl,rfl,rfl,V,L⟩:=trodAll_cons K;obtain ⟨rfl,rfl,rfl⟩:=trodAll_nil L
 obtain rfl:args=#[d,n,f]:=by cases args;simp_all
 obtain ⟨rfl,rfl⟩:=trodVars_none Y;have b:=u
 have k:∀x∈C,x.block<W.heap.size:=by obtain ⟨m,hm⟩:=b;exact DataW.trod_lt m _ _ _ hm
 obtain ⟨h3,B,rfl⟩:=Sa (show prog.underlying 22=some (.array 2 3) by kernel_rfl) underlying3 k_ k_ (g 0 22 d rfl rfl) u;have c:=y
 have l:∀x∈D,x.block<W.heap.size:=by obtain ⟨m,hm⟩:=c;exact DataW.trod_lt m _ _ _ hm
 obtain ⟨N,G⟩:=OB (g 1 23 n rfl rfl) y;obtain ⟨nn,rfl,rfl,rfl,h1⟩:=open_int underlying3 (g 2 3 f rfl rfl) V;have J:=lay_of (show laidMetH prog Rows.topLostRow.laid W from X);clear o E;obtain ⟨M,O,rfl⟩:=Va B;refine (J4 J Q M O nn n N G).mono fun e r ⟨Z,P⟩=>?_;subst Z;have i:=P.below0;exact ⟨_,rfl,_,_,_,[],_,[],I,trodAll_mk1 (shut_bool underlying4 _),(trodAll_cons_mk (Below.trod laidOut k_ (of_decide_eq_true k_) b i k) (trodAll_cons_mk (Below.trod laidOut k_ (of_decide_eq_true k_) c i l) (trodAll_cons_mk (shut_int underlying3 h1) trodAll_mk0))),rfl,i.frame _,fun h=>by cases h⟩
end Go.Proofs.YtdkheklakfbeeaaGreatDoor.lawTopOld
end
section
open Go.Proofs.Tryz
namespace Go.Proofs.YtdkheklakfbeeaaGreatDoor.lawTopOld
open Go.ChangeShapes Go.WideShapes Go.ChangeAt Go.RowKit
def lifted (os:Os) (started:os.Started) (H:Type) (enc:TypeId × Value->H) :
  ReturnsInHanded {} Tryz.checked os 4 .any (fun w args=>(Rows.topOldSpec.pre enc prog Tryz.f4 [] false w args/\laidMetH prog Rows.topOldRow.laid w)/\sizedMet enc prog Tryz.f4 (OpenSpec.ofChange Rows.topOldSpec) false w args)
   (Rows.topOldSpec.post enc prog Tryz.f4 false true false false):=by
 refine returnsInHanded_of_calls (C:=Tryz.checked) own started k_
  (ChangeSpec.witness_shaped (enc:=enc) (C:=Tryz.checked) (os:=os) (X:=fun w _=>laidMetH prog Rows.topOldRow.laid w) false (World.doorLaid prog 400 os) #[.agg #[.int .i64 0,.int .i64 0],.slice none 0 0,.int .i64 0] 8 rfl (World.shaped_of_RefB k_ k_) k_ k_ k_ (Wx os _)) ?_
 intro w tape i _ s _ l j t;obtain ⟨_,_,_,g,k,_,_,_,_,n⟩:=l;have e:g=Tryz.f4:=Option.some.inj (k.symm.trans func4);subst e;obtain ⟨⟨⟨m,o,before,q,x⟩,r⟩,hz⟩:=j;have h:=DataW.Whole.of_heap (w':=w.forCall tape i) (by rfl) q;refine (core (w.forCall tape i) w.heap.size i.args m o before n h (laidMetH.of_heap (w:=(w.forCall tape i).memory) (w':=w.forCall tape i) rfl r) (size_of s)).mono fun e u ⟨v,p,hp⟩=>?_;subst p;exact ChangeSpec.post_blind hp
end Go.Proofs.YtdkheklakfbeeaaGreatDoor.lawTopOld
end
section
open Go.Proofs.Tryz
namespace Go.Proofs.YtdkheklakfbeeaaGreatDoor.lawTopOld
open Go.ChangeShapes Go.WideShapes Go.ChangeAt Go.RowKit
def row:Rows.TopOldSaid :=
 OpenClaim.holds_of_wide 4 Tryz.f4 rfl rfl rfl rfl rfl rfl rfl ⟨rfl,rfl,rfl,rfl,rfl⟩ rfl rfl rfl rfl rfl (by as_aux_lemma=>kernel_rfl) func4 (by as_aux_lemma=>kernel_rfl)
  (of_decide_eq_true (by as_aux_lemma=>kernel_rfl)) (by unfold Func.isWrapper;first|(rw[if_pos (by decide +kernel)];kernel_rfl)|(rw[if_neg (by decide +kernel)];exact ⟨rfl,rfl⟩))
  (fun os started H enc _=>lifted os started H enc)
end Go.Proofs.YtdkheklakfbeeaaGreatDoor.lawTopOld
end
