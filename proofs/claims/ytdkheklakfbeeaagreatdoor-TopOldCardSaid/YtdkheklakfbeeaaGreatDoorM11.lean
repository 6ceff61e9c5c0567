/- Part 11 of the proof. -/
import Derived.Test.YtdkheklakfbeeaaGreatDoorM10
set_option linter.all false
set_option maxRecDepth 100000
set_option maxHeartbeats 16000000
namespace Go.Proofs.YtdkheklakfbeeaaGreatDoor
open Go.RowKit Tryz
variable {B b base e g k n q size t:Nat}{F:Nat->Prop}{P:Program}{S:cj}{cs:Array Value}{key l:List UInt8}{v:Value}{w w':W_}{xs:List Value}{σ:Nat->ao}
def Bu (w:W_) (B:Nat) (l:List UInt8):Prop:=Lib.IsBuilderF 232 5 B B (bv l) w
def Bu.kp {S:Nat->Prop} (h:Bu w B l) (k:Kp S w w') (m:∀q,B<=q->¬S q):Bu w' B l:=by
 have one:∀p,Lib.BuilderAtF 232 5 B B p (bv l) w->Lib.BuilderAtF 232 5 B B p (bv l) w':=fun p h=>by
  obtain ⟨j,v,hb,i,r⟩:=h;refine ⟨j,v,(k.block B (F4.1 hb).1 (m B j)).trans hb,⟨i.1,?_⟩,r⟩;rcases i.2 with hn|⟨g,o,s,fz,rfl,e,n,rest⟩
  ·exact .inl hn
  exact .inr ⟨g,o,s,fz,rfl,e,(k.block g (F4.1 n).1 (m g e)).trans n,rest⟩
 exact h.elim (fun h=>.inl (one _ h)) (fun h=>.inr (one _ h))
def Bu.kpT {S:Nat->Prop} (h:Bu w B l) (k:Kp S w w') (n:∀q,S q->∃t cs,ab w q t cs/\t≠5/\t≠232):Bu w' B l:=by
 have one:∀p,Lib.BuilderAtF 232 5 B B p (bv l) w->Lib.BuilderAtF 232 5 B B p (bv l) w':=fun p h=>by
  obtain ⟨x,v,hb,m,s⟩:=h;refine ⟨x,v,(k.block B (F4.1 hb).1 (fun hs=>?_)).trans hb,⟨m.1,?_⟩,s⟩
  ·obtain ⟨t,cs,e,_,i⟩:=n B hs
   unfold ab at e;rw[hb] at e;injection e with e;injection e with _ e;exact i e.symm
  rcases m.2 with hn|⟨g,r,u,fz,rfl,o,j,rest⟩
  ·exact .inl hn
  refine .inr ⟨g,r,u,fz,rfl,o,(k.block g (F4.1 j).1 (fun hs=>?_)).trans j,rest⟩;obtain ⟨t,cs,e,i,_⟩:=n g hs;unfold ab at e;rw[j] at e;injection e with e;injection e with _ e;exact i e.symm
 exact h.elim (fun h=>.inl (one _ h)) (fun h=>.inr (one _ h))
def Sz (h:aH w base e v xs) (i:v.ownBlock=some q):∃cs,ab w q e cs:=by
 rcases h.2 with ⟨rfl,_⟩|⟨g,k,l,rfl,_,j,_⟩
 ·cases i
 have:g=q:=by simpa[Value.ownBlock] using i
 subst this;exact ⟨_,j⟩
def Bu.no (h:Bu w B l) (k:Kp ac w w'):Bu w' B l:=h.kp k fun _ _ h=>h
def Bu.new (w:W_):Bu (w.alloc (.cells #[.pointer none,.slice none 0 0] 232)) w.heap.size []:=Lib.IsBuilderF.of (oH w)
def Bu.blk (h:Bu w B l):∃cs,ab w B 232 cs:=by
 rcases h with ⟨_,v,hb,_⟩|⟨_,v,hb,_⟩<;>exact ⟨_,hb⟩
def v6 (B:Nat) (w w':W_):Prop:=Below B w w'/\Lib.OthersKept 5 (some B) w w'
def v6.blk (h:v6 B w w') (hb:ab w g t cs) (i:t≠5) (hg:g≠B):ab w' g t cs :=
 h.2 g _ hb (fun e=>hg (Option.some.inj e)) (fun c fz e=>by injection e with _ e;exact i e)
def v6.own (h:v6 B w w') (j:aH w base e v xs) (m:e≠5) (n:v.ownBlock≠some B):aH w' base e v xs:=by
 refine ⟨j.1,?_⟩;rcases j.2 with hn|⟨g,l,i,rfl,k,o,rest⟩
 ·exact .inl hn
 exact .inr ⟨g,l,i,rfl,k,h.blk (show ab w g e i from o) m (fun e=>n (by rw[e];rfl)),rest⟩
def v6.no (h:v6 B w w') {w0:W_} (k:Kp ac w0 w) (g:w0.heap.size<=B):Kp ac w0 w' :=
 ⟨h.1.os.trans k.os,h.1.tape.trans k.tape,h.1.output.trans k.output,cL k.size h.1.size,fun q e hs=>(h.1.block q o_).trans (k.block q e hs)⟩
def Bu.write (h:Bu w B l) (x:List UInt8) (hl:l.length+x.length<=1000000) (k:B<=w.heap.size) :
  Cl 137 #[.pointer (some ⟨B,0,none⟩),.string (bs x)] w fun e w'=>e=.returned (.tuple #[.int .i64 (bs x).size,.nilIface])/\Bu w' B (l++x)/\v6 B w w':=by
 refine (Tryz.Builder_WriteString_k B B (bv l) (bs x) w h (by rw[og,cG];omega) k).mono ?_;rintro e w' ⟨rfl,g,i,j⟩;rw[strB,<-w_E] at g;exact ⟨rfl,.inr g,i,j⟩
def Bu.str (h:Bu w B l) (g:l≠[]) :
  Cl 139 #[.pointer (some ⟨B,0,none⟩)] w fun e w'=>e=.returned (.string (bs l))/\Below B w w':=by
 refine (Tryz.Builder_String_f B B l w h g).mono ?_;rintro e w' ⟨rfl,_,i⟩;exact ⟨rfl,i⟩
def lG (S:cj):List Nat:=[S.data,S.slots,0,0,0,S.data+2]++v7 S++[S.mem.length]
def pe (m:fv):List UInt8:=bQ m.st++df m.top.data.toList++df m.log.data.toList
def bh (S:cj):List UInt8:=(bQ S.count++bQ S.epoch)++(lG S).flatMap bQ++S.mem.flatMap pe
def tC (S:cj):(lG S).length=S.data+9:=by unfold lG;simp[v7]
def w_t {α:Type} (f:α->List UInt8) (k:Nat) (L:List α) (h:∀x∈L,(f x).length<=k):(L.flatMap f).length<=L.length*k:=by
 induction L with
 | nil=>simp
 | cons x l g =>
  rw[List.flatMap_cons,cd,List.length_cons];have:=g fun y e=>h y (List.mem_cons_of_mem _ e);have:=h x (List.mem_cons_self ..);rw[Nat.add_mul];omega
def xF {α:Type} (f:α->List UInt8) (L:List α) (i:Nat) (h:i<L.length):(L.take (i+1)).flatMap f=(L.take i).flatMap f++f (L[i]'h):=by
 rw[mx h,List.flatMap_append];simp
def v_P {m:fv} (e:m.top.size=32) (g:m.log.size=32):(pe m).length=88:=by
 unfold pe df;simp only[cd,ec,g5,e,g]
def numL_lt (e:a7 S):∀x∈lG S,x<=1000:=by
 intro x g;unfold lG at g;have i:=e.d8;have j:=e.n12
 have k:S.slots<=4:=by rcases e.sl with h|h<;>omega
 simp only[List.mem_append,List.mem_cons,List.not_mem_nil,or_false,v7,List.mem_range] at g;omega
def O_ (w:W_):Cl 175 #[.bool false] w fun e w'=>e=.returned (.int .i64 0)/\w'=w:=by
 go_enter func175,ntmps175;go_wp2;go_ret;exact ⟨rfl,rfl⟩
section
variable {vs vm:Value}
def Ea (Q:a7 S) (h:ja w S vs vm) :
  Cl 119 #[.agg (dK S vs vm)] w fun e w'=>e=.returned (.tuple #[.string (bs (bh S)),.int .i64 0])/\Kp ac w w':=by
 have HB:=Zz (ab.new w 60 (dK S vs vm));have HK:=Zz ((Kp.refl ac w).alloc (.cells (dK S vs vm) 60));have po:=Zz (fun W (k:Kp ac w W)=>hA Q (h.no k));obtain ⟨As,cs,Am,cm,cI,bU⟩:=h.shape;have h3:=Q.n1;have h4:=Q.n12;obtain ⟨H1,off,mM,ff⟩:=h.memAt (Kp.refl _ _) bU o_;clear ff;subst mM;obtain ⟨H2,H3,zR,fB⟩:=h.seatAt (Kp.refl _ _) cI;clear fB;subst zR;have gO:=Zz (fun w' (k:Kp ac w w')=>h.memAt k bU o_);have lX:=Zz (fun w' (k:Kp ac w w')=>(h.no k).1);have y3:=Zz Q.mem;have aR:=Zz Q.st2;have aP:=Q.c;have zN:=Q.e;have Dy:=Q.d8;have tU:=Zz (numL_lt Q);have U:=Zz (tC S)
 have sr:Hid (∀i,((lG S).take i).length*8<=200):=Zz fun i=>by rw[gC,tC];omega
 have y7:Hid (lG S=([S.data,S.slots,0,0,0,S.data+2]++v7 S)++[S.mem.length]):=Zz rfl;have nZ:Hid (bh S=(bQ S.count++bQ S.epoch)++(lG S).flatMap bQ++S.mem.flatMap pe):=Zz rfl
 have y6:(v7 S).length=S.data+2:=by simp[v7]
 subst cI bU;clear h Q;generalize lG S=o at *;generalize v7 S=R at *;generalize bh S=L at *;obtain ⟨count,epoch,d,s,mem⟩:=S
 dsimp only at h3 h4 aP zN Dy HB HK po gO lX y3 aR U y7 nZ y6 ⊢
 obtain ⟨n,hn⟩:∃n,mem.length=n:=⟨_,rfl⟩;have HN:=Zz hn;generalize dR:dK ⟨count,epoch,d,s,mem⟩ (.slice (some ⟨H2,H3,none⟩) (d+2) cs) (.slice (some ⟨H1,off,none⟩) mem.length cm)=CS at *;obtain ⟨m,hm⟩:∃m,d+2=m:=⟨_,rfl⟩
 have nX:CS=#[.int .u64 count,.int .u64 epoch,.int .i64 d,.int .i64 s,.int .i64 0,.int .i64 0,.bool false,.slice (some ⟨H2,H3,none⟩) m cs,.slice (some ⟨H1,off,none⟩) n cm]:=by rw[<-dR,hn,hm];rfl
 clear dR;rw[hn] at h3 h4;rw[hm] at y6 y7 lX y3 h3;have iK:d+9=m+7:=o_;have nV:0<m:=o_;rw[iK] at U;clear hn hm iK;subst nX;have ii:n<100:=o_;have nB:m<100:=o_;have rM:d<=4:=Dy;clear Dy;go_enter func119,ntmps119
 go_upto_region 1 with fail
 generalize aV:w.alloc (.cells #[.int .u64 count,.int .u64 epoch,.int .i64 d,.int .i64 s,.int .i64 0,.int .i64 0,.bool false,.slice (some ⟨H2,H3,none⟩) m cs,.slice (some ⟨H1,off,none⟩) n cm] 60)=w1 at *;clear aV;generalize w.heap.size=G at *;have ag:∀W,Hid (ab W G 60 #[.int .u64 count,.int .u64 epoch,.int .i64 d,.int .i64 s,.int .i64 0,.int .i64 0,.bool false,.slice (some ⟨H2,H3,none⟩) m cs,.slice (some ⟨H1,off,none⟩) n cm])->W.cell? ⟨G,0,none⟩=some (.int .u64 count)/\W.cell? ⟨G,1,none⟩=some (.int .u64 epoch)/\W.cell? ⟨G,2,none⟩=some (.int .i64 d)/\W.cell? ⟨G,3,none⟩=some (.int .i64 s)/\W.cell? ⟨G,4,none⟩=some (.int .i64 0)/\W.cell? ⟨G,5,none⟩=some (.int .i64 0)/\W.cell? ⟨G,6,none⟩=some (.bool false)/\W.cell? ⟨G,7,none⟩=some (.slice (some ⟨H2,H3,none⟩) m cs)/\W.cell? ⟨G,8,none⟩=some (.slice (some ⟨H1,off,none⟩) n cm):=fun W h=>⟨h.o.cell 0,h.o.cell 1,h.o.cell 2,h.o.cell 3,h.o.cell 4,h.o.cell 5,h.o.cell 6,h.o.cell 7,h.o.cell 8⟩;have bM:=Zz ag;obtain ⟨H7,H8,h0,h1,h2,h5,h6,T,h7⟩:=ag w1 HB;clear ag;go_wp2_with fail;refine (po.o _ HK.o).mono ?_;rintro e J ⟨rfl,ae⟩;have ak:=Zz (HB.o.kp ae fun h=>h);have am:=Zz (HK.o.trans ae);clear ae H7 H8 h0 h1 h2 h5 h6 T h7 HB HK po;have FV:=Zz (Bu.new J);have aO:=Zz ((ak.o.alloc (.cells #[.pointer none,.slice none 0 0] 232)).drew);have ap:=Zz ((am.o.alloc (.cells #[.pointer none,.slice none 0 0] 232)).drew);have FW:Hid (Bu (J.alloc (.cells #[.pointer none,.slice none 0 0] 232)).drew J.heap.size []):=FV;have ul:Hid (G<J.heap.size):=Zz ak.o.lt;have fY:Hid (J.heap.size<=(J.alloc (.cells #[.pointer none,.slice none 0 0] 232)).drew.heap.size):=Zz (by show J.heap.size<=(J.alloc (.cells #[.pointer none,.slice none 0 0] 232)).heap.size;simp);have x1:Hid (w.heap.size<=J.heap.size):=Zz am.o.size;clear ak am FV
 go_upto_region 5 with fail
 generalize J.alloc (.cells #[.pointer none,.slice none 0 0] 232)=w3 at *;generalize J.heap.size=B at *;refine fs ?_;generalize w3.drew=w4 at *;obtain ⟨H7,H8,h0,h1,h2,h5,h6,T,h7⟩:=bM.o w4 aO;have FX:=Zz (fun W=>Vh W count o_);have FY:=Zz (fun W=>Vh W epoch o_);obtain ⟨r,KA⟩:∃r,bQ count++bQ epoch=r:=⟨_,rfl⟩
 have y9:r.length=16:=by rw[<-KA,cd,ec,ec]
 have jG:Hid (∀W,Bu W B []->B<=W.heap.size->Cl 137 #[.pointer (some ⟨B,0,none⟩),.string (bs (bQ count)++bs (bQ epoch))] W fun e w'=>e=.returned (.tuple #[.int .i64 16,.nilIface])/\Bu w' B r/\v6 B W w'):=Zz fun W I C=>by
  have:=I.write r (by rw[y9];decide) C;rw[cG,y9] at this;rw[uQ,KA];exact this
 have xU:¬(9223372036854775807<(bs (bQ count)).size+(bs (bQ epoch)).size):=by rw[cG,cG,ec,ec];decide
 rw[KA] at nZ;clear KA;generalize bs (bQ count)=X1 at *;generalize bs (bQ epoch)=X2 at *;refine fp 0 ?_;refine fp 1 ?_;refine cw 2 H7 ?_;refine fp 4 ?_;refine cw 5 H8 ?_;refine fd 3 fun K A l=>?_;go_simp;refine (FX.o _).mono ?_;rintro e w5 ⟨rfl,x6⟩;have a8:=Zz (aO.o.kp x6 fun h=>h);have ax:=Zz (ap.o.trans x6);have um:=Zz (FW.o.no x6);have qZ:Hid (B<=w5.heap.size):=Zz (cL fY.o x6.size);refine l _ _ (oK (a8.o.cell 1) (oK (a8.o.cell 0) oN)) ?_;clear l K x6 H7 H8 h0 h1 h2 h5 h6 T h7 aO ap FW fY;refine fd 6 fun K A l=>?_;go_simp;refine (FY.o _).mono ?_;rintro e w6 ⟨rfl,x8⟩;have bA:=Zz (a8.o.kp x8 fun h=>h);have aB:=Zz (ax.o.trans x8);have un:=Zz (um.o.no x8);have dW:Hid (B<=w6.heap.size):=Zz (cL qZ.o x8.size);refine l _ _ (oK (bA.o.cell 1) (oK (bA.o.cell 0) oN)) ?_;clear l K x8 a8 ax um qZ;refine fp 7 ?_;refine fd 8 fun K A l=>?_;go_simp;refine (jG.o _ un.o dW.o).mono ?_;rintro e w7 ⟨rfl,Tc,P⟩;have f:=Zz (bA.o.below P.1 ul.o).drew;have x9:=Zz (P.no aB.o x1.o).drew;have x5:Hid (Bu w7.drew B r):=Zz Tc;have H9:Hid (B<=w7.drew.heap.size):=Zz (cL dW.o P.1.size);refine l _ _ (oK (f.o.cell 1) (oK (f.o.cell 0) oN)) ?_;clear l K P Tc bA aB un dW jG xU FX FY;refine fe ?_
 go_upto_region 6 with fail
 refine fs ?_;generalize w7.drew=w8 at *;obtain ⟨H7,H8,h0,h1,h2,h5,h6,T,h7⟩:=bM.o w8 f;refine fp 0 ?_;refine cw 1 h0 ?_;refine fp 2 ?_;refine cw 3 h1 ?_;refine fp 4 ?_;refine cw 5 h2 ?_;refine fp 6 ?_;refine cw 7 h5 ?_;refine fp 8 ?_;refine cw 9 h6 ?_;refine fp 11 ?_;refine cw 12 T ?_;refine fp 13 ?_;refine fp 15 ?_;refine cw 16 T ?_;refine fd 10 fun K A l=>?_;go_simp;refine (O_ _).mono ?_;rintro e M ⟨rfl,rfl⟩;refine l _ _ (oK T (oK T (oK h6 (oK h5 (oK h2 (oK h1 (oK h0 oN))))))) ?_;clear l K;refine fd 14 fun K A l=>?_;go_simp;have E:=Zz (f.o.alloc (.cells #[.int .i64 d,.int .i64 s,.int .i64 0,.int .i64 0,.int .i64 0,.int .i64 m] 3));have H6:=Zz (x9.o.alloc (.cells #[.int .i64 d,.int .i64 s,.int .i64 0,.int .i64 0,.int .i64 0,.int .i64 m] 3));have x2:=Zz (x5.o.no ((Kp.refl ac M).alloc (.cells #[.int .i64 d,.int .i64 s,.int .i64 0,.int .i64 0,.int .i64 0,.int .i64 m] 3)));have bq:Hid (aH (M.alloc (.cells #[.int .i64 d,.int .i64 s,.int .i64 0,.int .i64 0,.int .i64 0,.int .i64 m] 3)) B 3 (.slice (some ⟨M.heap.size,0,none⟩) 6 6) [.int .i64 d,.int .i64 s,.int .i64 0,.int .i64 0,.int .i64 0,.int .i64 m]):=Zz (aH.lit_ M B 3 #[.int .i64 d,.int .i64 s,.int .i64 0,.int .i64 0,.int .i64 0,.int .i64 m] H9.o (by simp[maxLen]));have Td:=Zz (ab.new M 3 #[.int .i64 d,.int .i64 s,.int .i64 0,.int .i64 0,.int .i64 0,.int .i64 m]);have h8:Hid (B<=(M.alloc (.cells #[.int .i64 d,.int .i64 s,.int .i64 0,.int .i64 0,.int .i64 0,.int .i64 m] 3)).heap.size):=Zz (cL H9.o ((Kp.refl ac M).alloc _).size);have ny:=Zz (lX.o _ H6.o);have p:=bM.o _ E;refine l _ _ (oK p.2.2.2.2.2.2.2.1 (oK p.2.2.2.2.2.2.2.1 (oK p.2.2.2.2.2.2.1 (oK p.2.2.2.2.2.1 (oK p.2.2.2.2.1 (oK p.2.2.2.1 (oK p.2.2.1 oN))))))) ?_;clear l K H7 H8 h0 h1 h2 h5 h6 T h7 p f x9 x5 H9;generalize Yf:M.alloc (.cells #[.int .i64 d,.int .i64 s,.int .i64 0,.int .i64 0,.int .i64 0,.int .i64 m] 3)=wA at *;clear Yf;generalize M.heap.size=g6 at *;refine Dj 17 rfl rfl k_ ?_;refine x_2 (ys:=zv R) rfl underlying57 rs rfl d_ rfl rfl (fun u hu=>by obtain ⟨y,_,rfl⟩:=List.mem_map.1 hu;rfl) bq.o ny.o (by rw[iF,y6];omega) h8.o (by rw[iF,y6];show (6+m)*8<=140737488355328;omega) ?_;intro v1 wB ho hg;have O:Kp (fun q=>q=g6) wA wB:=Kp.of_grown hg fun q h=>(Option.some.inj h);have o9:B<=g6:=(bq.o.lt g6 rfl).1;have jy:=Zz (E.o.kp O fun e=>(by have:=ul.o;have e:G=g6:=e;omega:False));have uY:=Zz (H6.o.then O fun q V e=>(by have:=x1.o;have e:q=g6:=e;omega:False));have KC:=Zz (x2.o.kpT O fun q e=>by have e:q=g6:=e;subst e;exact ⟨3,_,Td.o,d_,d_⟩);have xV:Hid (B<=wB.heap.size):=Zz (cL h8.o O.size);have nv:Hid (aH wB B 3 v1 (zv ([d,s,0,0,0,m]++R))):=Zz (by rw[show zv ([d,s,0,0,0,m]++R)=[.int .i64 d,.int .i64 s,.int .i64 0,.int .i64 0,.int .i64 0,.int .i64 m]++zv R by simp[zv]];exact ho);have p:=bM.o _ jy;refine ⟨(oK p.2.2.2.2.2.2.2.1 (oK p.2.2.2.2.2.2.2.1 (oK p.2.2.2.2.2.2.1 (oK p.2.2.2.2.2.1 (oK p.2.2.2.2.1 (oK p.2.2.2.1 (oK p.2.2.1 oN))))))),?_⟩;clear ho hg O o9 p E H6 x2 bq Td h8 ny;refine fp 18 ?_;refine fe ?_;have cO:Hid (∀u∈([.int .i64 n]:List Value),u.oneCell'=true):=Zz (by intro u hu;simp at hu;subst hu;rfl);have Te:=xV.o
 have J7:=jy.o.c8
 have Yg:(zv ([d,s,0,0,0,m]++R)).length=m+6:=by rw[iF,cd,y6];show 6+m=m+6;omega
 obtain ⟨N,Tf⟩:∃N,m+7=N:=⟨_,rfl⟩;have Tg:N<200:=o_;have io:0<N:=o_;rw[Tf] at U;clear Tf
 have bx:Hid (∀H4 a,World.ownsRow a B 3 1 H4 ((zv ([d,s,0,0,0,m]++R)).length+1) (zv ([d,s,0,0,0,m]++R)++[.int .i64 n])->wB.grownBy a v1.ownBlock->∃g H5,H4=.slice (some ⟨g,0,none⟩) N H5/\aH a B 3 H4 (zv o)/\ab a G 60 #[.int .u64 count,.int .u64 epoch,.int .i64 d,.int .i64 s,.int .i64 0,.int .i64 0,.bool false,.slice (some ⟨H2,H3,none⟩) m cs,.slice (some ⟨H1,off,none⟩) n cm]/\Kp ac w a/\Bu a B r/\B<=a.heap.size):=Zz fun H4 a ho hg=>by
  have O:Kp (fun q=>some q=v1.ownBlock) wB a:=Kp.of_grown hg fun q h=>h;have oR:∀q,some q=v1.ownBlock->B<=q:=fun q h=>(nv.o.lt q h.symm).1
  have hO:aH a B 3 H4 (zv o):=by
   unfold aH;rw[y7.o,HN.o,show zv (([d,s,0,0,0,m]++R)++[n])=zv ([d,s,0,0,0,m]++R)++[.int .i64 n] by simp[zv],cd,A_];exact ho
  obtain ⟨g,H5,I,_⟩:=hO.form (by rw[iF,U.o];omega);refine ⟨g,H5,by rw[I,iF,U.o],hO,jy.o.kp O fun h=>?_,uY.o.then O fun q V h=>?_,KC.o.kpT O fun q h=>?_,cL xV.o O.size⟩
  ·have:=oR _ h;have:=ul.o;omega
  ·have:=oR _ h;have:=x1.o;exact absurd V o_
  obtain ⟨dj,hb⟩:=Sz nv.o h.symm;exact ⟨3,dj,hb,d_,d_⟩
 go_upto_region 8 with (at_builtin;go_loud (refine Y3 B rfl (.tmp 42) (.tmp 46) 57 3 (.int .i64 0) 1 8 rfl underlying57 rs rfl d_ d_ v1 _ _ [.int .i64 n] rfl rfl rfl cO.o nv.o Te o_ ?_;intro H4 a F0 q9 _;obtain ⟨g,H5,sy,Th,Ti,X3,X4,X5⟩:=bx.o H4 a F0 q9;subst sy;clear F0 q9))
 have re:=Zz Th;have KD:=Zz Ti;have uj:=Zz X3;have Tj:Hid (Bu a B (r++(o.take 0).flatMap bQ)):=Zz (by rw[List.take_zero,List.flatMap_nil,List.append_nil];exact X4);have fK:=Zz X5;clear Th Ti X3 X4 X5 J7 Te jy uY KC xV nv bx Yg;have Ou:Hid (∀i (h:i<o.length),o.getD i 0=o[i]'h/\o[i]'h<=1000):=Zz fun i h=>⟨by simp[be,h],tU.o _ (rY h)⟩
 go_loopw [8,49] (fun _ zU wr=>∃i:Nat,i<=N/\zU=.int .i64 i/\Hid (aH wr B 3 (.slice (some ⟨g,0,none⟩) N H5) (zv o))/\Hid (ab wr G 60 #[.int .u64 count,.int .u64 epoch,.int .i64 d,.int .i64 s,.int .i64 0,.int .i64 0,.bool false,.slice (some ⟨H2,H3,none⟩) m cs,.slice (some ⟨H1,off,none⟩) n cm])/\Hid (Kp ac w wr)/\Hid (Bu wr B (r++(o.take i).flatMap bQ))/\Hid (B<=wr.heap.size)) (fun _ zU _=>N-(intOf zU).toNat)
 case atStart=>exact ⟨0,o_,rfl,re,KD,uj,Tj,fK⟩
 case round =>
  clear re KD uj Tj fK;obtain ⟨i,hi,rfl,HOr,cU,v,F,h9⟩:=hrel;by_cases af:i<N
  ·have bL:(i:Int)<(N:Int):=o_
   have bB:i<o.length:=by rw[U.o];exact af
   have hNB:=sr.o (i+1)
   have k0:wr.cell? ⟨g,i,none⟩=some (.int .i64 (o.getD i 0:Nat)):=by
    have mA:aH wr B 3 (.slice (some ⟨g,0,none⟩) (zv o).length H5) (zv o):=by rw[iF,U.o];exact HOr.o
    rw[mA.cell i (by rw[iF];exact bB),oP o i bB]
   obtain ⟨y1,y2⟩:=Ou.o i bB;have H0:=xF bQ o i bB;rw[<-y1] at H0 y2;generalize o.getD i 0=x at *
   have SB:IntKind.u64.wrap (x:Int)=(x:Int):=by rw[ie];omega
   have pX:=Zz (fun W=>Vh W x o_)
   have x0:(r++(o.take i).flatMap bQ).length+(bQ x).length<=1000000:=by
    rw[cd,ec,y9];have I:=w_t bQ 8 (o.take i) (fun y _=>by rw[ec];exact bS _);have C:=sr.o i;omega
   have Ov:Hid (∀W,Bu W B (r++(o.take i).flatMap bQ)->B<=W.heap.size->Cl 137 #[.pointer (some ⟨B,0,none⟩),.string (bs (bQ x))] W fun e w'=>e=.returned (.tuple #[.int .i64 (bs (bQ x)).size,.nilIface])/\Bu w' B (r++(o.take (i+1)).flatMap bQ)/\v6 B W w'):=Zz fun W I C=>by
    have:=I.write (bQ x) x0 C
    rwa [List.append_assoc,<-H0] at this
   clear x0 H0 y1;generalize bs (bQ x)=X at *;go_wp2_with fail;refine (pX.o _).mono ?_;rintro e wa ⟨rfl,c⟩;have AJ:=Zz (HOr.o.kp c fun _ _ h=>h);have Tk:=Zz (cU.o.kp c fun h=>h);have KE:=Zz (v.o.trans c);have x3:=Zz (F.o.no c);have x4:Hid (B<=wa.heap.size):=Zz (cL h9.o c.size);clear c HOr cU v F h9 k0;go_wp2_with fail;refine (Ov.o _ x3.o x4.o).mono ?_;rintro e wb ⟨rfl,Tl,y8⟩
   have FP:=Zz (y8.own AJ.o d_ (fun V=>by
    obtain ⟨dj,hb⟩:=x3.o.blk
    exact hH AJ.o hb d_ V))
   have Yh:=Zz (Tk.o.below y8.1 ul.o);have KF:=Zz (y8.no KE.o x1.o);have Yi:=Zz Tl;have Yj:Hid (B<=wb.heap.size):=Zz (cL x4.o y8.1.size);clear y8 Tl AJ Tk KE x3 x4;go_wp2;go_roundw
   case rel=>exact ⟨i+1,o_,by go_num,FP,Yh,KF,Yi,Yj⟩
   case measure=>simp[intOf];omega
  obtain rfl:i=N:=o_
  have Tn:Hid (Bu wr B ((r++o.flatMap bQ)++(mem.take 0).flatMap pe)):=Zz (by
   rw[List.take_zero,List.flatMap_nil,List.append_nil];have:=F.o
   rwa [kx (by rw[U.o];exact bS _)] at this)
  have hHL:(r++o.flatMap bQ).length<=2000:=by
   rw[cd,y9];have I:=w_t bQ 8 o (fun y _=>by rw[ec];exact bS _);have C:=U.o;omega
  have Yk:Hid (16<=(r++o.flatMap bQ).length):=Zz (by rw[cd,y9];omega);generalize r++o.flatMap bQ=H at *;have h7:=cU.o.c8;clear F HOr
  go_upto_region 13 with fail
  clear h7
  have F7:L=H++mem.flatMap pe:=by rw[nZ.o]
  have F8:=Zz F7;clear F7
  go_loopw [10,62] (fun _ Ow wr=>∃j:Nat,j<=n/\Ow=.int .i64 j/\Hid (Kp ac w wr)/\Hid (Bu wr B (H++(mem.take j).flatMap pe))/\Hid (B<=wr.heap.size)) (fun _ Ow _=>n-(intOf Ow).toNat)
  case atStart=>exact ⟨0,o_,rfl,v,Tn,h9⟩
  case round =>
   clear v Tn h9 cU;obtain ⟨j,hj,rfl,v,F,h9⟩:=hrel;by_cases mO:j<n
   ·have Fx:(j:Int)<(n:Int):=o_
    have b:j<mem.length:=by rw[HN.o];exact mO
    obtain ⟨nz,eO,gi,aa⟩:=gO.o wr v.o;cases gi;obtain ⟨k0,k1,k2⟩:=aa j b;obtain ⟨z1,z2,_,_⟩:=y3.o j b;have s2:=aR.o j b;have H0:=xF pe mem j b;have nx:=v_P z1 z2
    have x0:(H++(mem.take j).flatMap pe).length+(pe (mem[j]'b)).length<=1000000:=by
     rw[cd,nx]
     have I:=w_t pe 88 (mem.take j) (fun y hy=>by
      obtain ⟨q,V,rfl⟩:=List.getElem_of_mem (List.mem_of_mem_take hy)
      rw[v_P (y3.o q V).1 (y3.o q V).2.1];exact bS _)
     rw[gC] at I;have:min j mem.length*88<=12*88:=Nat.mul_le_mul_right _ o_;omega
    have LH:pe (mem[j]'b)=bQ (mem[j]'b).st++df (mem[j]'b).top.data.toList++df (mem[j]'b).log.data.toList:=rfl;clear aa nx;rw[LH] at H0 x0;generalize (mem[j]'b).st=st at *;generalize (mem[j]'b).top=t at *;generalize (mem[j]'b).log=lg at *;clear LH
    have SB:IntKind.u64.wrap (st:Int)=(st:Int):=by rw[ie];omega
    have y7:=Zz (fun W=>Vh W st o_);have Db:=Zz (fun W=>v_q W t o_);have xX:=Zz (fun W=>v_q W lg o_)
    have xU:¬(9223372036854775807<(bs (bQ st)).size+(bs (df t.data.toList)).size):=by
     rw[cG,cG];unfold df;rw[cd,ec,ec,g5];omega
    have Tp:¬(9223372036854775807<(bs (bQ st)++bs (df t.data.toList)).size+(bs (df lg.data.toList)).size):=by
     rw[uQ,cG,cG];unfold df;rw[cd,cd,cd,ec,ec,ec,g5,g5];omega
    have Tq:¬(9223372036854775807<(bs (bQ st)).size+(bs (df t.data.toList)).size+(bs (df lg.data.toList)).size):=by
     rw[cG,cG,cG];unfold df;rw[cd,cd,ec,ec,ec,g5,g5];omega
    have Ov:Hid (∀W,Bu W B (H++(mem.take j).flatMap pe)->B<=W.heap.size->Cl 137 #[.pointer (some ⟨B,0,none⟩),.string (bs (bQ st)++bs (df t.data.toList)++bs (df lg.data.toList))] W fun e w'=>(∃z,e=.returned (.tuple #[.int .i64 z,.nilIface]))/\Bu w' B (H++(mem.take (j+1)).flatMap pe)/\v6 B W w'):=Zz fun W I C=>by
     have:=I.write (bQ st++df t.data.toList++df lg.data.toList) x0 C;rw[List.append_assoc H,<-H0] at this;rw[uQ,uQ];refine this.mono ?_;rintro e w' ⟨rfl,h⟩;exact ⟨⟨_,rfl⟩,h⟩
    clear x0 H0;generalize bs (bQ st)=X at *;generalize bs (df t.data.toList)=Y at *;generalize bs (df lg.data.toList)=Z at *;have y4:=Zz (ab.new wr 108 #[.int .i64 st,.string t,.string lg]).drew;have bF:=Zz (v.o.alloc (.cells #[.int .i64 st,.string t,.string lg] 108)).drew;have Tr:Hid (Bu (wr.alloc (.cells #[.int .i64 st,.string t,.string lg] 108)).drew B (H++(mem.take j).flatMap pe)):=Zz (F.o.no ((Kp.refl ac wr).alloc _).drew);have iX:Hid (B<=(wr.alloc (.cells #[.int .i64 st,.string t,.string lg] 108)).drew.heap.size):=Zz (cL h9.o ((Kp.refl ac wr).alloc (.cells #[.int .i64 st,.string t,.string lg] 108)).size)
    go_upto_region 15 with fail
    clear k0 k1 k2 v F h9;generalize wr.alloc (.cells #[.int .i64 st,.string t,.string lg] 108)=w5 at *;generalize wr.heap.size=D at *;refine fs ?_;generalize w5.drew=w6 at *;have e0:=y4.o.c0;have e1:=y4.o.c1;have e2:=y4.o.c2;refine fp 0 ?_;refine fp 1 ?_;refine cw 2 e0 ?_;refine fp 3 ?_;refine fp 5 ?_;refine cw 6 e1 ?_;refine fp 9 ?_;refine cw 10 e2 ?_;refine fd 4 fun K A l=>?_;go_simp;refine (y7.o _).mono ?_;rintro e w7 ⟨rfl,P⟩;have f:=Zz (y4.o.kp P fun h=>h);have x9:=Zz (bF.o.trans P);have x5:=Zz (Tr.o.no P);have H9:Hid (B<=w7.heap.size):=Zz (cL iX.o P.size);refine l _ _ (oK (f.o.cell 2) (oK (f.o.cell 1) (oK (f.o.cell 0) oN))) ?_;clear l K P e0 e1 e2 y4 bF Tr iX;refine fd 7 fun K A l=>?_;go_simp;refine (Db.o _).mono ?_;rintro e w8 ⟨rfl,x7⟩;have y5:=Zz (f.o.kp x7 fun h=>h);have bp:=Zz (x9.o.trans x7);have F9:=Zz (x5.o.no x7);have n9:Hid (B<=w8.heap.size):=Zz (cL H9.o x7.size);refine l _ _ (oK (y5.o.cell 2) (oK (y5.o.cell 1) (oK (y5.o.cell 0) oN))) ?_;clear l K x7 f x9 x5 H9;refine fp 8 ?_;refine fd 11 fun K A l=>?_;go_simp;refine (xX.o _).mono ?_;rintro e M ⟨rfl,y0⟩;have E:=Zz (y5.o.kp y0 fun h=>h);have H6:=Zz (bp.o.trans y0);have x2:=Zz (F9.o.no y0);have h8:Hid (B<=M.heap.size):=Zz (cL n9.o y0.size);refine l _ _ (oK (E.o.cell 2) (oK (E.o.cell 1) (oK (E.o.cell 0) oN))) ?_;clear l K y0 y5 bp F9 n9;refine fp 12 ?_;refine fd 13 fun K A l=>?_;go_simp;refine (Ov.o _ x2.o h8.o).mono ?_;rintro e wa ⟨⟨z,rfl⟩,Ts,c⟩
    have KG:ab wa D 108 #[.int .i64 st,.string t,.string lg]:=c.blk E.o d_ (fun e=>by
     obtain ⟨dj,hb⟩:=x2.o.blk;rw[e] at E
     exact absurd rfl (ab.ne_ E.o hb d_))
    have KE:=Zz (c.no H6.o x1.o);have x3:=Zz Ts;have x4:Hid (B<=wa.heap.size):=Zz (cL h8.o c.1.size);refine l _ _ (oK (KG.cell 2) (oK (KG.cell 1) (oK (KG.cell 0) oN))) ?_;clear l K c Ts KG E H6 x2 h8;refine fe ?_;go_wp2;go_roundw
    case rel=>exact ⟨j+1,o_,by go_num,KE,x3,x4⟩
    case measure=>simp[intOf];omega
   obtain rfl:j=n:=o_
   have Yl:Hid (Bu wr B L):=Zz (by
    have:=F.o
    rwa [kx (by rw[HN.o];exact bS _),<-F8.o] at this)
   have aD:L≠[]:=by
    intro e;have:=congrArg List.length F8.o;rw[e,cd] at this;have C:=Yk.o;simp at this;omega
   have Ox:=Zz (Yl.o.str aD);go_wp2_with fail;refine Ox.o.mono ?_;rintro e wz ⟨rfl,hb⟩;have hz:Kp ac w wz:=⟨hb.os.trans v.o.os,hb.tape.trans v.o.tape,hb.output.trans v.o.output,cL v.o.size hb.size,fun q V hs=>(hb.block q (by have:=x1.o;omega)).trans (v.o.block q V hs)⟩;go_wp2;go_ret2;exact ⟨rfl,hz⟩
end
section
variable {ah:Array Oper} {rest:List Oper} {o:Oper} {a:Act} {Q:Exit->Act->W_->Prop}
def BH {W:W_} (base:Nat) (Z:o.guard=none) (s x:Operand) (t e:TypeId) (z:Value) (size bytes:Nat)
  (S:o.op=.call { callee:=.builtin .append,args:=#[s,x],argTypes:=#[t,t] })
  (T:P.underlying t=some (.slice e)) (I:(P.info? e).map (fun i=>(i.zero,i.size,i.bytes))=some (some z,size,bytes)) (hz:z.cells.size=size) (E:0<size) (Y:0<bytes)
  (v:Value) (k m:Nat) (xs ys:List Value) (y:Value) (hs:a.eval s=v) (U:a.eval x=y) (V:iB W y size m ys) (hm:0<m) (O:∀u∈ys,u.oneCell'=true)
  (p:W.ownsRow base e size v k xs) (r:base<=W.heap.size) (hl:(k+m)*bytes<=140737488355328)
  (h:∀l g,g.ownsRow base e size l (k+m) (xs++ys)->W.grownBy g v.ownBlock->wpList P ah Q rest (a.put o.dst l) g) :
  wpList P ah Q (o::rest) a W:=by
 obtain ⟨X,R,M,J,N⟩:=info_parts I;have B:k+m<=140737488355328:=cL (Nat.le_mul_of_pos_right _ Y) hl;obtain ⟨A,c,rfl,_,_,q,d⟩:=V;obtain ⟨b,off,rfl,f⟩:=d hm;refine wpList_append_own_at W Z s x t S base e X z size bytes T R M J N hz E v k xs hs p ⟨b,off,none⟩ m c ys U q ?_ O (by simp only[maxLen];omega) hl r ?_
 ·intro j u n
  have C:j<ys.length:=(AP.1 n).1;rw[SN,f j o_,n]
 intro l g G hg _ _;exact h l g G hg
end
def CO:(prog.info? 108).map (fun i=>(i.zero,i.size,i.bytes))=some (some (.agg #[.int .i64 0,.string ⟨#[]⟩,.string ⟨#[]⟩]),3,40):=k_
def Xo (l:List fv):∀u∈ds l,u.oneCell'=true:=by
 intro u g;obtain ⟨x,_,e⟩:=List.mem_flatMap.1 g;simp at e;rcases e with rfl|rfl|rfl<;>rfl
def zv_one (L:List Nat):∀u∈zv L,u.oneCell'=true:=by
 intro u e;obtain ⟨x,_,rfl⟩:=List.mem_map.1 e;rfl
def Ky (w:W_) (v:Value) (L:List Nat) (hv:b_ w v (zv L)) (o:0<L.length) (hl:L.length<=1000) :
  Cl 83 #[v] w fun e w'=>∃u,e=.returned u/\aH w' w.heap.size 3 u (zv L)/\Kp ac w w':=by
 obtain ⟨A,c,rfl,k,r,g⟩:=id hv;rw[iF] at k g hv ⊢;obtain ⟨b,off,rfl,_⟩:=g o;have q:=fun W:W_=>Lib.run_eql_slice_nil (P:=prog) W 57 3 (some ⟨b,off,none⟩) L.length c 0 0 underlying57;simp only[Option.isNone_some] at q;have i:=Zz hv;have l:=Zz (zv_one L);have j:=Zz (iF L);clear g hv;generalize L.length=n at *;have h:=Zz (aH.lit_ w w.heap.size 3 #[] (bS _) s_);go_enter func83,ntmps83
 go_wp2_with (at_builtin;refine LK w.heap.size rfl (.tmp 5) (.tmp 6) 57 3 (.int .i64 0) 8 rfl underlying57 rs rfl d_ _ [] _ (zv L) rfl rfl (i.o.alloc _) l.o h.o ((Below.refl _ _).alloc (bS _) _) s_ (by rw[j.o];show (0+n)*8<=_;omega) ?_;intro s t p m _ _)
 go_ret;exact ⟨_,rfl,p,Kp.of_below m _⟩
def I_ (w:W_) (v:Value) (L:List fv) (hv:iB w v 3 L.length (ds L)) (i:0<L.length) (hl:L.length<=1000) :
  Cl 84 #[v] w fun e w'=>∃u,e=.returned u/\w'.ownsRow w.heap.size 108 3 u L.length (ds L)/\Kp ac w w':=by
 obtain ⟨A,c,rfl,t,x,k,g⟩:=id hv;obtain ⟨b,off,rfl,_⟩:=g i;have s:=fun W:W_=>Lib.run_eql_slice_nil (P:=prog) W 58 108 (some ⟨b,off,none⟩) L.length c 0 0 underlying58;simp only[Option.isNone_some] at s;have m:=Zz hv;have p:=Zz (Xo L);clear g hv k;generalize L.length=n at *
 have l:Hid ((w.alloc (.cells #[] 108)).ownsRow w.heap.size 108 3 (.slice (some ⟨w.heap.size,0,none⟩) 0 0) 0 []):=Zz (by
  have:=World.ownsRow_lit (base:=w.heap.size) (e:=108) (size:=3) w #[] 0 (bS _) (by simp[maxLen]) s_
  simpa using this)
 go_enter func84,ntmps84
 go_wp2_with (at_builtin;go_loud (refine BH w.heap.size rfl (.tmp 5) (.tmp 6) 58 108 (.agg #[.int .i64 0,.string ⟨#[]⟩,.string ⟨#[]⟩]) 3 40 rfl underlying58 CO rfl d_ d_ _ 0 n [] (ds L) _ rfl rfl (m.o.no ((Kp.refl ac w).alloc _)) i p.o l.o s_ o_ ?_;intro z r j o))
 have hk:Kp ac w r:=((Kp.refl ac w).alloc (.cells #[] 108)).then (Kp.of_grown o (S:=fun q=>q=w.heap.size) fun q h=>Option.some.inj h) fun q y e=>(by have e:q=w.heap.size:=e;omega:False);rw[jm,List.nil_append] at j;go_ret;exact ⟨_,rfl,j,hk⟩
def w_P {i:Nat} (h:w.ownsRow b e size v k xs) (hb:i<=b):w.ownsRow i e size v k xs:=by
 refine ⟨h.1,?_⟩;rcases h.2 with hn|⟨g,j,l,rfl,hg,rest⟩
 ·exact .inl hn
 exact .inr ⟨g,j,l,rfl,cL hb hg,rest⟩
section
variable {vs vm:Value}
structure bg (w:W_) (base:Nat) (S:cj) (vs vm:Value):Prop where
 seats:aH w base 3 vs (zv (v7 S))
 mems:w.ownsRow base 108 3 vm S.mem.length (ds S.mem)
def bg.reads (h:bg w base S vs vm):ja w S vs vm:=⟨h.seats.reads,Sy h.mems⟩
def bg.no (h:bg w base S vs vm) (k:Kp ac w w'):bg w' base S vs vm:=⟨h.seats.kp k fun _ _ h=>h,dL h.mems k fun _ _ h=>h⟩
def bg.kp (h:bg w base S vs vm) (k:Kp F w w') (e:∀q,vs.ownBlock=some q->¬F q) (g:∀q,vm.ownBlock=some q->¬F q):bg w' base S vs vm:=⟨h.seats.kp k e,dL h.mems k g⟩
def x_ (y8:S.data<=100) (hn:0<S.mem.length) (y9:S.mem.length<=100) (h:ja w S vs vm) :
  Cl 47 #[.agg (dK S vs vm)] w fun e w'=>∃g l,e=.returned (.agg (dK S g l))/\bg w' w.heap.size S g l/\Kp ac w w':=by
 have H2:=Zz (fun W (k:Kp ac w W)=>Ky W vs (v7 S) ((h.no k).1) (by rw[v7,zH];omega) (by rw[v7,zH];omega));have H5:=Zz (fun W (k:Kp ac w W)=>I_ W vm S.mem ((h.no k).2) hn o_);obtain ⟨v,cs,Am,cm,x1,H9⟩:=h.shape;subst x1 H9;have x0:Hid (∀(W:W_) (g l:Value) (x Z:Nat),w.heap.size<=x->w.heap.size<=Z->aH W x 3 g (zv (v7 S))->W.ownsRow Z 108 3 l S.mem.length (ds S.mem)->bg W w.heap.size S g l):=Zz fun W g l x Z I J h3 h4=>⟨w_P h3 I,w_P h4 J⟩;have H0:Hid (∀g l,dK S g l=#[.int .u64 S.count,.int .u64 S.epoch,.int .i64 S.data,.int .i64 S.slots,.int .i64 0,.int .i64 0,.bool false,g,l]):=Zz fun _ _=>rfl;rw[H0.o]
 have h2:Hid (∀(W:W_) g x,aH W x 3 g (zv (v7 S))->∃A c,g=.slice A (S.data+2) c):=Zz fun W g x h=>by
  obtain ⟨A,c,e⟩:=lM h;exact ⟨A,c,by rw[e,iF,v7,zH]⟩
 generalize v7 S=y0 at *;generalize ds S.mem=x8 at *;generalize S.mem.length=n at *;generalize dK S=x9 at *;generalize S.count=count at *;generalize S.epoch=epoch at *;generalize S.data=d at *;generalize S.slots=s at *;obtain ⟨m,hm⟩:∃m,d+2=m:=⟨_,rfl⟩;rw[hm] at h2 H2 ⊢;clear h hm;have M:=Zz ((ab.new w 60 #[.int .u64 count,.int .u64 epoch,.int .i64 d,.int .i64 s,.int .i64 0,.int .i64 0,.bool false,.slice v m cs,.slice Am n cm]).alloc (.cells #[.int .u64 0,.int .u64 0,.int .i64 0,.int .i64 0,.int .i64 0,.int .i64 0,.bool false,.slice none 0 0,.slice none 0 0] 60)).drew;have U:=Zz (ab.new (w.alloc (.cells #[.int .u64 count,.int .u64 epoch,.int .i64 d,.int .i64 s,.int .i64 0,.int .i64 0,.bool false,.slice v m cs,.slice Am n cm] 60)) 60 #[.int .u64 0,.int .u64 0,.int .i64 0,.int .i64 0,.int .i64 0,.int .i64 0,.bool false,.slice none 0 0,.slice none 0 0]).drew;have T:=Zz (((Kp.refl ac w).alloc (.cells #[.int .u64 count,.int .u64 epoch,.int .i64 d,.int .i64 s,.int .i64 0,.int .i64 0,.bool false,.slice v m cs,.slice Am n cm] 60)).alloc (.cells #[.int .u64 0,.int .u64 0,.int .i64 0,.int .i64 0,.int .i64 0,.int .i64 0,.bool false,.slice none 0 0,.slice none 0 0] 60)).drew;have H4:Hid ((w.alloc (.cells #[.int .u64 count,.int .u64 epoch,.int .i64 d,.int .i64 s,.int .i64 0,.int .i64 0,.bool false,.slice v m cs,.slice Am n cm] 60)).heap.size=w.heap.size+1):=Zz s_;have x3:w.heap.size<=w.heap.size:=bS _;go_enter func47,ntmps47
 go_upto_region 1 with fail
 have H8:=H4.o;generalize (w.alloc (.cells #[.int .u64 count,.int .u64 epoch,.int .i64 d,.int .i64 s,.int .i64 0,.int .i64 0,.bool false,.slice v m cs,.slice Am n cm] 60)).heap.size=x7 at *;generalize (w.alloc (.cells #[.int .u64 count,.int .u64 epoch,.int .i64 d,.int .i64 s,.int .i64 0,.int .i64 0,.bool false,.slice v m cs,.slice Am n cm] 60)).alloc (.cells #[.int .u64 0,.int .u64 0,.int .i64 0,.int .i64 0,.int .i64 0,.int .i64 0,.bool false,.slice none 0 0,.slice none 0 0] 60)=x5 at *;generalize x2:w.heap.size=G at *;subst H8;refine fs ?_;generalize x5.drew=x6 at *;have b:=M.o.c7;have f:=M.o.c8;refine fp 0 ?_;refine cw 1 b ?_;refine fp 3 ?_;refine cw 4 f ?_;refine fd 2 fun K V i=>?_;go_simp;refine (H2.o _ T.o).mono ?_;rintro e w3 ⟨v3,rfl,H,O⟩;have N:=Zz (M.o.kp O fun h=>h);have F:=Zz (U.o.kp O fun h=>h);have Y:=Zz (T.o.trans O);have h9:=Zz H;have C:Hid (G+2<=x6.heap.size):=Zz (by have:=U.o.lt;omega);obtain ⟨t,u,rfl⟩:=h2.o _ _ _ H;refine i _ _ (oK (N.o.cell 8) (oK (N.o.cell 7) oN)) ?_;clear i K b f O H M U T;refine fp 6 ?_;refine fd 5 fun K V i=>?_;go_simp;refine (H5.o _ Y.o).mono ?_;rintro e P ⟨v4,rfl,R,z⟩;have y:=Zz (N.o.kp z fun h=>h);have h1:=Zz (F.o.kp z fun h=>h);have h7:=Zz (Y.o.trans z);have Q:=Zz (h9.o.kp z fun _ _ h=>h);have D:=Zz R;have B:Hid (G+2<=w3.heap.size):=Zz (by have:=F.o.lt;omega);obtain ⟨p,r,rfl⟩:=lM R;refine i _ _ (oK (y.o.cell 8) (oK (y.o.cell 7) oN)) ?_;clear i K z R N F Y h9;have b:=y.o.c7;have f7:=y.o.frozen 7;refine fd 7 fun K V i=>?_;go_simp;have E:=y.o.set_ 7 (.slice t m u);refine i _ _ (oK (E.cell 8) (oW oN)) ?_;clear i K;have f:(P.setCell ⟨G,7,none⟩ (.slice t m u)).cell? ⟨G,8,none⟩=some (.slice Am n cm):=E.cell 8;have f8:=E.frozen 8;clear b f7;generalize h8:P.setCell ⟨G,7,none⟩ (.slice t m u)=L at *;refine fp 8 ?_;refine fd 9 fun K V i=>?_;go_simp;refine i _ _ (oW (oW oN)) ?_;clear i K;refine fe ?_
 have a:Kp (fun q=>q=G) P (L.setCell ⟨G,8,none⟩ (.slice p n r)):=by
  rw[<-h8];exact ((Kp.refl (fun q=>q=G) P).setCell ⟨G,7,none⟩ _ (.inl rfl)).setCell ⟨G,8,none⟩ _ (.inl rfl)
 have j:Hid (ab (L.setCell ⟨G,8,none⟩ (.slice p n r)) G 60 #[.int .u64 count,.int .u64 epoch,.int .i64 d,.int .i64 s,.int .i64 0,.int .i64 0,.bool false,.slice t m u,.slice p n r]):=Zz (E.set_ 8 (.slice p n r));have H3:=Zz (h1.o.kp a fun e=>(by have e:G+1=G:=e;omega:False));have H6:=Zz (h7.o.then a fun q o e=>(by have e:q=G:=e;omega:False));have h5:=Zz (Q.o.kp a fun q o e=>(by have I:=(Q.o.lt q o).1;have J:=C.o;have e:q=G:=e;omega:False));have h6:=Zz (dL D.o a fun q o e=>(by have I:=(iZ D.o o).1;have J:=B.o;have e:q=G:=e;omega:False));clear a E f f8 y h1 h7 Q D h8;generalize L.setCell ⟨G,8,none⟩ (.slice p n r)=h0 at *;have y1:=j.o.c0;have y2:=j.o.c1;have y3:=j.o.c2;have y4:=j.o.c3;have y5:=j.o.c4;have y6:=j.o.c5;have y7:=j.o.c6;have b:=j.o.c7;have f:=j.o.c8;have H1:(prog.info? 60).map (·.size)=some 9:=k_
 have H7:(#[.int .u64 count,.int .u64 epoch,.int .i64 d,.int .i64 s,.int .i64 0,.int .i64 0,.bool false,.slice t m u,.slice p n r]:Array Value).all (·.oneCell')=true:=by simp[Value.oneCell']
 go_wp2_with (refine wpList_store_row rfl 60 (.tmp 2) (.tmp 11) rfl (G+1) _ rfl rfl 60 _ H3.o H1 rfl H7 ?_)
 have x4:=H3.o.setRow (cs':=#[.int .u64 count,.int .u64 epoch,.int .i64 d,.int .i64 s,.int .i64 0,.int .i64 0,.bool false,.slice t m u,.slice p n r]);have X:Kp (fun q=>q=G+1) h0 (h0.setRow (G+1) #[.int .u64 count,.int .u64 epoch,.int .i64 d,.int .i64 s,.int .i64 0,.int .i64 0,.bool false,.slice t m u,.slice p n r]):=(Kp.refl _ h0).setRow (G+1) _ (.inl rfl);refine bodyPost_ret (x_s rfl rfl x4 underlying60 rfl H1) rfl ?_;exact ⟨_,_,by rw[H0.o],x0.o _ _ _ _ _ (by have:=C.o;omega) (by have:=B.o;omega) (h5.o.kp X fun q o e=>(by have I:=(h5.o.lt q o).1;have J:=C.o;have e:q=G+1:=e;omega:False)) (dL h6.o X fun q o e=>(by have I:=(iZ h6.o o).1;have J:=B.o;have e:q=G+1:=e;omega:False)),H6.o.then X fun q o e=>(by have e:q=G+1:=e;omega:False)⟩
end
section
variable {ρ:Operand->Value} {o:Oper}
def v_v {s x:Operand} {t e:TypeId} {z:Value} {bytes m:Nat} {y:Value} {ys:List Value} {R:Value->W_->Prop} (h:o.op=.call { callee:=.builtin .append,args:=#[s,x],argTypes:=#[t,t] })
  (Q:P.underlying t=some (.slice e)) (E:(P.info? e).map (fun i=>(i.zero,i.size,i.bytes))=some (some z,size,bytes)) (hz:z.cells.size=size) (f:0<size) (V:0<bytes)
  (hs:ρ s=v) (S:ρ x=y) (M:∀u∈ys,u.oneCell'=true) (p:w.ownsRow base e size v k xs) (T:iB w y size m ys) (hm:0<m) (r:base<=w.heap.size) (hl:(k+m)*bytes<=140737488355328)
  (hR:∀l g,g.ownsRow base e size l (k+m) (xs++ys)->w.grownBy g v.ownBlock->R l g):∃l g,(execOp ρ o).run P w=.ok (.value l) g/\R l g:=by
 obtain ⟨U,O,I,G,J⟩:=info_parts E;have X:k+m<=140737488355328:=cL (Nat.le_mul_of_pos_right _ V) hl;obtain ⟨A,c,rfl,_,_,q,a⟩:=T;obtain ⟨b,off,rfl,d⟩:=a hm
 obtain ⟨l,g,W,N,hg,_⟩:=run_append_own_at (P:=P) w base t o.type e U z size bytes Q O I G J hz f v k xs p ⟨b,off,none⟩ m c ys q
  (fun j u n=>by
   have Y:j<ys.length:=(AP.1 n).1
   rw[SN,d j o_,n]) M (by simp only[maxLen];omega) hl r
 refine ⟨l,g,?_,hR l g N hg⟩;unfold execOp;simp only[h,resolve,invoke,builtin,Sem.run_bind,Sem.run_pure,Result.andThen_ok,List.map_toArray,List.map_cons,List.map_nil,hs,S,W]
end
def v_B (w:W_) (e size:Nat) (ys:List Value) (hl:ys.length=size) (hs:0<size):iB (w.alloc (.cells ys.toArray e)) (.slice (some ⟨w.heap.size,0,none⟩) 1 1) size 1 ys:=by
 refine ⟨_,_,rfl,o_,o_,o_,fun _=>⟨_,0,rfl,fun j g=>?_⟩⟩;rw[jm,(ab.new w e ys.toArray).cell];simp
def fj (h:w.ownsRow base e size v k xs) (i:v.ownBlock=some q):∃cs,ab w q e cs:=by
 rcases h.2 with ⟨rfl,-⟩|⟨g,l,j,rfl,_,hb,_⟩
 ·cases i
 have:g=q:=by simpa[Value.ownBlock] using i
 subst this;exact ⟨j,hb⟩
def ci (t:Nat):Prop:=t=119\/t=76\/t=136\/t=9\/t=242
section
def Bk.ty (h:Bk w b n σ F) (g:F q):∃t cs,ab w q t cs/\ci t:=by
 obtain ⟨G,c,st,A,Φ,e,hF⟩:=h;rcases (hF q).1 g with rfl|rfl|⟨i,p,g⟩
 ·exact ⟨_,_,e.blk,.inl rfl⟩
 ·obtain ⟨cs,hb⟩:=fj e.row (q:=q) rfl
  exact ⟨_,_,hb,.inr (.inl rfl)⟩
 obtain ⟨la,x,y,xs,j,k,l,r,m,s,u,v,o⟩:=(e.dk i p).ex;rcases (o q).1 g with rfl|rfl|rfl|hv
 ·exact ⟨_,_,j,.inr (.inr (.inl rfl))⟩
 ·exact ⟨_,_,k,.inr (.inr (.inr (.inl rfl)))⟩
 ·exact ⟨_,_,l,.inr (.inr (.inr (.inl rfl)))⟩
 obtain ⟨cs,hb⟩:=fj m hv;exact ⟨_,_,hb,.inr (.inr (.inr (.inr rfl)))⟩
def ab.ty_eq {i:Nat} {cs':Array Value} (h:ab w g t cs) (e:ab w g i cs'):t=i:=by
 unfold ab at h e;rw[h] at e;injection e with e;injection e with _ e
def Bk.off (h:Bk w b n σ F) (hb:ab w g t cs) (e:¬ci t):¬F g:=fun k=>by
 obtain ⟨l,cs',j,i⟩:=h.ty k;rw[hb.ty_eq j] at e;exact e i
def Bk.offRow (h:Bk w b n σ F) (g:w.ownsRow base e size v k xs) (j:¬ci e):∀q,v.ownBlock=some q->¬F q:=fun q i=>by
 obtain ⟨cs,hb⟩:=fj g i;exact h.off hb j
def Bk.offMap {k:TypeId} {α:Type} {M:KM P k α} {f:α->Option Value} {dom:List α} (h:Bk w b n σ F) (hm:aS M w g f dom):¬F g:=fun i=>by
 obtain ⟨j,cs',e,_⟩:=h.ty i;exact hm.ne_blk e rfl
def Bk.offNew (h:Bk w b n σ F) (hg:w.heap.size<=g):¬F g:=fun e=>by have:=(h.lt e).2;omega
end
def aT (b an:Nat) (key:List UInt8):Array Value:=#[.pointer (some ⟨b,0,none⟩),.pointer (some ⟨an,0,none⟩),.string (bs key)]
def mv (w:W_) (m:fv) (h:m.st<=2) :
  Cl 113 #[.agg #[.int .i64 m.st,.string m.top,.string m.log]] w fun e w'=>e=.returned (.bool (decide (m.st=1)))/\Kp ac w w':=by
 obtain ⟨st,top,log⟩:=m;have g:=Zz ((Kp.refl ac w).alloc (.cells #[.int .i64 st,.string top,.string log] 108));have i:=Zz (ab.new w 108 #[.int .i64 st,.string top,.string log])
 dsimp only at h ⊢
 go_enter func113,ntmps113
 go_upto_region 1 with fail
 generalize w.alloc (.cells #[.int .i64 st,.string top,.string log] 108)=k at *;generalize w.heap.size=G at *;have j:=i.o.c0;obtain rfl|rfl|rfl:st=0\/st=1\/st=2:=o_
 ·go_wp2
  go_ret;exact ⟨rfl,g.o⟩
 ·go_wp2
  go_ret;exact ⟨rfl,g.o⟩
 go_wp2;go_ret;exact ⟨rfl,g.o⟩
section
variable {an:Nat} 
def x_4 (w:W_) (b an i s:Nat) (key:List UInt8) :
  Cl 64 #[.agg (aT b an key),.int .i64 i,.int .i64 s] w fun e w'=>e=.returned (.agg (di b i s key))/\Kp ac w w':=by
 have l:=Zz (ab.new w 113 (aT b an key));have m:=Zz ((Kp.refl ac w).alloc (.cells (aT b an key) 113));change Cl 64 #[.agg #[.pointer (some ⟨b,0,none⟩),.pointer (some ⟨an,0,none⟩),.string (bs key)],.int .i64 i,.int .i64 s] w _;go_enter func64,ntmps64;have g:=Zz (ab.new (w.alloc (.cells (aT b an key) 113)) 139 #[.pointer none,.int .i64 0,.int .i64 0,.string ⟨#[]⟩]);rw[World.size_alloc] at g;have h:=Zz (l.o.alloc (.cells #[.pointer none,.int .i64 0,.int .i64 0,.string ⟨#[]⟩] 139));have r:=Zz (m.o.alloc (.cells #[.pointer none,.int .i64 0,.int .i64 0,.string ⟨#[]⟩] 139))
 go_upto_region 1 with fail
 change Code.wp _ _ _ _ ((w.alloc (.cells (aT b an key) 113)).alloc (.cells #[.pointer none,.int .i64 0,.int .i64 0,.string ⟨#[]⟩] 139));generalize (w.alloc (.cells (aT b an key) 113)).alloc (.cells #[.pointer none,.int .i64 0,.int .i64 0,.string ⟨#[]⟩] 139)=j at *;obtain ⟨G,hG⟩:∃G,w.heap.size=G:=⟨_,rfl⟩;rw[hG] at g h ⊢;have p:=Zz hG;clear hG;have u:=h.o.c0;have v:=h.o.c2;have k:(prog.info? 139).map (·.size)=some 4:=k_
 have n:(#[.pointer (some ⟨b,0,none⟩),.int .i64 i,.int .i64 s,.string (bs key)]:Array Value).all (·.oneCell')=true:=by simp[Value.oneCell']
 go_wp2_with (refine wpList_store_row rfl 139 (.tmp 6) (.tmp 13) rfl (G+1) _ rfl rfl 139 _ g.o k rfl n ?_)
 have t:=g.o.setRow (cs':=#[.pointer (some ⟨b,0,none⟩),.int .i64 i,.int .i64 s,.string (bs key)]);have o:Kp (fun q=>q=G+1) j (j.setRow (G+1) #[.pointer (some ⟨b,0,none⟩),.int .i64 i,.int .i64 s,.string (bs key)]):=(Kp.refl _ j).setRow _ _ (.inl rfl);refine bodyPost_ret (x_s rfl rfl t underlying139 rfl k) rfl ?_;exact ⟨rfl,r.o.then o fun q x e=>(by have:=p.o;have e:q=G+1:=e;omega:False).elim⟩
end
def w_K (σ:Nat->ao) (i:Nat) (s e:ao):dY (dY σ i s) i e=dY σ i e:=by
 funext j;unfold dY;split<;>rfl
def ao.wrs (σ:ao) (l:List Wr):ao:=l.foldl (fun σ x=>σ.write x.at' x.cell) σ
def ao.write_dead (σ:ao) (i:Nat) (s:B_):(σ.write i s).dead=σ.dead:=by unfold ao.write;split<;>rfl
def ao.write_wait (σ:ao) (i:Nat) (s:B_):(σ.write i s).wait<=σ.wait+1:=by unfold ao.write;split<;>simp
def ao.wrs_dead (σ:ao) (l:List Wr):(σ.wrs l).dead=σ.dead:=by
 induction l generalizing σ with
 | nil=>rfl
 | cons x l e=>show (ao.wrs (σ.write x.at' x.cell) l).dead=_;rw[e,ao.write_dead]
def ao.wrs_take (σ:ao) (l:List Wr) (j:Nat) (h:j<l.length):σ.wrs (l.take (j+1))=(σ.wrs (l.take j)).write (l[j]'h).at' (l[j]'h).cell:=by
 rw[mx h];unfold ao.wrs;rw[List.foldl_append];rfl
def ao.wrs_wait (σ:ao) (l:List Wr):(σ.wrs l).wait<=σ.wait+l.length:=by
 induction l generalizing σ with
 | nil=>exact bS _
 | cons x l e =>
  have g:=e (σ.write x.at' x.cell);have h:=σ.write_wait x.at' x.cell;show (ao.wrs (σ.write x.at' x.cell) l).wait<=_;rw[List.length_cons];omega
section
variable {i s:Nat} 
def v_h (h6:Hm) (X:a_ w) (h:Bk w b n σ F) (hw:10<=w.heap.size) (Y:i<n) (hs:sl s) (hk:key.length=32) (v:Value) (l:List Wr) (hv:∀W,Kp F w W->iB W v 2 l.length (eu l)) (hl:l.length<=1000) (h2:∀x∈l,x.ok) (ee:(σ i).wait<=1000) (y1:(σ i).dead=false) :
  Cl 94 #[.agg (di b i s key),v] w fun e w'=>e=.returned (.int .i64 0)/\∃g,Gr w F g/\Bk w' b n (dY σ i ((σ i).wrs l).flush) g/\Kp F w w':=by
 have p:=Zz (ab.new w 139 (di b i s key));have o:=Zz ((Kp.refl ac w).alloc (.cells (di b i s key) 139))
 have P:10<=(w.alloc (.cells (di b i s key) 139)).heap.size:=by have:=o.o.size;omega
 have H5:=Zz (v_E h6 (X.no o.o) (h.no o.o) P Y hs hk);have x8:=Zz h;have C:=Zz hv;have y8:=Zz (tH l);have y3:Hid (∀j (h:j<l.length),(l[j]'h).ok):=Zz fun j h=>h2 _ (rY h);have y4:=Zz (ao.wrs_take (σ i) l)
 have H:Hid (∀j,j<=l.length->((σ i).wrs (l.take j)).wait<=100000):=Zz fun j h7=>by
  have:=(σ i).wrs_wait (l.take j);rw[gC] at this;omega
 have h9:Hid (∀j,((σ i).wrs (l.take j)).dead=false):=Zz fun j=>by rw[ao.wrs_dead];exact y1
 have U:Hid (l.take l.length=l):=Zz (List.take_length)
 have H4:Hid (¬F w.heap.size):=Zz fun M=>by have:=(h.lt M).2;omega
 have H6:=Zz (X.no o.o);obtain ⟨A,c,rfl,x1,bk,H2,_⟩:=hv w (Kp.refl _ _);obtain ⟨m,hm⟩:∃m,l.length=m:=⟨_,rfl⟩;have x9:=Zz hm;rw[hm] at x1 C H U hl H2 ⊢;clear h6 hs X h P hv h2 hm H2;change Cl 94 #[.agg #[.pointer (some ⟨b,0,none⟩),.int .i64 i,.int .i64 s,.string (bs key)],.slice A m c] w _;go_enter func94,ntmps94
 go_upto_region 1 with fail
 change Code.wp _ _ _ _ (w.alloc (.cells (di b i s key) 139));generalize P:w.alloc (.cells (di b i s key) 139)=w1 at *;clear P;obtain ⟨G,hG⟩:∃G,w.heap.size=G:=⟨_,rfl⟩;rw[hG] at p H4 ⊢;have cq:=Zz hG;have d:=p.o.c0;have f:=p.o.c1;have x4:=p.o.c2;have x5:=p.o.c3;go_wp2_with fail;refine H5.o.mono ?_;rintro e H3 ⟨rfl,Q⟩;have L:=Zz (p.o.kp Q fun h=>h);have h0:=Zz ((o.o.trans Q).mono (S:=F) fun _ _ h=>h.elim)
 have h5:Hid (∃g,Gr w F g/\Bk H3 b n (dY σ i ((σ i).wrs (l.take 0))) g/\¬g G):=Zz ⟨F,Gr.refl _ _,by
  show Bk H3 b n (dY σ i (σ i)) F
  rw[xg];exact (x8.o.no o.o).no Q,H4.o⟩
 clear Q d f x4 x5 p o
 go_upto_region 4 with fail
 go_loopw [6,7,13] (fun _ _ V wr=>∃j:Nat,j<=m/\V=.int .i64 j/\Hid (ab wr G 139 (di b i s key))/\Hid (Kp F w wr)/\Hid (∃g,Gr w F g/\Bk wr b n (dY σ i ((σ i).wrs (l.take j))) g/\¬g G)) (fun _ _ V _=>m-(intOf V).toNat)
 case atStart=>exact ⟨0,o_,rfl,L,h0,h5⟩
 case round =>
  clear L h0 h5;obtain ⟨j,h7,rfl,p,o,N⟩:=hrel;by_cases af:j<m
  ·obtain ⟨A',c',y2,_,_,_,K⟩:=C.o wr o.o
   cases y2;obtain ⟨pb,off,rfl,T⟩:=K o_
   have E:j<l.length:=by have:=x9.o;omega
   obtain ⟨H0,H1⟩:=y8.o j E;have y5:=(T (j*2) o_).trans H0;have h8:=(T (j*2+1) o_).trans H1;rw[<-Nat.add_assoc] at h8;obtain ⟨o1,o2,o3⟩:=y3.o j E;have x2:=Zz (y4.o j E);have bL:(j:Int)<(m:Int):=o_;have H9:=Zz (H.o j h7);have H7:=Zz (h9.o j);clear T H0 H1 K;generalize (l[j]'E).at'=a at *;generalize (l[j]'E).cell=x at *;have h3:=Zz (ab.new wr 240 #[.int .i64 a,.string x]);have O:=Zz (p.o.alloc (.cells #[.int .i64 a,.string x] 240));have h1:=Zz (o.o.alloc (.cells #[.int .i64 a,.string x] 240))
   have h4:∃g,Gr w F g/\¬g G/\Cl 144 #[.pointer (some ⟨b,0,none⟩),.int .i64 i,.int .i64 a,.string x] (wr.alloc (.cells #[.int .i64 a,.string x] 240)) fun e w'=>e=.returned (.int .i64 0)/\∃k,Gr (wr.alloc (.cells #[.int .i64 a,.string x] 240)) g k/\Bk w' b n (dY σ i ((σ i).wrs (l.take (j+1)))) k/\Kp g (wr.alloc (.cells #[.int .i64 a,.string x] 240)) w':=by
    obtain ⟨g,r,g2,t⟩:=N.o;refine ⟨g,r,t,?_⟩;have J:=z_aq (g2.no ((Kp.refl ac wr).alloc (.cells #[.int .i64 a,.string x] 240))) i a Y o_ x o_ (by rw[P_];exact H9.o);rw[P_,H7.o,w_K,<-x2.o] at J;exact J
   have y7:=Zz h4;have y6:=Zz O.o.lt;clear h4 p o N
   go_upto_region 6 with fail
   clear y5 h8;generalize y0:wr.alloc (.cells #[.int .i64 a,.string x] 240)=w5 at *;clear y0;generalize wr.heap.size=D at *;have d:=O.o.c0;have f:=O.o.c1;have d0:=h3.o.c0;have d1:=h3.o.c1;obtain ⟨g,r,t,u⟩:=y7.o;have u:=Zz u;have z:=Zz r;have B:=Zz t;clear r t;go_wp2_with fail;refine u.o.mono ?_;rintro e R ⟨rfl,k,y,I,g6⟩;have x3:=Zz (O.o.kp g6 B.o);have x0:=Zz (h1.o.then g6 fun q Z M=>z.o q Z M);have x7:Hid (∃g,Gr w F g/\Bk R b n (dY σ i ((σ i).wrs (l.take (j+1)))) g/\¬g G):=Zz ⟨k,z.o.then y h1.o.size,I,y.no y6.o B.o⟩;clear y I g6 d f d0 d1;go_wp2;go_roundw
   case rel=>exact ⟨j+1,o_,by go_num,x3,x0,x7⟩
   case measure=>simp[intOf];omega
  obtain rfl:j=m:=o_;rw[U.o] at N;have H8:Hid (((σ i).wrs l).dead=false):=Zz (by have:=h9.o j;rwa [U.o] at this)
  have y9:∃g,Gr w F g/\¬g G/\Cl 145 #[.pointer (some ⟨b,0,none⟩),.int .i64 i] wr fun e w'=>e=.returned (.int .i64 0)/\∃k,Gr wr g k/\Bk w' b n (dY σ i ((σ i).wrs l).flush) k/\Kp g wr w':=by
   obtain ⟨g,r,g2,t⟩:=N.o;refine ⟨g,r,t,?_⟩;have J:=z_ay g2 i Y;rw[P_,H8.o,w_K] at J;exact J
  obtain ⟨g,r,t,u⟩:=y9;have u:=Zz u;have z:=Zz r;have d:=p.o.c0;have f:=p.o.c1;clear r t;go_wp2_with fail;refine u.o.mono ?_;rintro e R ⟨rfl,k,y,I,g6⟩;have x6:Hid (∃g,Gr w F g/\Bk R b n (dY σ i ((σ i).wrs l).flush) g/\Kp F w R):=Zz ⟨k,z.o.then y o.o.size,I,o.o.then g6 fun q Z M=>z.o q Z M⟩;clear y I g6 d f;go_wp2;go_ret;exact ⟨rfl,x6.o⟩
end
def v_w (w:W_) (g:a_ w) (h:10<=w.heap.size) (l:List UInt8) (hl:l.length<=90000000) :
  Cl 123 #[.string (bs l)] w fun e w'=>e=.returned (.string (bs (dC l)))/\Kp ac w w':=by
 have H:=Zz (N1 w g h l hl);clear g;go_enter func123,ntmps123;go_wp2_with fail;refine H.o.mono ?_;rintro e i ⟨rfl,hk⟩;go_wp2;go_ret;exact ⟨rfl,hk⟩
def qL (x:B_):x.data.toList.length=x.size:=rfl
def NP (x:B_):bs x.data.toList=x:=rfl
def Hh (w:W_) (p:Nat) (m:fv) (hm:m.st<=2) (j:m.top.size=32) (k:m.log.size=32) (rest:List UInt8) (h2:rest.length<=900000) (x:ab w p 317 (Rd.cs (pe m++rest,0))) :
  Cl 184 #[.pointer (some ⟨p,0,none⟩)] w fun e w'=>e=.returned (.agg #[.int .i64 m.st,.string m.top,.string m.log])/\ab w' p 317 (Rd.cs (rest,0))/\Kp (·=p) w w':=by
 have V:=v_P j k
 have Q:pe m++rest=bQ m.st++(df m.top.data.toList++(df m.log.data.toList++rest)):=by simp[pe,List.append_assoc]
 have U:(df m.top.data.toList++(df m.log.data.toList++rest)).length<=990000:=by simp[df,ec,qL,j,k];omega
 have S:(df m.log.data.toList++rest).length<=990000:=by simp[df,ec,qL,j,k];omega
 have v:Hid (∀W,ab W p 317 (Rd.cs (pe m++rest,0))->Cl 179 #[.pointer (some ⟨p,0,none⟩),.int .i64 4] W fun e w'=>e=.returned (.int .i64 m.st)/\ab w' p 317 (Rd.cs (df m.top.data.toList++(df m.log.data.toList++rest),0))/\Kp (·=p) W w'):=Zz fun W g=>by
  have hb:=Rd.below_ok (n:=m.st) (b:=4) o_ o_ (df m.top.data.toList++(df m.log.data.toList++rest));have:=v_l W p (pe m++rest,0) (by rw[cd,V];omega) (by show 0<100;decide) 4 d_ d_ g;rw[Q,hb.1,hb.2] at this;exact this
 have z:Hid (∀W,ab W p 317 (Rd.cs (df m.top.data.toList++(df m.log.data.toList++rest),0))->Cl 231 #[.pointer (some ⟨p,0,none⟩)] W fun e w'=>e=.returned (.string m.top)/\ab w' p 317 (Rd.cs (df m.log.data.toList++rest,0))/\Kp (·=p) W w'):=Zz fun W g=>by
  have hb:=Rd.text_ok (c:=m.top.data.toList) (by rw[qL];omega) (df m.log.data.toList++rest);have:=nm W p _ (by exact cL U d_) g;rw[hb.1,hb.2,NP] at this;exact this
 have y:Hid (∀W,ab W p 317 (Rd.cs (df m.log.data.toList++rest,0))->Cl 231 #[.pointer (some ⟨p,0,none⟩)] W fun e w'=>e=.returned (.string m.log)/\ab w' p 317 (Rd.cs (rest,0))/\Kp (·=p) W w'):=Zz fun W g=>by
  have hb:=Rd.text_ok (c:=m.log.data.toList) (by rw[qL];omega) rest;have:=nm W p _ (by exact cL S d_) g;rw[hb.1,hb.2,NP] at this;exact this
 generalize Rd.cs (pe m++rest,0)=F at *;generalize Rd.cs (df m.top.data.toList++(df m.log.data.toList++rest),0)=H at *;generalize Rd.cs (df m.log.data.toList++rest,0)=K at *;generalize Rd.cs (rest,0)=L at *;obtain ⟨st,top,log⟩:=m
 dsimp only at hm j k v z y ⊢
 clear Q U S V;have t:=Zz (x.alloc (.cells #[.int .i64 0,.string ⟨#[]⟩,.string ⟨#[]⟩] 108));have l:=Zz (ab.new w 108 #[.int .i64 0,.string ⟨#[]⟩,.string ⟨#[]⟩]);have P:=Zz ((Kp.refl (·=p) w).alloc (.cells #[.int .i64 0,.string ⟨#[]⟩,.string ⟨#[]⟩] 108));clear x;go_enter func184,ntmps184
 go_upto_region 1 with fail
 have h0:Hid (w.heap.size<=w.heap.size):=Zz (bS _);obtain ⟨D,hD⟩:∃D,w.heap.size=D:=⟨_,rfl⟩;rw[hD] at l ⊢;have Y:=Zz hD;have d:p≠D:=ab.ne_ t.o l.o d_;have i:=Zz d;clear hD d;generalize w.alloc (.cells #[.int .i64 0,.string ⟨#[]⟩,.string ⟨#[]⟩] 108)=h3 at *;go_wp2_with fail;refine (v.o _ t.o).mono ?_;rintro e h4 ⟨rfl,N,o⟩;have I:=Zz N;have J:=Zz (P.o.trans o);have f:=Zz (l.o.kp o fun h=>i.o h.symm);clear N o t P l;go_wp2_with fail;refine (z.o _ I.o).mono ?_;rintro e w3 ⟨rfl,O,s⟩;have G:=Zz O;have M:=Zz (J.o.trans s);have X:=Zz (f.o.kp s fun h=>i.o h.symm);clear O s I J f;go_wp2_with fail;refine (y.o _ G.o).mono ?_;rintro e u ⟨rfl,R,r⟩;have B:=Zz R;have A:=Zz (M.o.trans r);have a:=Zz (X.o.kp r fun h=>i.o h.symm);clear R r G M X;have T:(prog.info? 108).map (·.size)=some 3:=k_
 have Z:(#[.int .i64 st,.string top,.string log]:Array Value).all (·.oneCell')=true:=by simp[Value.oneCell']
 go_wp2_with (refine wpList_store_row rfl 108 (.tmp 2) (.tmp 15) rfl D _ rfl rfl 108 _ a.o T rfl Z ?_)
 have C:=a.o.setRow (cs':=#[.int .i64 st,.string top,.string log]);have E:Kp (fun q=>q=D) u (u.setRow D #[.int .i64 st,.string top,.string log]):=(Kp.refl _ u).setRow D _ (.inl rfl);refine bodyPost_ret (x_s rfl rfl C underlying108 rfl T) rfl ?_;exact ⟨rfl,B.o.kp E fun e=>i.o e,A.o.then E fun q h1 e=>(by have:=Y.o;have e:q=D:=e;omega:False).elim⟩
def Ci (w:W_) (epoch:Nat) (k:1<=epoch) (l:epoch<4294967295) :
  Cl 90 #[.int .u64 epoch,.int .u64 0] w fun e w'=>e=.returned (.tuple #[.pointer (some ⟨w.heap.size,0,none⟩),.int .i64 0])/\ab w' w.heap.size 226 #[.int .u64 epoch,.int .u64 0]/\Kp ac w w':=by
 have i:(1:Int)<=(epoch:Int):=o_;have j:(epoch:Int)<=4294967295:=o_;have g:Hid (ab (w.alloc (.cells #[.int .u64 epoch,.int .u64 0] 226)) w.heap.size 226 #[.int .u64 epoch,.int .u64 0]):=Zz (ab.new w _ _);have h:=Zz ((Kp.refl ac w).alloc (.cells #[.int .u64 epoch,.int .u64 0] 226));go_enter func90,ntmps90;go_wp2;go_ret2;exact ⟨rfl,g.o,h.o⟩
def lO (epoch n:Nat):List UInt8:=bQ epoch++v8 [n]
def AY (e n:Nat):(lO e n).length=12:=by unfold lO;rw[cd,ec,x_J];rfl
def Xt (w:W_) (p epoch n:Nat) (Z:epoch<4294967296) (hn:n<4294967296) (x:ab w p 226 #[.int .u64 epoch,.int .u64 n]) :
  Cl 105 #[.pointer (some ⟨p,0,none⟩)] w fun e w'=>e=.returned (.tuple #[.string (bs (lO epoch n)),.int .i64 0])/\ab w' p 226 #[.int .u64 epoch,.int .u64 (n+1:Nat)]/\Kp (·=p) w w':=by
 have Y:¬(4294967295<(n:Int)):=o_
 have C:IntKind.u32.wrap (n:Int)=(n:Int):=by rw[IntKind.wrap_u32];omega
 have X:IntKind.u64.wrap ((n:Int)+1)=((n+1:Nat):Int):=by rw[ie];omega
 have o:=x.c1;have f:=Zz (fun W=>Vh W epoch o_);have Tw:=Zz (fun W v h=>v_d W v [n] h s_);have J:Hid (bs (bQ epoch)++bs (v8 [n])=bs (lO epoch n)):=Zz (uQ _ _)
 have F:(bs (bQ epoch)).size=8:=by rw[cG,ec]
 have H:(bs (v8 [n])).size=4:=by rw[cG,x_J];rfl
 have P:Hid (∀W:W_,b_ (W.alloc (.cells #[.int .u32 n] 213)) (.slice (some ⟨W.heap.size,0,none⟩) 1 1) (uv [n])):=Zz fun W=>Ab W #[.int .u32 n] 213 (by simp[maxLen]);have q:=Zz x.drew;have y:=Zz (Kp.refl ac w).drew;have V:=x.lt;have D:=J.o;clear x;generalize lO epoch n=R at *;generalize bs (bQ epoch)=A at *;generalize v8 [n]=B at *;generalize n+1=m at *;go_enter func105,ntmps105
 go_upto_region 5 with fail
 clear o
 go_cut [4] (fun Q I=>Q=.string (bs R)/\Hid (ab I p 226 #[.int .u64 epoch,.int .u64 n])/\Hid (Kp ac w I))
 case first =>
  refine fs ?_;generalize w.drew=G at *;have c:=q.o.c0;have o:=q.o.c1;refine fp 0 ?_;refine fp 1 ?_;refine fp 2 ?_;refine cw 3 c ?_;refine fp 5 ?_;refine fp 6 ?_;refine fp 7 ?_;refine cw 8 o ?_;refine fp 9 ?_;have E:=P.o;refine v_p 4 10 k_ ?_ ?_
  ·refine C9 4 rfl (fun K r g=>?_)
   go_simp;refine (f.o _).mono ?_;rintro e w3 ⟨rfl,j⟩;have i:=Zz (q.o.kp j fun h=>h);have s:=Zz (y.o.trans j);refine g _ _ (oK (i.o.cell 1) (oW oN)) ?_;clear g K c o j q y;refine fd 10 fun K r g=>?_;go_simp;have u:=E w3;have k:=Zz (i.o.alloc (.cells #[.int .u32 n] 213));have t:=Zz (s.o.alloc (.cells #[.int .u32 n] 213));refine g _ _ (oW (oK (k.o.cell 0) oN)) ?_;clear g K;clear i s;generalize w3.alloc (.cells #[.int .u32 n] 213)=T at *;refine fd 11 fun K r g=>?_;go_simp;refine (Tw.o _ _ u).mono ?_;rintro e U ⟨rfl,l⟩;refine g _ _ (oW (oW oN)) ?_;clear g K;have a:=Zz (k.o.below l k.o.lt);have b:=Zz (t.o.trans (Kp.of_below l _));clear k t l u;refine fp 12 ?_;refine fp 13 ?_;refine fe ?_;go_wp2_with fail
   go_meet
   exact ⟨rfl,a,b⟩
  refine C9 10 rfl (fun K r g=>?_);go_simp;have u:=E G;have k:=Zz (q.o.alloc (.cells #[.int .u32 n] 213));have t:=Zz (y.o.alloc (.cells #[.int .u32 n] 213));refine g _ _ (oW (oK (k.o.cell 0) oN)) ?_;clear g K c o q y;generalize G.alloc (.cells #[.int .u32 n] 213)=T at *;refine fd 4 fun K r g=>?_;go_simp;refine (f.o _).mono ?_;rintro e w3 ⟨rfl,j⟩;have i:=Zz (k.o.kp j fun h=>h);have s:=Zz (t.o.trans j);have d:=u.below j.below0;refine g _ _ (oK (i.o.cell 1) (oW oN)) ?_;clear g K j k t u;refine fd 11 fun K r g=>?_;go_simp;refine (Tw.o _ _ d).mono ?_;rintro e U ⟨rfl,l⟩;refine g _ _ (oW (oW oN)) ?_;clear g K;have a:=Zz (i.o.below l i.o.lt);have b:=Zz (s.o.trans (Kp.of_below l _));clear i s l d;refine fp 12 ?_;refine fp 13 ?_;refine fe ?_;go_wp2_with fail
  go_meet
  exact ⟨rfl,a,b⟩
 case rest =>
  obtain ⟨rfl,z,M⟩:=hcut;have o:=z.o.c1;have f1:=z.o.frozen 1;have O:Hid (ab (wc.setCell ⟨p,1,none⟩ (.int .u64 m)) p 226 #[.int .u64 epoch,.int .u64 m]):=Zz (z.o.set_ 1 _);have N:=Zz ((M.o.mono (S:=(·=p)) fun _ _ h=>h.elim).setCell ⟨p,1,none⟩ (.int .u64 m) (.inl rfl));go_wp2;go_ret2;exact ⟨rfl,O.o,N.o⟩
def UN (w:W_) :
  Cl 53 #[] w fun e w'=>e=.returned (.pointer (some ⟨w.heap.size,0,none⟩))/\ab w' w.heap.size 180 #[.int .u64 0,.string (bs [])]/\Kp ac w w':=by
 have g:Hid (ab (w.alloc (.cells #[.int .u64 0,.string (bs [])] 180)) w.heap.size 180 #[.int .u64 0,.string (bs [])]):=Zz (ab.new w _ _);have h:=Zz ((Kp.refl ac w).alloc (.cells #[.int .u64 0,.string (bs [])] 180));go_enter func53,ntmps53;go_wp2;go_ret;exact ⟨rfl,g.o,h.o⟩
def w_9 (w:W_) (p n:Nat) (d:List UInt8) (g:ab w p 180 #[.int .u64 n,.string (bs d)]) :
  Cl 86 #[.pointer (some ⟨p,0,none⟩)] w fun e w'=>e=.returned (.tuple #[.int .u64 n,.string (bs d)])/\Kp ac w w':=by
 have i:w.drew.cell? ⟨p,0,none⟩=some (.int .u64 n):=g.cell 0;have j:w.drew.cell? ⟨p,1,none⟩=some (.string (bs d)):=g.cell 1;have h:=Zz (Kp.refl ac w).drew;clear g;go_enter func86,ntmps86
 go_upto_region 3 with fail
 go_still k_
 go_wp2;go_ret2;exact ⟨rfl,h.o⟩
def Vs (w:W_) (p n m:Nat) (d d2:List UInt8) (j:d2.length=32) (k:n<m) (hm:m<18446744073709551616) (g:ab w p 180 #[.int .u64 n,.string (bs d)]) :
  Cl 122 #[.pointer (some ⟨p,0,none⟩),.int .u64 m,.string (bs d2)] w fun e w'=>e=.returned (.int .i64 0)/\ab w' p 180 #[.int .u64 m,.string (bs d2)]/\Kp (·=p) w w':=by
 have l:=g.c0;have o:=g.c1;have f0:=g.frozen 0;have f1:=g.frozen 1;have q:¬((m:Int)<=(n:Int)):=o_
 have hz:(bs d2).size=32:=by rw[cG,j]
 have h:Hid (ab ((w.setCell ⟨p,0,none⟩ (.int .u64 m)).setCell ⟨p,1,none⟩ (.string (bs d2))) p 180 #[.int .u64 m,.string (bs d2)]):=Zz ((g.set_ 0 _).set_ 1 _);have i:=Zz (((Kp.refl (·=p) w).setCell ⟨p,0,none⟩ (.int .u64 m) (.inl rfl)).setCell ⟨p,1,none⟩ (.string (bs d2)) (.inl rfl));clear g;go_enter func122,ntmps122;go_wp2;go_ret;exact ⟨rfl,h.o,i.o⟩
section
variable {an:Nat} 
def D2 (h:Bk w b n σ F) (an:Nat) (key:List UInt8) (i at':Nat) (O:i<n) (T:at'<140) (s:B_) (hs:s.size<=2048) (U:(σ i).wait<=100000) :
  Cl 120 #[.agg (aT b an key),.int .i64 i,.int .i64 at',.string s] w fun e w'=>e=.returned (.int .i64 (if (σ i).dead then 20 else 0))/\∃g,Gr w F g/\Bk w' b n (dY σ i ((σ i).write at' s).flush) g/\Kp F w w':=by
 have o:=Zz (ab.new w 113 (aT b an key));have j:=Zz ((Kp.refl ac w).alloc (.cells (aT b an key) 113));have t:=Zz (z_aq (h.no j.o) i at' O T s hs U);have P:=Zz (fun W σ' g (hb:Bk W b n σ' g)=>z_ay hb i O);have c:=Zz (h.offNew (bS _));have Y:=Zz (fun q (m:F q)=>(h.lt m).2);have u:=ao.write_dead (σ i) at' s;have d:=P_ σ i ((σ i).write at' s);have f:=w_K σ i ((σ i).write at' s) ((σ i).write at' s).flush;clear h;change Cl 120 #[.agg #[.pointer (some ⟨b,0,none⟩),.pointer (some ⟨an,0,none⟩),.string (bs key)],.int .i64 i,.int .i64 at',.string s] w _
 cases y:(σ i).dead with
 | true =>
  have R:((σ i).write at' s).flush=(σ i).write at' s:=by unfold ao.flush;rw[u,y];rfl
  rw[R];rw[y] at t;clear u d f P;generalize dY σ i ((σ i).write at' s)=σ1 at *;go_enter func120,ntmps120
  go_upto_region 1 with fail
  change Code.wp _ _ _ _ (w.alloc (.cells (aT b an key) 113));generalize w.alloc (.cells (aT b an key) 113)=V at *;obtain ⟨G,hG⟩:∃G,w.heap.size=G:=⟨_,rfl⟩;rw[hG] at o c ⊢;clear hG;have r:=o.o.c0;go_wp2_with fail;refine t.o.mono ?_;rintro e v ⟨rfl,x,p,k,l⟩;have HR:Hid (∃g,Gr w F g/\Bk v b n σ1 g/\Kp F w v):=Zz ⟨x,fun q m z=>p q (ea m j.o.size) z,k,(j.o.mono fun _ _ h=>h.elim).trans l⟩;clear p k l r;go_wp2;go_ret
  exact ⟨rfl,HR.o⟩
 | false =>
  rw[y] at t u;go_enter func120,ntmps120
  go_upto_region 1 with fail
  change Code.wp _ _ _ _ (w.alloc (.cells (aT b an key) 113));generalize w.alloc (.cells (aT b an key) 113)=V at *;obtain ⟨G,hG⟩:∃G,w.heap.size=G:=⟨_,rfl⟩;rw[hG] at o c ⊢;clear hG;have r:=o.o.c0;go_wp2_with fail;refine t.o.mono ?_;rintro e v ⟨rfl,x,p,k,l⟩;have X:=Zz k;have N:=Zz p;have E:=Zz l;have S:=Zz (o.o.kp l c.o);have a:=Zz (P.o v _ x k);rw[d,f,u] at a;clear p k l r;have r:=S.o.c0;simp only[Bool.false_eq_true,if_false];simp only[Bool.false_eq_true,if_false] at a;go_wp2_with fail;refine a.o.mono ?_;rintro e w3 ⟨rfl,Q,M,J,I⟩;have HR:Hid (∃g,Gr w F g/\Bk w3 b n (dY σ i ((σ i).write at' s).flush) g/\Kp F w w3):=Zz ⟨Q,fun q m z=>N.o q (ea m j.o.size) (M q (ea m (cL j.o.size E.o.size)) z),J,(j.o.mono fun _ _ h=>h.elim).trans (Xn E.o N.o I)⟩;clear M J I r;go_wp2;go_ret;exact ⟨rfl,HR.o⟩
def eY (σ:Nat->ao) (c:Nat) (t:B_) (k:Nat):Nat->ao:=fun j=>if j<k then ((σ j).write c t).flush else σ j
def xJ (σ:Nat->ao) (c:Nat) (t:B_):eY σ c t 0=σ:=by funext j;simp[eY]
def NQ (σ:Nat->ao) (c:Nat) (t:B_) (k:Nat):eY σ c t k k=σ k:=by simp[eY]
def ws (σ:Nat->ao) (c:Nat) (t:B_) (k:Nat):dY (eY σ c t k) k ((σ k).write c t).flush=eY σ c t (k+1):=by
 funext j;unfold dY eY;by_cases e:j=k
 ·subst e;simp
 rw[if_neg e];by_cases h:j<k
 ·rw[if_pos h,if_pos o_]
 rw[if_neg h,if_neg o_]
def rQ (h:Bk w b n σ F) :
  Cl 121 #[.pointer (some ⟨b,0,none⟩)] w fun e w'=>e=.returned (.int .i64 0)/\Bk w' b n σ F/\Kp F w w':=by
 obtain ⟨G,c,st,A,Φ,i,hF⟩:=h;refine (mB i).mono ?_;rintro e w' ⟨rfl,⟨g,j⟩,hk⟩;exact ⟨rfl,⟨G,c,g,A,Φ,j,hF⟩,hk.mono fun q _ e=>(hF q).2 (.inl e)⟩
def Sn (σ:Nat->ao) (k:Nat):Bool:=(List.range k).any fun j=>!(σ j).dead
def Bw (σ:Nat->ao) (k:Nat):Sn σ (k+1)=(Sn σ k || !(σ k).dead):=by simp[Sn,List.range_succ]
def C2 (σ:Nat->ao) (k i:Nat) (h:i<k) (e:(σ i).dead=false):Sn σ k=true:=by
 unfold Sn;rw[List.any_eq_true];exact ⟨i,List.mem_range.2 h,by rw[e];rfl⟩
def Xg (g:a7 S):(bh S).length<=1200:=by
 have l:=w_t bQ 8 (lG S) (fun x _=>Nat.le_of_eq (ec x))
 have m:=w_t pe 88 S.mem (fun x j=>by
  obtain ⟨i,h,e⟩:=List.getElem_of_mem j
  rw[<-e];exact Nat.le_of_eq (v_P (g.mem i h).1 (g.mem i h).2.1))
 have n:=tC S;have k:=g.n12;have o:=g.d8;have:S.mem.length*88<=12*88:=Nat.mul_le_mul_right _ k;have:(lG S).length*8<=13*8:=Nat.mul_le_mul_right _ o_;unfold bh;rw[cd,cd,cd,ec,ec];omega
def z_ah (V:a_ w) (h:Bk w b n σ F) (y4:10<=w.heap.size) (R:Nat) (L:List UInt8) (ha:ab w an 180 #[.int .u64 R,.string (bs L)]) (S:cj) (vs vm:Value) (a:a7 S) (hR:ja w S vs vm) (y3:R<S.count) (y2:∀i,i<n->(σ i).wait<=1000) (x6:∃i,i<n/\(σ i).dead=false) :
  Cl 74 #[.agg (aT b an key),.agg (dK S vs vm)] w fun e w'=>e=.returned (.int .i64 0)/\ab w' an 180 #[.int .u64 S.count,.string (bs (dC (bh S)))]/\∃j,Gr w F j/\Bk w' b n (eY σ (S.count % 2) (bs (bh S)) n) j/\Kp (fun q=>F q\/q=an) w w':=by
 have Q:=Zz ((ab.new w 113 (aT b an key)).alloc (.cells (dK S vs vm) 60));have u:=Zz (((Kp.refl ac w).alloc (.cells (aT b an key) 113)).alloc (.cells (dK S vs vm) 60));have l:=Zz (ab.new (w.alloc (.cells (aT b an key) 113)) 60 (dK S vs vm));rw[World.size_alloc] at l;have H3:=Zz (fun W (k:Kp ac w W)=>Ea a (hR.no k));have nY:=Zz (fun W σ' j (hb:Bk W b n σ' j) i (X:i<n) (hz:(σ' i).wait<=100000)=>D2 (an:=an) (key:=key) hb i (S.count % 2) X o_ (bs (bh S)) (by rw[cG];have:=Xg a;omega) hz);have bR:=Zz (fun W σ' j (hb:Bk W b n σ' j)=>x_m hb);have fw:=Zz (fun W σ' j (hb:Bk W b n σ' j)=>rQ hb);have sB:=Zz (fun W (V:a_ W) (bn:10<=W.heap.size)=>v_w W V bn (bh S) (by have:=Xg a;omega));have H9:=Zz (fun W (hb:ab W an 180 #[.int .u64 R,.string (bs L)])=>Vs W an R S.count L (dC (bh S)) (x_R _) y3 (by have:=a.c;omega) hb);have eI:=Zz (fun q (v:F q)=>h.lt v);have cz:=Zz (h.off ha (by unfold ci;decide));have h8:=Zz (h.offNew (g:=w.heap.size) (bS _));have H2:=Zz (h.offNew (g:=w.heap.size+1) o_);have x8:=Zz (h.no u.o);have qn:=Zz (ha.kp u.o fun h=>h);have x4:=Zz (V.no u.o);have je:=Zz y2;have dO:Hid (Sn σ n=true):=Zz (by obtain ⟨i,X,hd⟩:=x6;exact C2 σ n i X hd);have oZ:=Zz (xJ σ (S.count % 2) (bs (bh S)));have h7:=Zz (NQ σ (S.count % 2) (bs (bh S)));have y8:=Zz (ws σ (S.count % 2) (bs (bh S)));have ya:=Zz (Bw σ);have pZ:Hid (w.heap.size≠an/\w.heap.size+1≠an):=Zz (by have:=ha.lt;constructor<;>omega);have eU:=a.c;obtain ⟨P,cs,Am,cm,cI,bU⟩:=hR.shape;subst cI bU
 have od:((S.count:Int)).tmod 2=((S.count % 2:Nat):Int):=by rw[Int.tmod_eq_emod_of_nonneg o_];rfl
 have kP:S.count % 2<2:=gx _ d_
 have cE:n<=12:=by obtain ⟨G,c,st,A,Φ,h0,_⟩:=h;exact h0.n12
 have dH:=Zz y4;clear V h ha a hR y2 x6 y3 y4;obtain ⟨count,epoch,d,s,mem⟩:=S
 dsimp only at od kP eU Q u l H3 nY sB H9 oZ h7 y8 ⊢
 generalize mem.length=Y at *;generalize Ge:count % 2=r at *;clear Ge
 have aV:IntKind.i64.wrap (r:Int)=(r:Int):=by rw[eM];omega
 have fH:IntKind.u64.wrap (r:Int)=(r:Int):=by rw[ie];omega
 generalize bh ⟨count,epoch,d,s,mem⟩=O at *;generalize x7:dK ⟨count,epoch,d,s,mem⟩ (.slice P (d+2) cs) (.slice Am Y cm)=CS at *;have nX:CS=#[.int .u64 count,.int .u64 epoch,.int .i64 d,.int .i64 s,.int .i64 0,.int .i64 0,.bool false,.slice P (d+2) cs,.slice Am Y cm]:=x7.symm;clear x7;subst nX;change Cl 74 #[.agg #[.pointer (some ⟨b,0,none⟩),.pointer (some ⟨an,0,none⟩),.string (bs key)],_] w _;go_enter func74,ntmps74
 go_upto_region 1 with fail
 change Code.wp _ _ _ _ ((w.alloc (.cells (aT b an key) 113)).alloc (.cells #[.int .u64 count,.int .u64 epoch,.int .i64 d,.int .i64 s,.int .i64 0,.int .i64 0,.bool false,.slice P (d+2) cs,.slice Am Y cm] 60));generalize (w.alloc (.cells (aT b an key) 113)).alloc (.cells #[.int .u64 count,.int .u64 epoch,.int .i64 d,.int .i64 s,.int .i64 0,.int .i64 0,.bool false,.slice P (d+2) cs,.slice Am Y cm] 60)=w1 at *;obtain ⟨G,hG⟩:∃G,w.heap.size=G:=⟨_,rfl⟩;rw[hG] at Q l h8 H2 pZ ⊢;have cq:=Zz hG;clear hG;have T:=l.o.c0;have c1:=l.o.c1;have c2:=l.o.c2;have c3:=l.o.c3;have c4:=l.o.c4;have c5:=l.o.c5;have c6:=l.o.c6;have c7:=l.o.c7;have c8:=l.o.c8;go_wp2_with fail;refine (H3.o _ u.o).mono ?_;rintro e t ⟨rfl,m⟩;have h3:=Zz (Q.o.kp m fun h=>h);have y5:=Zz (l.o.kp m fun h=>h);have h4:=Zz (u.o.trans m);have y9:=Zz (x8.o.no m);have AS:=Zz (qn.o.kp m fun h=>h);have qo:=Zz (x4.o.no m);clear m Q l u x8 qn x4 H3 T c1 c2 c3 c4 c5 c6 c7 c8;have d0:=h3.o.c0
 go_upto_region 3 with fail
 go_wp2_with fail;refine (bR.o _ _ _ y9.o).mono ?_;rintro e t ⟨rfl,rfl⟩;have f:Hid (∃j,Gr t F j/\Bk t b n (eY σ r (bs O) 0) j):=Zz ⟨F,Gr.refl _ _,by rw[oZ.o];exact y9.o⟩;have o:=Zz (Kp.refl F t);clear d0
 go_upto_region 4 with fail
 go_loopw [7,8,18] (fun s7 _ H0 wr=>∃i:Nat,i<=n/\H0=.int .i64 i/\s7=.bool (Sn σ i)/\Hid (∃j,Gr t F j/\Bk wr b n (eY σ r (bs O) i) j)/\Hid (Kp F t wr)) (fun _ _ H0 _=>n-(intOf H0).toNat)
 case atStart=>exact ⟨0,o_,rfl,rfl,f,o⟩
 case round =>
  clear f o;obtain ⟨i,X,rfl,rfl,f,o⟩:=hrel;have U:=Zz (h3.o.kp o.o h8.o);have mS:=Zz (y5.o.kp o.o H2.o);obtain ⟨H7,x5,x2⟩:=f.o;have z:=Zz x5;have x0:=Zz x2;clear x5 x2 f;by_cases x1:i<n
  ·have bL:(i:Int)<(n:Int):=o_
   have h6:=nY.o wr _ H7 x0.o i x1 (by rw[h7.o];have:=je.o i x1;omega);rw[h7.o,y8.o] at h6;have x:=Zz h6;have p:=ya.o i;clear h6;have T:=mS.o.c0;have d0:=U.o.c0;have d1:=U.o.c1;have d2:=U.o.c2
   cases rM:(σ i).dead with
   | true =>
    rw[rM] at x p;rw[Bool.not_true,Bool.or_false] at p;have B:=Zz p;clear p;simp only[if_true] at x;generalize Sn σ i=tk at *;go_wp2_with fail;refine x.o.mono ?_;rintro e H5 ⟨rfl,Z,J,E,m⟩;have H4:Hid (∃j,Gr t F j/\Bk H5 b n (eY σ r (bs O) (i+1)) j):=Zz ⟨Z,z.o.then J o.o.size,E⟩;have h5:=Zz (Xn o.o z.o m);clear J E m o T d0 d1 d2;go_wp2;go_roundw
    case rel=>exact ⟨i+1,o_,by go_num,by rw[B.o],H4,h5⟩
    case measure=>simp[intOf];omega
   | false =>
    rw[rM] at x p;rw[Bool.not_false,Bool.or_true] at p;have B:=Zz p;clear p;simp only[Bool.false_eq_true,if_false] at x;generalize Sn σ i=tk at *;go_wp2_with fail;refine x.o.mono ?_;rintro e H5 ⟨rfl,Z,J,E,m⟩;have H4:Hid (∃j,Gr t F j/\Bk H5 b n (eY σ r (bs O) (i+1)) j):=Zz ⟨Z,z.o.then J o.o.size,E⟩;have h5:=Zz (Xn o.o z.o m);clear J E m o T d0 d1 d2;go_wp2;go_roundw
    case rel=>exact ⟨i+1,o_,by go_num,by rw[B.o],H4,h5⟩
    case measure=>simp[intOf];omega
  obtain rfl:i=n:=o_;rw[dO.o];have d0:=U.o.c0;go_wp2_with fail;refine (fw.o _ _ _ x0.o).mono ?_;rintro e H6 ⟨rfl,y1,D⟩;have a8:=Zz y1;have I:=Zz (Xn o.o z.o D);have fm:=Zz D;clear y1 D d0;have H1:=Zz (h3.o.kp I.o h8.o).drew;have h9:=Zz (y5.o.kp I.o H2.o).drew;have nQ:=Zz (AS.o.kp I.o cz.o).drew;have y7:=Zz ((qo.o.kp I.o fun g hg N=>by have:=(eI.o g N).1;omega).no (Kp.refl ac H6).drew);have C:=Zz I.o.drew;have x3:=Zz (a8.o.no (Kp.refl ac H6).drew);have dW:=Zz (fm.o.drew)
  go_upto_region 17 with fail
  refine fs ?_;generalize H6.drew=w6 at *;have d1:=H1.o.c1;have y0:=h9.o.c0;refine fp 0 ?_;refine cw 1 d1 ?_;refine fp 2 ?_;refine cw 3 y0 ?_;refine fp 4 ?_;refine fd 5 fun K Qx M=>?_;go_simp;refine (sB.o _ y7.o (by have:=dH.o;have:=h4.o.size;have:=C.o.size;omega)).mono ?_;rintro e w7 ⟨rfl,y⟩;have lq:=Zz (h9.o.kp y fun h=>h);have ut:=Zz (H1.o.kp y fun h=>h);have y6:=Zz (nQ.o.kp y fun h=>h);have bH:=Zz (C.o.then y fun _ _ h=>h.elim);have x9:=Zz (x3.o.no y);refine M _ _ (oK (lq.o.cell 0) (oK (ut.o.cell 1) oN)) ?_;clear M K y d1 y0 h9 H1 nQ C x3 dW y7;refine fd 6 fun K Qx M=>?_;go_simp;refine (H9.o _ y6.o).mono ?_;rintro e w8 ⟨rfl,H8,H⟩
  have HR:Hid (∃j,Gr w F j/\Bk w8 b i (eY σ r (bs O) i) j):=Zz ⟨H7,fun q v N=>z.o q (ea v h4.o.size) N,x9.o.kp H fun q v N=>by
   have v:q=an:=v;subst v
   exact x9.o.off y6.o (by unfold ci;decide) N⟩
  have OF:Hid (Kp (fun q=>F q\/q=an) w w8):=Zz ((h4.o.mono fun _ _ h=>h.elim).trans ((bH.o.mono fun q _ h=>Or.inl h).trans (H.mono fun q _ h=>Or.inr h)));have fC:=Zz H8;refine M _ _ (oW (oW oN)) ?_;clear M K H H8;refine fp 7 ?_;refine fe ?_;go_wp2;go_ret;obtain ⟨j,h1,h2⟩:=HR.o;exact ⟨rfl,fC.o,j,h1,h2,OF.o⟩
end
end Go.Proofs.YtdkheklakfbeeaaGreatDoor
