/- Part 21 of the proof. -/
import Derived.Test.YtdkheklakfbeeaaGreatDoorM20
set_option linter.all false
set_option maxRecDepth 100000
set_option maxHeartbeats 16000000
namespace Go.Proofs.YtdkheklakfbeeaaGreatDoor
open Go.RowKit Tryz
def Bu (w:World) (B:Nat) (l:List UInt8):Prop:=Lib.IsBuilderF 232 5 B B (bv l) w
theorem Bu.kp {S:Nat->Prop} {w w':World} {B:Nat} {l:List UInt8} (h:Bu w B l) (k:Kp S w w') (hS:∀q,B<=q->¬S q):Bu w' B l:=by
 have one:∀p,Lib.BuilderAtF 232 5 B B p (bv l) w->Lib.BuilderAtF 232 5 B B p (bv l) w':=fun p h=>by
  obtain ⟨hB,v,hb,bD,aA⟩:=h;refine ⟨hB,v,(k.block B (q_K.1 hb).1 (hS B hB)).trans hb,⟨bD.1,?_⟩,aA⟩;rcases bD.2 with hn|⟨g,av,aQ,fz,rfl,BF,gQ,rest⟩
  ·exact .inl hn
  ·exact .inr ⟨g,av,aQ,fz,rfl,BF,(k.block g (q_K.1 gQ).1 (hS g BF)).trans gQ,rest⟩
 exact h.elim (fun h=>.inl (one _ h)) (fun h=>.inr (one _ h))
theorem Bu.kpT {S:Nat->Prop} {w w':World} {B:Nat} {l:List UInt8} (h:Bu w B l) (k:Kp S w w') (hS:∀q,S q->∃t cs,Blk w q t cs/\t≠5/\t≠232):Bu w' B l:=by
 have one:∀p,Lib.BuilderAtF 232 5 B B p (bv l) w->Lib.BuilderAtF 232 5 B B p (bv l) w':=fun p h=>by
  obtain ⟨hB,v,hb,bD,aA⟩:=h;refine ⟨hB,v,(k.block B (q_K.1 hb).1 (fun hs=>?_)).trans hb,⟨bD.1,?_⟩,aA⟩
  ·obtain ⟨t,cs,h1,_,h2⟩:=hS B hs
   unfold Blk at h1;rw[hb] at h1;injection h1 with h1;injection h1 with _ h1;exact h2 h1.symm
  ·rcases bD.2 with hn|⟨g,av,aQ,fz,rfl,BF,gQ,rest⟩
   ·exact .inl hn
   ·refine .inr ⟨g,av,aQ,fz,rfl,BF,(k.block g (q_K.1 gQ).1 (fun hs=>?_)).trans gQ,rest⟩
    obtain ⟨t,cs,h1,h2,_⟩:=hS g hs;unfold Blk at h1;rw[gQ] at h1;injection h1 with h1;injection h1 with _ h1;exact h2 h1.symm
 exact h.elim (fun h=>.inl (one _ h)) (fun h=>.inr (one _ h))
theorem x_N {w:World} {base e:Nat} {v:Value} {xs:List Value} (h:Own w base e v xs) {q:Nat} (hq:v.ownBlock=some q):∃cs,Blk w q e cs:=by
 rcases h.2 with ⟨rfl,_⟩|⟨g,av,aQ,rfl,_,gQ,_⟩
 ·cases hq
 ·have:g=q:=by simpa[Value.ownBlock] using hq
  subst this;exact ⟨_,gQ⟩
theorem Bu.no {w w':World} {B:Nat} {l:List UInt8} (h:Bu w B l) (k:Kp NoB w w'):Bu w' B l:=h.kp k fun _ _ h=>h
theorem Bu.new (w:World):Bu (w.alloc (.cells #[.pointer none,.slice none 0 0] 232)) w.heap.size []:=Lib.IsBuilderF.of (builder_new w)
theorem Bu.blk {w:World} {B:Nat} {l:List UInt8} (h:Bu w B l):∃cs,Blk w B 232 cs:=by
 rcases h with ⟨_,v,hb,_⟩|⟨_,v,hb,_⟩<;>exact ⟨_,hb⟩
def BuKp (B:Nat) (w w':World):Prop:=Below B w w'/\Lib.OthersKept 5 (some B) w w'
theorem BuKp.blk {B:Nat} {w w':World} (h:BuKp B w w') {g t:Nat} {cs:Array Value} (hb:Blk w g t cs) (h5:t≠5) (hg:g≠B):Blk w' g t cs :=
 h.2 g _ hb (fun e=>hg (Option.some.inj e)) (fun c fz e=>by injection e with _ e;exact h5 e)
theorem BuKp.own {B:Nat} {w w':World} (h:BuKp B w w') {base e:Nat} {v:Value} {xs:List Value} (ho:Own w base e v xs) (h5:e≠5) (hB:v.ownBlock≠some B):Own w' base e v xs:=by
 refine ⟨ho.1,?_⟩;rcases ho.2 with hn|⟨g,av,aQ,rfl,BF,gQ,rest⟩
 ·exact .inl hn
 ·exact .inr ⟨g,av,aQ,rfl,BF,h.blk (show Blk w g e aQ from gQ) h5 (fun e=>hB (by rw[e];rfl)),rest⟩
theorem BuKp.no {B:Nat} {w w':World} (h:BuKp B w w') {w0:World} (k:Kp NoB w0 w) (hB:w0.heap.size<=B):Kp NoB w0 w' :=
 ⟨h.1.os.trans k.os,h.1.tape.trans k.tape,h.1.output.trans k.output,q_g k.size h.1.size,fun q hq hs=>(h.1.block q (by omega)).trans (k.block q hq hs)⟩
theorem Bu.write {w:World} {B:Nat} {l:List UInt8} (h:Bu w B l) (x:List UInt8) (hl:l.length+x.length<=1000000) (hB:B<=w.heap.size) :
  Cl 137 #[.pointer (some ⟨B,0,none⟩),.string (bs x)] w fun e w'=>e=.returned (.tuple #[.int .i64 (bs x).size,.nilIface])/\Bu w' B (l++x)/\BuKp B w w':=by
 refine (Tryz.Builder_WriteString_k B B (bv l) (bs x) w h (by rw[z_D,z_b];omega) hB).mono ?_;rintro e w' ⟨rfl,h1,h2,h3⟩;rw[strB,<-w_h] at h1;exact ⟨rfl,.inr h1,h2,h3⟩
theorem Bu.str {w:World} {B:Nat} {l:List UInt8} (h:Bu w B l) (h0:l≠[]) :
  Cl 139 #[.pointer (some ⟨B,0,none⟩)] w fun e w'=>e=.returned (.string (bs l))/\Below B w w':=by
 refine (Tryz.Builder_String_f B B l w h h0).mono ?_;rintro e w' ⟨rfl,_,h2⟩;exact ⟨rfl,h2⟩
def numL (S:Sup):List Nat:=[S.data,S.slots,0,0,0,S.data+2]++y_H S++[S.mem.length]
def y_J (m:Mem):List UInt8:=z_k m.st++z_v m.top.data.toList++z_v m.log.data.toList
def z_t (S:Sup):List UInt8:=(z_k S.count++z_k S.epoch)++(numL S).flatMap z_k++S.mem.flatMap y_J
theorem numL_len (S:Sup):(numL S).length=S.data+9:=by unfold numL;simp[y_H]
theorem w_a {α:Type} (f:α->List UInt8) (k:Nat) (L:List α) (h:∀x∈L,(f x).length<=k):(L.flatMap f).length<=L.length*k:=by
 induction L with
 | nil=>simp
 | cons x l ih =>
  rw[List.flatMap_cons,q_b,List.length_cons];have:=ih fun y hy=>h y (List.mem_cons_of_mem _ hy);have:=h x (List.mem_cons_self ..);rw[Nat.add_mul];omega
theorem flat_take {α:Type} (f:α->List UInt8) (L:List α) (i:Nat) (h:i<L.length):(L.take (i+1)).flatMap f=(L.take i).flatMap f++f (L[i]'h):=by
 rw[q_h h,List.flatMap_append];simp
theorem v_p {m:Mem} (h1:m.top.size=32) (h2:m.log.size=32):(y_J m).length=88:=by
 unfold y_J z_v;simp only[q_b,z_m,z_n,h1,h2]
theorem numL_lt {S:Sup} (hS:SupOk S):∀x∈numL S,x<=1000:=by
 intro x hx;unfold numL at hx;have h1:=hS.d8;have h2:=hS.n12
 have h3:S.slots<=4:=by rcases hS.sl with h|h<;>omega
 simp only[List.mem_append,List.mem_cons,List.not_mem_nil,or_false,y_H,List.mem_range] at hx;omega
theorem one_false (w:World):Cl 175 #[.bool false] w fun e w'=>e=.returned (.int .i64 0)/\w'=w:=by
 go_enter func175,ntmps175;go_wp2;go_ret;exact ⟨rfl,rfl⟩
section
variable {w:World} {S:Sup} {vs vm:Value}
theorem sput_any (hS:SupOk S) (h:y_P w S vs vm) :
  Cl 119 #[.agg (z_N S vs vm)] w fun e w'=>e=.returned (.tuple #[.string (bs (z_t S)),.int .i64 0])/\Kp NoB w w':=by
 have HB:=Zz (Blk.new w 60 (z_N S vs vm));have HK:=Zz ((Kp.refl NoB w).alloc (.cells (z_N S vs vm) 60));have nA:=Zz (fun W (k:Kp NoB w W)=>sgood_any hS (h.no k));obtain ⟨As,cs,Am,cm,cQ,cq⟩:=h.shape;have h3:=hS.n1;have h4:=hS.n12;obtain ⟨rb,off,mE,ew⟩:=h.memAt (Kp.refl _ _) cq (by omega);clear ew;subst mE;obtain ⟨sb,so,yd,eN⟩:=h.seatAt (Kp.refl _ _) cQ;clear eN;subst yd;have gB:=Zz (fun w' (k:Kp NoB w w')=>h.memAt k cq (by omega));have mz:=Zz (fun w' (k:Kp NoB w w')=>(h.no k).1);have b6:=Zz hS.mem;have aR:=Zz hS.st2;have aK:=hS.c;have xY:=hS.e;have BG:=hS.d8;have rO:=Zz (numL_lt hS);have dD:=Zz (numL_len S)
 have qG:Hid (∀i,((numL S).take i).length*8<=200):=Zz fun i=>by rw[q_l,numL_len];omega
 have g9:Hid (numL S=([S.data,S.slots,0,0,0,S.data+2]++y_H S)++[S.mem.length]):=Zz rfl;have tF:Hid (z_t S=(z_k S.count++z_k S.epoch)++(numL S).flatMap z_k++S.mem.flatMap y_J):=Zz rfl
 have eP:(y_H S).length=S.data+2:=by simp[y_H]
 subst cQ cq;clear h hS;generalize numL S=NL at *;generalize y_H S=SL at *;generalize z_t S=OUT at *;obtain ⟨count,epoch,d,s,mem⟩:=S
 dsimp only at h3 h4 aK xY BG HB HK nA gB mz b6 aR dD g9 tF eP ⊢
 obtain ⟨n,hn⟩:∃n,mem.length=n:=⟨_,rfl⟩;have HN:=Zz hn;generalize et:z_N ⟨count,epoch,d,s,mem⟩ (.slice (some ⟨sb,so,none⟩) (d+2) cs) (.slice (some ⟨rb,off,none⟩) mem.length cm)=CS at *;obtain ⟨m,hm⟩:∃m,d+2=m:=⟨_,rfl⟩
 have qw:CS=#[.int .u64 count,.int .u64 epoch,.int .i64 d,.int .i64 s,.int .i64 0,.int .i64 0,.bool false,.slice (some ⟨sb,so,none⟩) m cs,.slice (some ⟨rb,off,none⟩) n cm]:=by rw[<-et,hn,hm];rfl
 clear et;rw[hn] at h3 h4;rw[hm] at eP g9 mz b6 h3
 have iE:d+9=m+7:=by omega
 have jy:0<m:=by omega
 rw[iE] at dD;clear hn hm iE;subst qw
 have gv:n<100:=by omega
 have lB:m<100:=by omega
 have rN:d<=4:=BG;clear BG;go_enter func119,ntmps119
 go_upto_region 1 with fail
 generalize aN:w.alloc (.cells #[.int .u64 count,.int .u64 epoch,.int .i64 d,.int .i64 s,.int .i64 0,.int .i64 0,.bool false,.slice (some ⟨sb,so,none⟩) m cs,.slice (some ⟨rb,off,none⟩) n cm] 60)=w1 at *;clear aN;generalize w.heap.size=G at *;have ae:∀W,Hid (Blk W G 60 #[.int .u64 count,.int .u64 epoch,.int .i64 d,.int .i64 s,.int .i64 0,.int .i64 0,.bool false,.slice (some ⟨sb,so,none⟩) m cs,.slice (some ⟨rb,off,none⟩) n cm])->W.cell? ⟨G,0,none⟩=some (.int .u64 count)/\W.cell? ⟨G,1,none⟩=some (.int .u64 epoch)/\W.cell? ⟨G,2,none⟩=some (.int .i64 d)/\W.cell? ⟨G,3,none⟩=some (.int .i64 s)/\W.cell? ⟨G,4,none⟩=some (.int .i64 0)/\W.cell? ⟨G,5,none⟩=some (.int .i64 0)/\W.cell? ⟨G,6,none⟩=some (.bool false)/\W.cell? ⟨G,7,none⟩=some (.slice (some ⟨sb,so,none⟩) m cs)/\W.cell? ⟨G,8,none⟩=some (.slice (some ⟨rb,off,none⟩) n cm):=fun W h=>⟨h.o.cell 0,h.o.cell 1,h.o.cell 2,h.o.cell 3,h.o.cell 4,h.o.cell 5,h.o.cell 6,h.o.cell 7,h.o.cell 8⟩;have bA:=Zz ae;obtain ⟨c0,c1,c2,c3,c4,c5,c6,c7,c8⟩:=ae w1 HB;clear ae;go_wp2_with fail;refine (nA.o _ HK.o).mono ?_;rintro e w2 ⟨rfl,ag⟩;have ak:=Zz (HB.o.kp ag fun h=>h);have al:=Zz (HK.o.trans ag);clear ag c0 c1 c2 c3 c4 c5 c6 c7 c8 HB HK nA;have Eo:=Zz (Bu.new w2);have aJ:=Zz ((ak.o.alloc (.cells #[.pointer none,.slice none 0 0] 232)).drew);have ar:=Zz ((al.o.alloc (.cells #[.pointer none,.slice none 0 0] 232)).drew);have Ep:Hid (Bu (w2.alloc (.cells #[.pointer none,.slice none 0 0] 232)).drew w2.heap.size []):=Eo;have sf:Hid (G<w2.heap.size):=Zz ak.o.lt;have fJ:Hid (w2.heap.size<=(w2.alloc (.cells #[.pointer none,.slice none 0 0] 232)).drew.heap.size):=Zz (by show w2.heap.size<=(w2.alloc (.cells #[.pointer none,.slice none 0 0] 232)).heap.size;simp);have jN:Hid (w.heap.size<=w2.heap.size):=Zz al.o.size;clear ak al Eo
 go_upto_region 5 with fail
 generalize w2.alloc (.cells #[.pointer none,.slice none 0 0] 232)=w3 at *;generalize w2.heap.size=B at *;refine fs ?_;generalize w3.drew=w4 at *;obtain ⟨c0,c1,c2,c3,c4,c5,c6,c7,c8⟩:=bA.o w4 aJ;have Er:=Zz (fun W=>x_B W count (by omega));have Es:=Zz (fun W=>x_B W epoch (by omega));obtain ⟨HD,IT⟩:∃HD,z_k count++z_k epoch=HD:=⟨_,rfl⟩
 have qH:HD.length=16:=by rw[<-IT,q_b,z_m,z_m]
 have gD:Hid (∀W,Bu W B []->B<=W.heap.size->Cl 137 #[.pointer (some ⟨B,0,none⟩),.string (bs (z_k count)++bs (z_k epoch))] W fun e w'=>e=.returned (.tuple #[.int .i64 16,.nilIface])/\Bu w' B HD/\BuKp B W w'):=Zz fun W h1 h2=>by
  have:=h1.write HD (by rw[qH];decide) h2;rw[z_b,qH] at this;rw[y_f,IT];exact this
 have vP:¬(9223372036854775807<(bs (z_k count)).size+(bs (z_k epoch)).size):=by rw[z_b,z_b,z_m,z_m];decide
 rw[IT] at tF;clear IT;generalize bs (z_k count)=X1 at *;generalize bs (z_k epoch)=X2 at *;refine fp 0 ?_;refine fp 1 ?_;refine f_c 2 c0 ?_;refine fp 4 ?_;refine f_c 5 c1 ?_;refine fd 3 fun K Qx hK=>?_;go_simp;refine (Er.o _).mono ?_;rintro e w5 ⟨rfl,aG⟩;have aY:=Zz (aJ.o.kp aG fun h=>h);have ax:=Zz (ar.o.trans aG);have BH:=Zz (Ep.o.no aG);have o7:Hid (B<=w5.heap.size):=Zz (q_g fJ.o aG.size);refine hK _ _ (oK (aY.o.cell 1) (oK (aY.o.cell 0) oN)) ?_;clear hK K aG c0 c1 c2 c3 c4 c5 c6 c7 c8 aJ ar Ep fJ;refine fd 6 fun K Qx hK=>?_;go_simp;refine (Es.o _).mono ?_;rintro e w6 ⟨rfl,ap⟩;have bk:=Zz (aY.o.kp ap fun h=>h);have aB:=Zz (ax.o.trans ap);have sg:=Zz (BH.o.no ap);have dH:Hid (B<=w6.heap.size):=Zz (q_g o7.o ap.size);refine hK _ _ (oK (bk.o.cell 1) (oK (bk.o.cell 0) oN)) ?_;clear hK K ap aY ax BH o7;refine fp 7 ?_;refine fd 8 fun K Qx hK=>?_;go_simp;refine (gD.o _ sg.o dH.o).mono ?_;rintro e w7 ⟨rfl,RP,aM⟩;have dM:=Zz (bk.o.below aM.1 sf.o).drew;have bC:=Zz (aM.no aB.o jN.o).drew;have Et:Hid (Bu w7.drew B HD):=Zz RP;have io:Hid (B<=w7.drew.heap.size):=Zz (q_g dH.o aM.1.size);refine hK _ _ (oK (dM.o.cell 1) (oK (dM.o.cell 0) oN)) ?_;clear hK K aM RP bk aB sg dH gD vP Er Es;refine fe ?_
 go_upto_region 6 with fail
 refine fs ?_;generalize w7.drew=w8 at *;obtain ⟨c0,c1,c2,c3,c4,c5,c6,c7,c8⟩:=bA.o w8 dM;refine fp 0 ?_;refine f_c 1 c2 ?_;refine fp 2 ?_;refine f_c 3 c3 ?_;refine fp 4 ?_;refine f_c 5 c4 ?_;refine fp 6 ?_;refine f_c 7 c5 ?_;refine fp 8 ?_;refine f_c 9 c6 ?_;refine fp 11 ?_;refine f_c 12 c7 ?_;refine fp 13 ?_;refine fp 15 ?_;refine f_c 16 c7 ?_;refine fd 10 fun K Qx hK=>?_;go_simp;refine (one_false _).mono ?_;rintro e w9 ⟨rfl,rfl⟩;refine hK _ _ (oK c7 (oK c7 (oK c6 (oK c5 (oK c4 (oK c3 (oK c2 oN))))))) ?_;clear hK K;refine fd 14 fun K Qx hK=>?_;go_simp;have fL:=Zz (dM.o.alloc (.cells #[.int .i64 d,.int .i64 s,.int .i64 0,.int .i64 0,.int .i64 0,.int .i64 m] 3));have aT:=Zz (bC.o.alloc (.cells #[.int .i64 d,.int .i64 s,.int .i64 0,.int .i64 0,.int .i64 0,.int .i64 m] 3))
 have tG:=Zz (Et.o.no ((Kp.refl NoB w9).alloc (.cells #[.int .i64 d,.int .i64 s,.int .i64 0,.int .i64 0,.int .i64 0,.int .i64 m] 3)));have cT:Hid (Own (w9.alloc (.cells #[.int .i64 d,.int .i64 s,.int .i64 0,.int .i64 0,.int .i64 0,.int .i64 m] 3)) B 3 (.slice (some ⟨w9.heap.size,0,none⟩) 6 6) [.int .i64 d,.int .i64 s,.int .i64 0,.int .i64 0,.int .i64 0,.int .i64 m]):=Zz (Own.lit_ w9 B 3 #[.int .i64 d,.int .i64 s,.int .i64 0,.int .i64 0,.int .i64 0,.int .i64 m] io.o (by simp[maxLen]));have RQ:=Zz (Blk.new w9 3 #[.int .i64 d,.int .i64 s,.int .i64 0,.int .i64 0,.int .i64 0,.int .i64 m]);have ig:Hid (B<=(w9.alloc (.cells #[.int .i64 d,.int .i64 s,.int .i64 0,.int .i64 0,.int .i64 0,.int .i64 m] 3)).heap.size):=Zz (q_g io.o ((Kp.refl NoB w9).alloc _).size);have mg:=Zz (mz.o _ aT.o);have hQ:=bA.o _ fL;refine hK _ _ (oK hQ.2.2.2.2.2.2.2.1 (oK hQ.2.2.2.2.2.2.2.1 (oK hQ.2.2.2.2.2.2.1 (oK hQ.2.2.2.2.2.1 (oK hQ.2.2.2.2.1 (oK hQ.2.2.2.1 (oK hQ.2.2.1 oN))))))) ?_;clear hK K c0 c1 c2 c3 c4 c5 c6 c7 c8 hQ dM bC Et io;generalize XN:w9.alloc (.cells #[.int .i64 d,.int .i64 s,.int .i64 0,.int .i64 0,.int .i64 0,.int .i64 m] 3)=wA at *;clear XN;generalize w9.heap.size=g6 at *;refine y_L 17 rfl rfl (by kernel_rfl) ?_;refine x_S (ys:=zv SL) rfl underlying57 info3 rfl (by decide) rfl rfl (fun u hu=>by obtain ⟨y,_,rfl⟩:=List.mem_map.1 hu;rfl) cT.o mg.o (by rw[z_w,eP];omega) ig.o (by rw[z_w,eP];show (6+m)*8<=140737488355328;omega) ?_;intro v1 wB ho hg;have aC:Kp (fun q=>q=g6) wA wB:=Kp.of_grown hg fun q h=>(Option.some.inj h);have qm:B<=g6:=(cT.o.lt g6 rfl).1;have iB:=Zz (fL.o.kp aC fun e=>(by have:=sf.o;have e:G=g6:=e;omega:False));have sZ:=Zz (aT.o.then aC fun q hq e=>(by have:=jN.o;have e:q=g6:=e;omega:False));have IU:=Zz (tG.o.kpT aC fun q e=>by have e:q=g6:=e;subst e;exact ⟨3,_,RQ.o,by decide,by decide⟩);have vQ:Hid (B<=wB.heap.size):=Zz (q_g ig.o aC.size);have l8:Hid (Own wB B 3 v1 (zv ([d,s,0,0,0,m]++SL))):=Zz (by rw[show zv ([d,s,0,0,0,m]++SL)=[.int .i64 d,.int .i64 s,.int .i64 0,.int .i64 0,.int .i64 0,.int .i64 m]++zv SL by simp[zv]];exact ho);have hQ:=bA.o _ iB;refine ⟨(oK hQ.2.2.2.2.2.2.2.1 (oK hQ.2.2.2.2.2.2.2.1 (oK hQ.2.2.2.2.2.2.1 (oK hQ.2.2.2.2.2.1 (oK hQ.2.2.2.2.1 (oK hQ.2.2.2.1 (oK hQ.2.2.1 oN))))))),?_⟩;clear ho hg aC qm hQ fL aT tG cT RQ ig mg;refine fp 18 ?_;refine fe ?_;have b9:Hid (∀u∈([.int .i64 n]:List Value),u.oneCell'=true):=Zz (by intro u hu;simp at hu;subst hu;rfl);have RR:=vQ.o
 have Is:=iB.o.c8
 have XO:(zv ([d,s,0,0,0,m]++SL)).length=m+6:=by rw[z_w,q_b,eP];show 6+m=m+6;omega
 obtain ⟨N,RS⟩:∃N,m+7=N:=⟨_,rfl⟩
 have RT:N<200:=by omega
 have ja:0<N:=by omega
 rw[RS] at dD;clear RS
 have bS:Hid (∀v2 wC,World.ownsRow wC B 3 1 v2 ((zv ([d,s,0,0,0,m]++SL)).length+1) (zv ([d,s,0,0,0,m]++SL)++[.int .i64 n])->wB.grownBy wC v1.ownBlock->∃g av,v2=.slice (some ⟨g,0,none⟩) N av/\Own wC B 3 v2 (zv NL)/\Blk wC G 60 #[.int .u64 count,.int .u64 epoch,.int .i64 d,.int .i64 s,.int .i64 0,.int .i64 0,.bool false,.slice (some ⟨sb,so,none⟩) m cs,.slice (some ⟨rb,off,none⟩) n cm]/\Kp NoB w wC/\Bu wC B HD/\B<=wC.heap.size):=Zz fun v2 wC ho hg=>by
  have aC:Kp (fun q=>some q=v1.ownBlock) wB wC:=Kp.of_grown hg fun q h=>h;have m9:∀q,some q=v1.ownBlock->B<=q:=fun q h=>(l8.o.lt q h.symm).1
  have hO:Own wC B 3 v2 (zv NL):=by
   unfold Own;rw[g9.o,HN.o,show zv (([d,s,0,0,0,m]++SL)++[n])=zv ([d,s,0,0,0,m]++SL)++[.int .i64 n] by simp[zv],q_b,q_x];exact ho
  obtain ⟨g,av,h1,_⟩:=hO.form (by rw[z_w,dD.o];omega);refine ⟨g,av,by rw[h1,z_w,dD.o],hO,iB.o.kp aC fun h=>?_,sZ.o.then aC fun q hq h=>?_,IU.o.kpT aC fun q h=>?_,q_g vQ.o aC.size⟩
  ·have:=m9 _ h;have:=sf.o;omega
  ·have:=m9 _ h;have:=jN.o;exact absurd hq (by omega)
  ·obtain ⟨dq,hb⟩:=x_N l8.o h.symm
   exact ⟨3,dq,hb,by decide,by decide⟩
 go_upto_region 8 with (at_builtin;go_loud (refine y_v B rfl (.tmp 42) (.tmp 46) 57 3 (.int .i64 0) 1 8 rfl underlying57 info3 rfl (by decide) (by decide) v1 _ _ [.int .i64 n] rfl rfl rfl b9.o l8.o RR (by omega) ?_;intro v2 wC Eu o9 _;obtain ⟨g,av,qI,RU,RV,X3,X4,X5⟩:=bS.o v2 wC Eu o9;subst qI;clear Eu o9))
 have vj:=Zz RU;have IV:=Zz RV;have sa:=Zz X3;have RW:Hid (Bu wC B (HD++(NL.take 0).flatMap z_k)):=Zz (by rw[List.take_zero,List.flatMap_nil,List.append_nil];exact X4);have fK:=Zz X5;clear RU RV X3 X4 X5 Is RR iB sZ IU vQ l8 bS XO;have M8:Hid (∀i (h:i<NL.length),NL.getD i 0=NL[i]'h/\NL[i]'h<=1000):=Zz fun i h=>⟨by simp[q_a,h],rO.o _ (q_B h)⟩
 go_loopw [8,49] (fun _ s49 wr=>∃i:Nat,i<=N/\s49=.int .i64 i/\Hid (Own wr B 3 (.slice (some ⟨g,0,none⟩) N av) (zv NL))/\Hid (Blk wr G 60 #[.int .u64 count,.int .u64 epoch,.int .i64 d,.int .i64 s,.int .i64 0,.int .i64 0,.bool false,.slice (some ⟨sb,so,none⟩) m cs,.slice (some ⟨rb,off,none⟩) n cm])/\Hid (Kp NoB w wr)/\Hid (Bu wr B (HD++(NL.take i).flatMap z_k))/\Hid (B<=wr.heap.size)) (fun _ s49 _=>N-(intOf s49).toNat)
 case atStart=>exact ⟨0,by omega,rfl,vj,IV,sa,RW,fK⟩
 case round =>
  clear vj IV sa RW fK;obtain ⟨i,hi,rfl,HOr,dF,bw,vR,ip⟩:=hrel;by_cases af:i<N
  ·have bV:(i:Int)<(N:Int):=by omega
   have bt:i<NL.length:=by rw[dD.o];exact af
   have hNB:=qG.o (i+1)
   have k0:wr.cell? ⟨g,i,none⟩=some (.int .i64 (NL.getD i 0:Nat)):=by
    have kZ:Own wr B 3 (.slice (some ⟨g,0,none⟩) (zv NL).length av) (zv NL):=by rw[z_w,dD.o];exact HOr.o
    rw[kZ.cell i (by rw[z_w];exact bt),zv_at NL i bt]
   obtain ⟨y1,y2⟩:=M8.o i bt;have l9:=flat_take z_k NL i bt;rw[<-y1] at l9 y2;generalize NL.getD i 0=x at *
   have Rj:IntKind.u64.wrap (x:Int)=(x:Int):=by rw[q_s];omega
   have od:=Zz (fun W=>x_B W x (by omega))
   have jB:(HD++(NL.take i).flatMap z_k).length+(z_k x).length<=1000000:=by
    rw[q_b,z_m,qH];have h1:=w_a z_k 8 (NL.take i) (fun y _=>by rw[z_m];exact q_e _);have h2:=qG.o i;omega
   have M9:Hid (∀W,Bu W B (HD++(NL.take i).flatMap z_k)->B<=W.heap.size->Cl 137 #[.pointer (some ⟨B,0,none⟩),.string (bs (z_k x))] W fun e w'=>e=.returned (.tuple #[.int .i64 (bs (z_k x)).size,.nilIface])/\Bu w' B (HD++(NL.take (i+1)).flatMap z_k)/\BuKp B W w'):=Zz fun W h1 h2=>by
    have:=h1.write (z_k x) jB h2
    rwa [List.append_assoc,<-l9] at this
   clear jB l9 y1;generalize bs (z_k x)=X at *;go_wp2_with fail;refine (od.o _).mono ?_;rintro e wa ⟨rfl,aE⟩;have yL:=Zz (HOr.o.kp aE fun _ _ h=>h);have RX:=Zz (dF.o.kp aE fun h=>h);have IW:=Zz (bw.o.trans aE);have Ev:=Zz (vR.o.no aE);have Ew:Hid (B<=wa.heap.size):=Zz (q_g ip.o aE.size);clear aE HOr dF bw vR ip k0;go_wp2_with fail;refine (M9.o _ Ev.o Ew.o).mono ?_;rintro e wb ⟨rfl,RY,je⟩
   have Eh:=Zz (je.own yL.o (by decide) (fun hq=>by
    obtain ⟨dq,hb⟩:=Ev.o.blk
    exact z_s yL.o hb (by decide) hq))
   have XP:=Zz (RX.o.below je.1 sf.o);have IX:=Zz (je.no IW.o jN.o);have XQ:=Zz RY;have XR:Hid (B<=wb.heap.size):=Zz (q_g Ew.o je.1.size);clear je RY yL RX IW Ev Ew;go_wp2;go_roundw
   case rel=>exact ⟨i+1,by omega,by go_num,Eh,XP,IX,XQ,XR⟩
   case measure=>simp[intOf];omega
  ·obtain rfl:i=N:=by omega
   have RZ:Hid (Bu wr B ((HD++NL.flatMap z_k)++(mem.take 0).flatMap y_J)):=Zz (by
    rw[List.take_zero,List.flatMap_nil,List.append_nil];have:=vR.o
    rwa [q_t (by rw[dD.o];exact q_e _)] at this)
   have hHL:(HD++NL.flatMap z_k).length<=2000:=by
    rw[q_b,qH];have h1:=w_a z_k 8 NL (fun y _=>by rw[z_m];exact q_e _);have h2:=dD.o;omega
   have XS:Hid (16<=(HD++NL.flatMap z_k).length):=Zz (by rw[q_b,qH];omega);generalize HD++NL.flatMap z_k=HE at *;have c8:=dF.o.c8;clear vR HOr
   go_upto_region 13 with fail
   clear c8
   have Ex:OUT=HE++mem.flatMap y_J:=by rw[tF.o]
   have Ey:=Zz Ex;clear Ex
   go_loopw [10,62] (fun _ s62 wr=>∃j:Nat,j<=n/\s62=.int .i64 j/\Hid (Kp NoB w wr)/\Hid (Bu wr B (HE++(mem.take j).flatMap y_J))/\Hid (B<=wr.heap.size)) (fun _ s62 _=>n-(intOf s62).toNat)
   case atStart=>exact ⟨0,by omega,rfl,bw,RZ,ip⟩
   case round =>
    clear bw RZ ip dF;obtain ⟨j,hj,rfl,bw,vR,ip⟩:=hrel;by_cases yg:j<n
    ·have DW:(j:Int)<(n:Int):=by omega
     have cF:j<mem.length:=by rw[HN.o];exact yg
     obtain ⟨rY,gz,fm,aa⟩:=gB.o wr bw.o;cases fm;obtain ⟨k0,k1,k2⟩:=aa j cF;obtain ⟨z1,z2,_,_⟩:=b6.o j cF;have s2:=aR.o j cF;have l9:=flat_take y_J mem j cF;have me:=v_p z1 z2
     have jB:(HE++(mem.take j).flatMap y_J).length+(y_J (mem[j]'cF)).length<=1000000:=by
      rw[q_b,me]
      have h1:=w_a y_J 88 (mem.take j) (fun y hy=>by
       obtain ⟨q,hq,rfl⟩:=List.getElem_of_mem (List.mem_of_mem_take hy)
       rw[v_p (b6.o q hq).1 (b6.o q hq).2.1];exact q_e _)
      rw[q_l] at h1;have:min j mem.length*88<=12*88:=Nat.mul_le_mul_right _ (by omega);omega
     have JU:y_J (mem[j]'cF)=z_k (mem[j]'cF).st++z_v (mem[j]'cF).top.data.toList++z_v (mem[j]'cF).log.data.toList:=rfl;clear aa me;rw[JU] at l9 jB;generalize (mem[j]'cF).st=st at *;generalize (mem[j]'cF).top=tp at *;generalize (mem[j]'cF).log=lg at *;clear JU
     have Rj:IntKind.u64.wrap (st:Int)=(st:Int):=by rw[q_s];omega
     have g9:=Zz (fun W=>x_B W st (by omega));have rV:=Zz (fun W=>v_O W tp (by omega));have vS:=Zz (fun W=>v_O W lg (by omega))
     have vP:¬(9223372036854775807<(bs (z_k st)).size+(bs (z_v tp.data.toList)).size):=by
      rw[z_b,z_b];unfold z_v;rw[q_b,z_m,z_m,z_n];omega
     have R7:¬(9223372036854775807<(bs (z_k st)++bs (z_v tp.data.toList)).size+(bs (z_v lg.data.toList)).size):=by
      rw[y_f,z_b,z_b];unfold z_v;rw[q_b,q_b,q_b,z_m,z_m,z_m,z_n,z_n];omega
     have R8:¬(9223372036854775807<(bs (z_k st)).size+(bs (z_v tp.data.toList)).size+(bs (z_v lg.data.toList)).size):=by
      rw[z_b,z_b,z_b];unfold z_v;rw[q_b,q_b,z_m,z_m,z_m,z_n,z_n];omega
     have M9:Hid (∀W,Bu W B (HE++(mem.take j).flatMap y_J)->B<=W.heap.size->Cl 137 #[.pointer (some ⟨B,0,none⟩),.string (bs (z_k st)++bs (z_v tp.data.toList)++bs (z_v lg.data.toList))] W fun e w'=>(∃z,e=.returned (.tuple #[.int .i64 z,.nilIface]))/\Bu w' B (HE++(mem.take (j+1)).flatMap y_J)/\BuKp B W w'):=Zz fun W h1 h2=>by
      have:=h1.write (z_k st++z_v tp.data.toList++z_v lg.data.toList) jB h2;rw[List.append_assoc HE,<-l9] at this;rw[y_f,y_f];refine this.mono ?_;rintro e w' ⟨rfl,h⟩;exact ⟨⟨_,rfl⟩,h⟩
     clear jB l9;generalize bs (z_k st)=X at *;generalize bs (z_v tp.data.toList)=Y at *;generalize bs (z_v lg.data.toList)=Z at *;have cN:=Zz (Blk.new wr 108 #[.int .i64 st,.string tp,.string lg]).drew;have bn:=Zz (bw.o.alloc (.cells #[.int .i64 st,.string tp,.string lg] 108)).drew;have R9:Hid (Bu (wr.alloc (.cells #[.int .i64 st,.string tp,.string lg] 108)).drew B (HE++(mem.take j).flatMap y_J)):=Zz (vR.o.no ((Kp.refl NoB wr).alloc _).drew);have gZ:Hid (B<=(wr.alloc (.cells #[.int .i64 st,.string tp,.string lg] 108)).drew.heap.size):=Zz (q_g ip.o ((Kp.refl NoB wr).alloc (.cells #[.int .i64 st,.string tp,.string lg] 108)).size)
     go_upto_region 15 with fail
     clear k0 k1 k2 bw vR ip;generalize wr.alloc (.cells #[.int .i64 st,.string tp,.string lg] 108)=w5 at *;generalize wr.heap.size=D at *;refine fs ?_;generalize w5.drew=w6 at *;have e0:=cN.o.c0;have e1:=cN.o.c1;have e2:=cN.o.c2;refine fp 0 ?_;refine fp 1 ?_;refine f_c 2 e0 ?_;refine fp 3 ?_;refine fp 5 ?_;refine f_c 6 e1 ?_;refine fp 9 ?_;refine f_c 10 e2 ?_;refine fd 4 fun K Qx hK=>?_;go_simp;refine (g9.o _).mono ?_;rintro e w7 ⟨rfl,aM⟩;have dM:=Zz (cN.o.kp aM fun h=>h);have bC:=Zz (bn.o.trans aM);have Et:=Zz (R9.o.no aM);have io:Hid (B<=w7.heap.size):=Zz (q_g gZ.o aM.size);refine hK _ _ (oK (dM.o.cell 2) (oK (dM.o.cell 1) (oK (dM.o.cell 0) oN))) ?_;clear hK K aM e0 e1 e2 cN bn R9 gZ;refine fd 7 fun K Qx hK=>?_;go_simp;refine (rV.o _).mono ?_;rintro e w8 ⟨rfl,aL⟩;have ef:=Zz (dM.o.kp aL fun h=>h);have bq:=Zz (bC.o.trans aL);have Ez:=Zz (Et.o.no aL);have mH:Hid (B<=w8.heap.size):=Zz (q_g io.o aL.size);refine hK _ _ (oK (ef.o.cell 2) (oK (ef.o.cell 1) (oK (ef.o.cell 0) oN))) ?_;clear hK K aL dM bC Et io;refine fp 8 ?_;refine fd 11 fun K Qx hK=>?_;go_simp;refine (vS.o _).mono ?_;rintro e w9 ⟨rfl,bL⟩;have fL:=Zz (ef.o.kp bL fun h=>h);have aT:=Zz (bq.o.trans bL);have tG:=Zz (Ez.o.no bL);have ig:Hid (B<=w9.heap.size):=Zz (q_g mH.o bL.size);refine hK _ _ (oK (fL.o.cell 2) (oK (fL.o.cell 1) (oK (fL.o.cell 0) oN))) ?_
     clear hK K bL ef bq Ez mH;refine fp 12 ?_;refine fd 13 fun K Qx hK=>?_;go_simp;refine (M9.o _ tG.o ig.o).mono ?_;rintro e wa ⟨⟨z,rfl⟩,Sa,aE⟩
     have IY:Blk wa D 108 #[.int .i64 st,.string tp,.string lg]:=aE.blk fL.o (by decide) (fun e=>by
      obtain ⟨dq,hb⟩:=tG.o.blk;rw[e] at fL
      exact absurd rfl (Blk.ne_ fL.o hb (by decide)))
     have IW:=Zz (aE.no aT.o jN.o);have Ev:=Zz Sa;have Ew:Hid (B<=wa.heap.size):=Zz (q_g ig.o aE.1.size);refine hK _ _ (oK (IY.cell 2) (oK (IY.cell 1) (oK (IY.cell 0) oN))) ?_;clear hK K aE Sa IY fL aT tG ig;refine fe ?_;go_wp2;go_roundw
     case rel=>exact ⟨j+1,by omega,by go_num,IW,Ev,Ew⟩
     case measure=>simp[intOf];omega
    ·obtain rfl:j=n:=by omega
     have XT:Hid (Bu wr B OUT):=Zz (by
      have:=vR.o
      rwa [q_t (by rw[HN.o];exact q_e _),<-Ey.o] at this)
     have aA:OUT≠[]:=by
      intro e;have:=congrArg List.length Ey.o;rw[e,q_b] at this;have h2:=XS.o;simp at this;omega
     have Na:=Zz (XT.o.str aA);go_wp2_with fail;refine Na.o.mono ?_;rintro e wz ⟨rfl,hb⟩;have hz:Kp NoB w wz:=⟨hb.os.trans bw.o.os,hb.tape.trans bw.o.tape,hb.output.trans bw.o.output,q_g bw.o.size hb.size,fun q hq hs=>(hb.block q (by have:=jN.o;omega)).trans (bw.o.block q hq hs)⟩;go_wp2;go_ret2;exact ⟨rfl,hz⟩
end
section
variable {P:Program} {ah:Array Oper} {rest:List Oper} {o:Oper} {a:Act} {Q:Exit->Act->World->Prop}
theorem append_rows {W:World} (base:Nat) (rI:o.guard=none) (s x:Operand) (t e:TypeId) (z:Value) (size bytes:Nat)
  (ho:o.op=.call { callee:=.builtin .append,args:=#[s,x],argTypes:=#[t,t] })
  (ht:P.underlying t=some (.slice e)) (b5:(P.info? e).map (fun i=>(i.zero,i.size,i.bytes))=some (some z,size,bytes)) (hz:z.cells.size=size) (aj:0<size) (iy:0<bytes)
  (v:Value) (k m:Nat) (xs ys:List Value) (y:Value) (hs:a.eval s=v) (hx:a.eval x=y) (hy:z_Q W y size m ys) (hm:0<m) (h1:∀u∈ys,u.oneCell'=true)
  (HO:W.ownsRow base e size v k xs) (aP:base<=W.heap.size) (hl:(k+m)*bytes<=140737488355328)
  (h:∀v1 w1,w1.ownsRow base e size v1 (k+m) (xs++ys)->W.grownBy w1 v.ownBlock->wpList P ah Q rest (a.put o.dst v1) w1) :
  wpList P ah Q (o::rest) a W:=by
 obtain ⟨i0,hi,dB,dv,cX⟩:=info_parts b5;have aq:k+m<=140737488355328:=q_g (Nat.le_mul_of_pos_right _ iy) hl;obtain ⟨A,c,rfl,_,_,IZ,aa⟩:=hy;obtain ⟨b,off,rfl,ae⟩:=aa hm;refine wpList_append_own_at W rI s x t ho base e i0 z size bytes ht hi dB dv cX hz aj v k xs hs HO ⟨b,off,none⟩ m c ys hx IZ ?_ h1 (by simp only[maxLen];omega) hl aP ?_
 ·intro j u hu
  have hj:j<ys.length:=(q_J.1 hu).1;rw[y_M,ae j (by omega),hu]
 ·intro v1 w1 bD hg _ _
  exact h v1 w1 bD hg
end
theorem infoME:(prog.info? 108).map (fun i=>(i.zero,i.size,i.bytes))=some (some (.agg #[.int .i64 0,.string ⟨#[]⟩,.string ⟨#[]⟩]),3,40):=by kernel_rfl
theorem memC_one (l:List Mem):∀u∈z_x l,u.oneCell'=true:=by
 intro u hu;obtain ⟨x,_,hx⟩:=List.mem_flatMap.1 hu;simp at hx;rcases hx with rfl|rfl|rfl<;>rfl
theorem zv_one (L:List Nat):∀u∈zv L,u.oneCell'=true:=by
 intro u hu;obtain ⟨x,_,rfl⟩:=List.mem_map.1 hu;rfl
theorem cloneI_any (w:World) (v:Value) (L:List Nat) (hv:z_g w v (zv L)) (h0:0<L.length) (hl:L.length<=1000) :
  Cl 83 #[v] w fun e w'=>∃u,e=.returned u/\Own w' w.heap.size 3 u (zv L)/\Kp NoB w w':=by
 obtain ⟨A,c,rfl,aK,bf,aa⟩:=id hv;rw[z_w] at aK aa hv ⊢;obtain ⟨b,off,rfl,_⟩:=aa h0;have uU:=fun W:World=>Lib.run_eql_slice_nil (P:=prog) W 57 3 (some ⟨b,off,none⟩) L.length c 0 0 underlying57;simp only[Option.isNone_some] at uU;have HV:=Zz hv;have bP:=Zz (zv_one L);have XU:=Zz (z_w L);clear aa hv;generalize L.length=n at *;have HO:=Zz (Own.lit_ w w.heap.size 3 #[] (q_e _) (by simp));go_enter func83,ntmps83
 go_wp2_with (at_builtin;refine y_t w.heap.size rfl (.tmp 5) (.tmp 6) 57 3 (.int .i64 0) 8 rfl underlying57 info3 rfl (by decide) _ [] _ (zv L) rfl rfl (HV.o.alloc _) bP.o HO.o ((Below.refl _ _).alloc (q_e _) _) (by simp) (by rw[XU.o];show (0+n)*8<=_;omega) ?_;intro v1 w1 iT bT _ _)
 go_ret;exact ⟨_,rfl,iT,Kp.of_below bT _⟩
theorem cloneM_any (w:World) (v:Value) (L:List Mem) (hv:z_Q w v 3 L.length (z_x L)) (h0:0<L.length) (hl:L.length<=1000) :
  Cl 84 #[v] w fun e w'=>∃u,e=.returned u/\w'.ownsRow w.heap.size 108 3 u L.length (z_x L)/\Kp NoB w w':=by
 obtain ⟨A,c,rfl,aK,bf,D4,aa⟩:=id hv;obtain ⟨b,off,rfl,_⟩:=aa h0;have uU:=fun W:World=>Lib.run_eql_slice_nil (P:=prog) W 58 108 (some ⟨b,off,none⟩) L.length c 0 0 underlying58;simp only[Option.isNone_some] at uU;have HV:=Zz hv;have bP:=Zz (memC_one L);clear aa hv D4;generalize L.length=n at *
 have HO:Hid ((w.alloc (.cells #[] 108)).ownsRow w.heap.size 108 3 (.slice (some ⟨w.heap.size,0,none⟩) 0 0) 0 []):=Zz (by
  have:=World.ownsRow_lit (base:=w.heap.size) (e:=108) (size:=3) w #[] 0 (q_e _) (by simp[maxLen]) (by simp)
  simpa using this)
 go_enter func84,ntmps84
 go_wp2_with (at_builtin;go_loud (refine append_rows w.heap.size rfl (.tmp 5) (.tmp 6) 58 108 (.agg #[.int .i64 0,.string ⟨#[]⟩,.string ⟨#[]⟩]) 3 40 rfl underlying58 infoME rfl (by decide) (by decide) _ 0 n [] (z_x L) _ rfl rfl (HV.o.no ((Kp.refl NoB w).alloc _)) h0 bP.o HO.o (by simp) (by omega) ?_;intro v1 w1 iT bu))
 have hk:Kp NoB w w1:=((Kp.refl NoB w).alloc (.cells #[] 108)).then (Kp.of_grown bu (S:=fun q=>q=w.heap.size) fun q h=>Option.some.inj h) fun q hq e=>(by have e:q=w.heap.size:=e;omega:False);rw[q_D,List.nil_append] at iT;go_ret;exact ⟨_,rfl,iT,hk⟩
theorem w_s {w:World} {b b' e size k:Nat} {v:Value} {xs:List Value} (h:w.ownsRow b e size v k xs) (hb:b'<=b):w.ownsRow b' e size v k xs:=by
 refine ⟨h.1,?_⟩;rcases h.2 with hn|⟨g,av,aQ,rfl,hg,rest⟩
 ·exact .inl hn
 ·exact .inr ⟨g,av,aQ,rfl,q_g hb hg,rest⟩
section
variable {w:World} {S:Sup} {vs vm:Value}
structure SupO (w:World) (base:Nat) (S:Sup) (vs vm:Value):Prop where
 seats:Own w base 3 vs (zv (y_H S))
 mems:w.ownsRow base 108 3 vm S.mem.length (z_x S.mem)
theorem SupO.reads {base:Nat} (h:SupO w base S vs vm):y_P w S vs vm:=⟨h.seats.reads,y_x h.mems⟩
theorem SupO.no {w':World} {base:Nat} (h:SupO w base S vs vm) (k:Kp NoB w w'):SupO w' base S vs vm:=⟨h.seats.kp k fun _ _ h=>h,z_e h.mems k fun _ _ h=>h⟩
theorem SupO.kp {F:Nat->Prop} {w':World} {base:Nat} (h:SupO w base S vs vm) (k:Kp F w w') (h1:∀q,vs.ownBlock=some q->¬F q) (h2:∀q,vm.ownBlock=some q->¬F q):SupO w' base S vs vm:=⟨h.seats.kp k h1,z_e h.mems k h2⟩
theorem scopy_any (hd:S.data<=100) (hn:0<S.mem.length) (kM:S.mem.length<=100) (h:y_P w S vs vm) :
  Cl 47 #[.agg (z_N S vs vm)] w fun e w'=>∃bU ct,e=.returned (.agg (z_N S bU ct))/\SupO w' w.heap.size S bU ct/\Kp NoB w w':=by
 have tA:=Zz (fun W (k:Kp NoB w W)=>cloneI_any W vs (y_H S) ((h.no k).1) (by rw[y_H,q_H];omega) (by rw[y_H,q_H];omega));have XV:=Zz (fun W (k:Kp NoB w W)=>cloneM_any W vm S.mem ((h.no k).2) hn (by omega));obtain ⟨As,cs,Am,cm,cQ,cq⟩:=h.shape;subst cQ cq;have bS:Hid (∀(W:World) (bU ct:Value) (b1 b2:Nat),w.heap.size<=b1->w.heap.size<=b2->Own W b1 3 bU (zv (y_H S))->W.ownsRow b2 108 3 ct S.mem.length (z_x S.mem)->SupO W w.heap.size S bU ct):=Zz fun W bU ct b1 b2 h1 h2 h3 h4=>⟨w_s h3 h1,w_s h4 h2⟩;have mG:Hid (∀bU ct,z_N S bU ct=#[.int .u64 S.count,.int .u64 S.epoch,.int .i64 S.data,.int .i64 S.slots,.int .i64 0,.int .i64 0,.bool false,bU,ct]):=Zz fun _ _=>rfl;rw[mG.o]
 have EA:Hid (∀(W:World) bU b1,Own W b1 3 bU (zv (y_H S))->∃A c,bU=.slice A (S.data+2) c):=Zz fun W bU b1 h=>by
  obtain ⟨A,c,e⟩:=z_r h;exact ⟨A,c,by rw[e,z_w,y_H,q_H]⟩
 generalize y_H S=SL at *;generalize z_x S.mem=MC at *;generalize S.mem.length=n at *;generalize z_N S=SC at *;generalize S.count=count at *;generalize S.epoch=epoch at *;generalize S.data=d at *;generalize S.slots=s at *;obtain ⟨m,hm⟩:∃m,d+2=m:=⟨_,rfl⟩;rw[hm] at EA tA ⊢;clear h hm;have HB:=Zz ((Blk.new w 60 #[.int .u64 count,.int .u64 epoch,.int .i64 d,.int .i64 s,.int .i64 0,.int .i64 0,.bool false,.slice As m cs,.slice Am n cm]).alloc (.cells #[.int .u64 0,.int .u64 0,.int .i64 0,.int .i64 0,.int .i64 0,.int .i64 0,.bool false,.slice none 0 0,.slice none 0 0] 60)).drew;have HZ:=Zz (Blk.new (w.alloc (.cells #[.int .u64 count,.int .u64 epoch,.int .i64 d,.int .i64 s,.int .i64 0,.int .i64 0,.bool false,.slice As m cs,.slice Am n cm] 60)) 60 #[.int .u64 0,.int .u64 0,.int .i64 0,.int .i64 0,.int .i64 0,.int .i64 0,.bool false,.slice none 0 0,.slice none 0 0]).drew;have HK:=Zz (((Kp.refl NoB w).alloc (.cells #[.int .u64 count,.int .u64 epoch,.int .i64 d,.int .i64 s,.int .i64 0,.int .i64 0,.bool false,.slice As m cs,.slice Am n cm] 60)).alloc (.cells #[.int .u64 0,.int .u64 0,.int .i64 0,.int .i64 0,.int .i64 0,.int .i64 0,.bool false,.slice none 0 0,.slice none 0 0] 60)).drew;have HG:Hid ((w.alloc (.cells #[.int .u64 count,.int .u64 epoch,.int .i64 d,.int .i64 s,.int .i64 0,.int .i64 0,.bool false,.slice As m cs,.slice Am n cm] 60)).heap.size=w.heap.size+1):=Zz (by simp);have hwu:w.heap.size<=w.heap.size:=q_e _;go_enter func47,ntmps47
 go_upto_region 1 with fail
 have cC:=HG.o;generalize (w.alloc (.cells #[.int .u64 count,.int .u64 epoch,.int .i64 d,.int .i64 s,.int .i64 0,.int .i64 0,.bool false,.slice As m cs,.slice Am n cm] 60)).heap.size=G1 at *;generalize (w.alloc (.cells #[.int .u64 count,.int .u64 epoch,.int .i64 d,.int .i64 s,.int .i64 0,.int .i64 0,.bool false,.slice As m cs,.slice Am n cm] 60)).alloc (.cells #[.int .u64 0,.int .u64 0,.int .i64 0,.int .i64 0,.int .i64 0,.int .i64 0,.bool false,.slice none 0 0,.slice none 0 0] 60)=w1 at *;generalize hGe:w.heap.size=G at *;subst cC;refine fs ?_;generalize w1.drew=w2 at *;have c7:=HB.o.c7;have c8:=HB.o.c8;refine fp 0 ?_;refine f_c 1 c7 ?_;refine fp 3 ?_;refine f_c 4 c8 ?_;refine fd 2 fun K Qx hK=>?_;go_simp;refine (tA.o _ HK.o).mono ?_;rintro e w3 ⟨v3,rfl,o5,au⟩;have aJ:=Zz (HB.o.kp au fun h=>h);have ot:=Zz (HZ.o.kp au fun h=>h);have ar:=Zz (HK.o.trans au);have iG:=Zz o5;have fh:Hid (G+2<=w2.heap.size):=Zz (by have:=HZ.o.lt;omega);obtain ⟨A3,k3,rfl⟩:=EA.o _ _ _ o5;refine hK _ _ (oK (aJ.o.cell 8) (oK (aJ.o.cell 7) oN)) ?_;clear hK K c7 c8 au o5 HB HZ HK;refine fp 6 ?_;refine fd 5 fun K Qx hK=>?_;go_simp;refine (XV.o _ ar.o).mono ?_;rintro e w4 ⟨v4,rfl,BI,aw⟩;have bR:=Zz (aJ.o.kp aw fun h=>h);have BJ:=Zz (ot.o.kp aw fun h=>h);have az:=Zz (ar.o.trans aw);have yR:=Zz (iG.o.kp aw fun _ _ h=>h);have qi:=Zz BI;have fJ:Hid (G+2<=w3.heap.size):=Zz (by have:=ot.o.lt;omega);obtain ⟨A4,k4,rfl⟩:=z_r BI;refine hK _ _ (oK (bR.o.cell 8) (oK (bR.o.cell 7) oN)) ?_;clear hK K aw BI aJ ot ar iG;have c7:=bR.o.c7;have f7:=bR.o.frozen 7;refine fd 7 fun K Qx hK=>?_;go_simp;have ey:=bR.o.set_ 7 (.slice A3 m k3);refine hK _ _ (oK (ey.cell 8) (oW oN)) ?_;clear hK K;have c8:(w4.setCell ⟨G,7,none⟩ (.slice A3 m k3)).cell? ⟨G,8,none⟩=some (.slice Am n cm):=ey.cell 8;have f8:=ey.frozen 8
 clear c7 f7;generalize fY:w4.setCell ⟨G,7,none⟩ (.slice A3 m k3)=w5 at *;refine fp 8 ?_;refine fd 9 fun K Qx hK=>?_;go_simp;refine hK _ _ (oW (oW oN)) ?_;clear hK K;refine fe ?_
 have ap:Kp (fun q=>q=G) w4 (w5.setCell ⟨G,8,none⟩ (.slice A4 n k4)):=by
  rw[<-fY];exact ((Kp.refl (fun q=>q=G) w4).setCell ⟨G,7,none⟩ _ (.inl rfl)).setCell ⟨G,8,none⟩ _ (.inl rfl)
 have bk:Hid (Blk (w5.setCell ⟨G,8,none⟩ (.slice A4 n k4)) G 60 #[.int .u64 count,.int .u64 epoch,.int .i64 d,.int .i64 s,.int .i64 0,.int .i64 0,.bool false,.slice A3 m k3,.slice A4 n k4]):=Zz (ey.set_ 8 (.slice A4 n k4));have tH:=Zz (BJ.o.kp ap fun e=>(by have e:G+1=G:=e;omega:False));have aB:=Zz (az.o.then ap fun q hq e=>(by have e:q=G:=e;omega:False));have EB:=Zz (yR.o.kp ap fun q hq e=>(by have h1:=(yR.o.lt q hq).1;have h2:=fh.o;have e:q=G:=e;omega:False));have EC:=Zz (z_e qi.o ap fun q hq e=>(by have h1:=(z_u qi.o hq).1;have h2:=fJ.o;have e:q=G:=e;omega:False));clear ap ey c8 f8 bR BJ az yR qi fY;generalize w5.setCell ⟨G,8,none⟩ (.slice A4 n k4)=w6 at *;have c0:=bk.o.c0;have c1:=bk.o.c1;have c2:=bk.o.c2;have c3:=bk.o.c3;have c4:=bk.o.c4;have c5:=bk.o.c5;have c6:=bk.o.c6;have c7:=bk.o.c7;have c8:=bk.o.c8
 have jC:(prog.info? 60).map (·.size)=some 9:=by kernel_rfl
 have aD:(#[.int .u64 count,.int .u64 epoch,.int .i64 d,.int .i64 s,.int .i64 0,.int .i64 0,.bool false,.slice A3 m k3,.slice A4 n k4]:Array Value).all (·.oneCell')=true:=by simp[Value.oneCell']
 go_wp2_with (refine wpList_store_row rfl 60 (.tmp 2) (.tmp 11) rfl (G+1) _ rfl rfl 60 _ tH.o jC rfl aD ?_)
 have yS:=tH.o.setRow (cs':=#[.int .u64 count,.int .u64 epoch,.int .i64 d,.int .i64 s,.int .i64 0,.int .i64 0,.bool false,.slice A3 m k3,.slice A4 n k4]);have aM:Kp (fun q=>q=G+1) w6 (w6.setRow (G+1) #[.int .u64 count,.int .u64 epoch,.int .i64 d,.int .i64 s,.int .i64 0,.int .i64 0,.bool false,.slice A3 m k3,.slice A4 n k4]):=(Kp.refl _ w6).setRow (G+1) _ (.inl rfl);refine bodyPost_ret (x_f rfl rfl yS underlying60 rfl jC) rfl ?_;exact ⟨_,_,by rw[mG.o],bS.o _ _ _ _ _ (by have:=fh.o;omega) (by have:=fJ.o;omega) (EB.o.kp aM fun q hq e=>(by have h1:=(EB.o.lt q hq).1;have h2:=fh.o;have e:q=G+1:=e;omega:False)) (z_e EC.o aM fun q hq e=>(by have h1:=(z_u EC.o hq).1;have h2:=fJ.o;have e:q=G+1:=e;omega:False)),aB.o.then aM fun q hq e=>(by have e:q=G+1:=e;omega:False)⟩
end
section
variable {P:Program} {ρ:Operand->Value} {w:World} {o:Oper}
theorem v_b {s x:Operand} {t e:TypeId} {z:Value} {size bytes base k m:Nat} {y v:Value} {xs ys:List Value} {R:Value->World->Prop} (h:o.op=.call { callee:=.builtin .append,args:=#[s,x],argTypes:=#[t,t] })
  (ht:P.underlying t=some (.slice e)) (b5:(P.info? e).map (fun i=>(i.zero,i.size,i.bytes))=some (some z,size,bytes)) (hz:z.cells.size=size) (aj:0<size) (iy:0<bytes)
  (hs:ρ s=v) (hx:ρ x=y) (h1:∀u∈ys,u.oneCell'=true) (HO:w.ownsRow base e size v k xs) (hy:z_Q w y size m ys) (hm:0<m) (aP:base<=w.heap.size) (hl:(k+m)*bytes<=140737488355328)
  (hR:∀v1 w1,w1.ownsRow base e size v1 (k+m) (xs++ys)->w.grownBy w1 v.ownBlock->R v1 w1):∃v1 w1,(execOp ρ o).run P w=.ok (.value v1) w1/\R v1 w1:=by
 obtain ⟨i0,hi,dB,dv,cX⟩:=info_parts b5;have aq:k+m<=140737488355328:=q_g (Nat.le_mul_of_pos_right _ iy) hl;obtain ⟨A,c,rfl,_,_,IZ,aa⟩:=hy;obtain ⟨b,off,rfl,ae⟩:=aa hm
 obtain ⟨v1,w1,nf,h2,hg,_⟩:=run_append_own_at (P:=P) w base t o.type e i0 z size bytes ht hi dB dv cX hz aj v k xs HO ⟨b,off,none⟩ m c ys IZ
  (fun j u hu=>by
   have hj:j<ys.length:=(q_J.1 hu).1
   rw[y_M,ae j (by omega),hu]) h1 (by simp only[maxLen];omega) hl aP
 refine ⟨v1,w1,?_,hR v1 w1 h2 hg⟩;unfold execOp;simp only[h,resolve,invoke,builtin,Sem.run_bind,Sem.run_pure,Result.andThen_ok,List.map_toArray,List.map_cons,List.map_nil,hs,hx,nf]
end
theorem v_c (w:World) (e size:Nat) (ys:List Value) (hl:ys.length=size) (hs:0<size):z_Q (w.alloc (.cells ys.toArray e)) (.slice (some ⟨w.heap.size,0,none⟩) 1 1) size 1 ys:=by
 refine ⟨_,_,rfl,by omega,by omega,by omega,fun _=>⟨_,0,rfl,fun j hj=>?_⟩⟩;rw[q_D,(Blk.new w e ys.toArray).cell];simp
theorem z_i {w:World} {base e size k:Nat} {v:Value} {xs:List Value} (h:w.ownsRow base e size v k xs) {q:Nat} (hq:v.ownBlock=some q):∃cs,Blk w q e cs:=by
 rcases h.2 with ⟨rfl,-⟩|⟨g,av,aQ,rfl,_,hb,_⟩
 ·cases hq
 ·have:g=q:=by simpa[Value.ownBlock] using hq
  subst this;exact ⟨aQ,hb⟩
end Go.Proofs.YtdkheklakfbeeaaGreatDoor
