/- Part 22 of the proof. -/
import Derived.Test.YtdkheklakfbeeaaGreatDoorM21
set_option linter.all false
set_option maxRecDepth 100000
set_option maxHeartbeats 16000000
namespace Go.Proofs.YtdkheklakfbeeaaGreatDoor
open Go.RowKit Tryz
def tyB (t:Nat):Prop:=t=119\/t=76\/t=136\/t=9\/t=242
section
variable {w:World} {b n:Nat} {σ:Nat->DkS} {F:Nat->Prop}
theorem Bk.ty (h:Bk w b n σ F) {q:Nat} (hq:F q):∃t cs,Blk w q t cs/\tyB t:=by
 obtain ⟨G,c,st,A,Φ,h0,hF⟩:=h;rcases (hF q).1 hq with rfl|rfl|⟨i,hi,hq⟩
 ·exact ⟨_,_,h0.blk,.inl rfl⟩
 ·obtain ⟨cs,hb⟩:=z_i h0.row (q:=q) rfl
  exact ⟨_,_,hb,.inr (.inl rfl)⟩
 ·obtain ⟨la,na,vw,xs,h1,h2,h3,h4,h5,h6,h7,h8,h9⟩:=(h0.dk i hi).ex
  rcases (h9 q).1 hq with rfl|rfl|rfl|hv
  ·exact ⟨_,_,h1,.inr (.inr (.inl rfl))⟩
  ·exact ⟨_,_,h2,.inr (.inr (.inr (.inl rfl)))⟩
  ·exact ⟨_,_,h3,.inr (.inr (.inr (.inl rfl)))⟩
  ·obtain ⟨cs,hb⟩:=z_i h5 hv
   exact ⟨_,_,hb,.inr (.inr (.inr (.inr rfl)))⟩
theorem Blk.ty_eq {g t t':Nat} {cs cs':Array Value} (h:Blk w g t cs) (h':Blk w g t' cs'):t=t':=by
 unfold Blk at h h';rw[h] at h';injection h' with h';injection h' with _ h'
theorem Bk.off (h:Bk w b n σ F) {g t:Nat} {cs:Array Value} (hb:Blk w g t cs) (ht:¬tyB t):¬F g:=fun hf=>by
 obtain ⟨t',cs',fm,Nb⟩:=h.ty hf;rw[hb.ty_eq fm] at ht;exact ht Nb
theorem Bk.offRow (h:Bk w b n σ F) {base e size k:Nat} {v:Value} {xs:List Value} (ho:w.ownsRow base e size v k xs) (ht:¬tyB e):∀q,v.ownBlock=some q->¬F q:=fun q hq=>by
 obtain ⟨cs,hb⟩:=z_i ho hq;exact h.off hb ht
theorem Bk.offMap {P:Program} {k:TypeId} {α:Type} {M:KM P k α} {g:Nat} {f:α->Option Value} {dom:List α} (h:Bk w b n σ F) (hm:MapA M w g f dom):¬F g:=fun hf=>by
 obtain ⟨t',cs',fm,_⟩:=h.ty hf;exact hm.ne_blk fm rfl
theorem Bk.offNew (h:Bk w b n σ F) {g:Nat} (hg:w.heap.size<=g):¬F g:=fun hf=>by have:=(h.lt hf).2;omega
end
def mdC (b an:Nat) (key:List UInt8):Array Value:=#[.pointer (some ⟨b,0,none⟩),.pointer (some ⟨an,0,none⟩),.string (bs key)]
theorem works_any (w:World) (m:Mem) (h:m.st<=2) :
  Cl 113 #[.agg #[.int .i64 m.st,.string m.top,.string m.log]] w fun e w'=>e=.returned (.bool (decide (m.st=1)))/\Kp NoB w w':=by
 obtain ⟨st,top,log⟩:=m;have HK:=Zz ((Kp.refl NoB w).alloc (.cells #[.int .i64 st,.string top,.string log] 108));have HB:=Zz (Blk.new w 108 #[.int .i64 st,.string top,.string log])
 dsimp only at h ⊢
 go_enter func113,ntmps113
 go_upto_region 1 with fail
 generalize w.alloc (.cells #[.int .i64 st,.string top,.string log] 108)=w1 at *;generalize w.heap.size=G at *;have c0:=HB.o.c0
 obtain rfl|rfl|rfl:st=0\/st=1\/st=2:=by omega
 ·go_wp2
  go_ret;exact ⟨rfl,HK.o⟩
 ·go_wp2
  go_ret;exact ⟨rfl,HK.o⟩
 ·go_wp2
  go_ret;exact ⟨rfl,HK.o⟩
section
variable {w:World} {b n an:Nat} {key:List UInt8} {σ:Nat->DkS} {F:Nat->Prop}
theorem w_j (w:World) (b an i s:Nat) (key:List UInt8) :
  Cl 64 #[.agg (mdC b an key),.int .i64 i,.int .i64 s] w fun e w'=>e=.returned (.agg (slC b i s key))/\Kp NoB w w':=by
 have HB:=Zz (Blk.new w 113 (mdC b an key));have HK:=Zz ((Kp.refl NoB w).alloc (.cells (mdC b an key) 113));change Cl 64 #[.agg #[.pointer (some ⟨b,0,none⟩),.pointer (some ⟨an,0,none⟩),.string (bs key)],.int .i64 i,.int .i64 s] w _;go_enter func64,ntmps64;have I0:=Zz (Blk.new (w.alloc (.cells (mdC b an key) 113)) 139 #[.pointer none,.int .i64 0,.int .i64 0,.string ⟨#[]⟩]);rw[World.size_alloc] at I0;have gp:=Zz (HB.o.alloc (.cells #[.pointer none,.int .i64 0,.int .i64 0,.string ⟨#[]⟩] 139));have dK:=Zz (HK.o.alloc (.cells #[.pointer none,.int .i64 0,.int .i64 0,.string ⟨#[]⟩] 139))
 go_upto_region 1 with fail
 change Code.wp _ _ _ _ ((w.alloc (.cells (mdC b an key) 113)).alloc (.cells #[.pointer none,.int .i64 0,.int .i64 0,.string ⟨#[]⟩] 139));generalize (w.alloc (.cells (mdC b an key) 113)).alloc (.cells #[.pointer none,.int .i64 0,.int .i64 0,.string ⟨#[]⟩] 139)=w1 at *;obtain ⟨G,hG⟩:∃G,w.heap.size=G:=⟨_,rfl⟩;rw[hG] at I0 gp ⊢;have cR:=Zz hG;clear hG;have c0:=gp.o.c0;have c2:=gp.o.c2
 have jC:(prog.info? 139).map (·.size)=some 4:=by kernel_rfl
 have aD:(#[.pointer (some ⟨b,0,none⟩),.int .i64 i,.int .i64 s,.string (bs key)]:Array Value).all (·.oneCell')=true:=by simp[Value.oneCell']
 go_wp2_with (refine wpList_store_row rfl 139 (.tmp 6) (.tmp 13) rfl (G+1) _ rfl rfl 139 _ I0.o jC rfl aD ?_)
 have hZ:=I0.o.setRow (cs':=#[.pointer (some ⟨b,0,none⟩),.int .i64 i,.int .i64 s,.string (bs key)]);have aM:Kp (fun q=>q=G+1) w1 (w1.setRow (G+1) #[.pointer (some ⟨b,0,none⟩),.int .i64 i,.int .i64 s,.string (bs key)]):=(Kp.refl _ w1).setRow _ _ (.inl rfl);refine bodyPost_ret (x_f rfl rfl hZ underlying139 rfl jC) rfl ?_;exact ⟨rfl,dK.o.then aM fun q hq e=>(by have:=cR.o;have e:q=G+1:=e;omega:False).elim⟩
end
theorem w_v (σ:Nat->DkS) (i:Nat) (s s':DkS):z_A (z_A σ i s) i s'=z_A σ i s':=by
 funext j;unfold z_A;split<;>rfl
def DkS.wrs (σ:DkS) (l:List Wr):DkS:=l.foldl (fun σ x=>σ.write x.at' x.cell) σ
theorem DkS.write_dead (σ:DkS) (i:Nat) (s:ByteArray):(σ.write i s).dead=σ.dead:=by unfold DkS.write;split<;>rfl
theorem DkS.write_wait (σ:DkS) (i:Nat) (s:ByteArray):(σ.write i s).wait<=σ.wait+1:=by unfold DkS.write;split<;>simp
theorem DkS.wrs_dead (σ:DkS) (l:List Wr):(σ.wrs l).dead=σ.dead:=by
 induction l generalizing σ with
 | nil=>rfl
 | cons x l ih=>show (DkS.wrs (σ.write x.at' x.cell) l).dead=_;rw[ih,DkS.write_dead]
theorem DkS.wrs_take (σ:DkS) (l:List Wr) (j:Nat) (h:j<l.length):σ.wrs (l.take (j+1))=(σ.wrs (l.take j)).write (l[j]'h).at' (l[j]'h).cell:=by
 rw[q_h h];unfold DkS.wrs;rw[List.foldl_append];rfl
theorem DkS.wrs_wait (σ:DkS) (l:List Wr):(σ.wrs l).wait<=σ.wait+l.length:=by
 induction l generalizing σ with
 | nil=>exact q_e _
 | cons x l ih =>
  have h1:=ih (σ.write x.at' x.cell);have h2:=σ.write_wait x.at' x.cell;show (DkS.wrs (σ.write x.at' x.cell) l).wait<=_;rw[List.length_cons];omega
section
variable {w:World} {b n i s t:Nat} {key:List UInt8} {σ:Nat->DkS} {F:Nat->Prop}
theorem v_U (hP:w_Z) (hL:Lay w) (h:Bk w b n σ F) (hw:10<=w.heap.size) (hi:i<n) (hs:sl s) (hk:key.length=32) (v:Value) (l:List Wr) (hv:∀W,Kp F w W->z_Q W v 2 l.length (wrC l)) (hl:l.length<=1000) (bI:∀x∈l,x.ok) (fy:(σ i).wait<=1000) (hd:(σ i).dead=false) :
  Cl 94 #[.agg (slC b i s key),v] w fun e w'=>e=.returned (.int .i64 0)/\∃F',Gr w F F'/\Bk w' b n (z_A σ i ((σ i).wrs l).flush) F'/\Kp F w w':=by
 have HB:=Zz (Blk.new w 139 (slC b i s key));have HK:=Zz ((Kp.refl NoB w).alloc (.cells (slC b i s key) 139))
 have aN:10<=(w.alloc (.cells (slC b i s key) 139)).heap.size:=by have:=HK.o.size;omega
 have HG:=Zz (w_9 hP (hL.no HK.o) (h.no HK.o) aN hi hs hk);have eS:=Zz h;have HV:=Zz hv;have rU:=Zz (wrC_at l);have iX:Hid (∀j (h:j<l.length),(l[j]'h).ok):=Zz fun j h=>bI _ (q_B h);have kG:=Zz (DkS.wrs_take (σ i) l)
 have I1:Hid (∀j,j<=l.length->((σ i).wrs (l.take j)).wait<=100000):=Zz fun j hj=>by
  have:=(σ i).wrs_wait (l.take j);rw[q_l] at this;omega
 have ng:Hid (∀j,((σ i).wrs (l.take j)).dead=false):=Zz fun j=>by rw[DkS.wrs_dead];exact hd
 have eC:Hid (l.take l.length=l):=Zz (List.take_length)
 have BK:Hid (¬F w.heap.size):=Zz fun hf=>by have:=(h.lt hf).2;omega
 have HG0:=Zz (hL.no HK.o);obtain ⟨A,c,rfl,aK,bf,sY,_⟩:=hv w (Kp.refl _ _);obtain ⟨m,hm⟩:∃m,l.length=m:=⟨_,rfl⟩;have ej:=Zz hm;rw[hm] at aK HV I1 eC hl sY ⊢;clear hP hs hL h aN hv bI hm sY;change Cl 94 #[.agg #[.pointer (some ⟨b,0,none⟩),.int .i64 i,.int .i64 s,.string (bs key)],.slice A m c] w _;go_enter func94,ntmps94
 go_upto_region 1 with fail
 change Code.wp _ _ _ _ (w.alloc (.cells (slC b i s key) 139));generalize aN:w.alloc (.cells (slC b i s key) 139)=w1 at *;clear aN;obtain ⟨G,hG⟩:∃G,w.heap.size=G:=⟨_,rfl⟩;rw[hG] at HB BK ⊢;have cR:=Zz hG;have c0:=HB.o.c0;have c1:=HB.o.c1;have c2:=HB.o.c2;have c3:=HB.o.c3;go_wp2_with fail;refine HG.o.mono ?_;rintro e w2 ⟨rfl,ag⟩;have ak:=Zz (HB.o.kp ag fun h=>h);have al:=Zz ((HK.o.trans ag).mono (S:=F) fun _ _ h=>h.elim)
 have fh:Hid (∃F',Gr w F F'/\Bk w2 b n (z_A σ i ((σ i).wrs (l.take 0))) F'/\¬F' G):=Zz ⟨F,Gr.refl _ _,by
  show Bk w2 b n (z_A σ i (σ i)) F
  rw[updD_self];exact (eS.o.no HK.o).no ag,BK.o⟩
 clear ag c0 c1 c2 c3 HB HK
 go_upto_region 4 with fail
 go_loopw [6,7,13] (fun _ _ s13 wr=>∃j:Nat,j<=m/\s13=.int .i64 j/\Hid (Blk wr G 139 (slC b i s key))/\Hid (Kp F w wr)/\Hid (∃F',Gr w F F'/\Bk wr b n (z_A σ i ((σ i).wrs (l.take j))) F'/\¬F' G)) (fun _ _ s13 _=>m-(intOf s13).toNat)
 case atStart=>exact ⟨0,by omega,rfl,ak,al,fh⟩
 case round =>
  clear ak al fh;obtain ⟨j,hj,rfl,HB,HK,HS⟩:=hrel;by_cases af:j<m
  ·obtain ⟨A',c',he,_,_,_,aa⟩:=HV.o wr HK.o
   cases he;obtain ⟨pb,off,rfl,ae⟩:=aa (by omega)
   have cF:j<l.length:=by have:=ej.o;omega
   obtain ⟨q1,q2⟩:=rU.o j cF;have k0:=(ae (j*2) (by omega)).trans q1;have k1:=(ae (j*2+1) (by omega)).trans q2;rw[<-Nat.add_assoc] at k1;obtain ⟨o1,o2,o3⟩:=iX.o j cF;have aR:=Zz (kG.o j cF)
   have bV:(j:Int)<(m:Int):=by omega
   have Nc:=Zz (I1.o j hj);have Nd:=Zz (ng.o j);clear ae q1 q2 aa;generalize (l[j]'cF).at'=a at *;generalize (l[j]'cF).cell=x at *;have cN:=Zz (Blk.new wr 240 #[.int .i64 a,.string x]);have aI:=Zz (HB.o.alloc (.cells #[.int .i64 a,.string x] 240));have bn:=Zz (HK.o.alloc (.cells #[.int .i64 a,.string x] 240))
   have fo:∃F',Gr w F F'/\¬F' G/\Cl 144 #[.pointer (some ⟨b,0,none⟩),.int .i64 i,.int .i64 a,.string x] (wr.alloc (.cells #[.int .i64 a,.string x] 240)) fun e w'=>e=.returned (.int .i64 0)/\∃F'',Gr (wr.alloc (.cells #[.int .i64 a,.string x] 240)) F' F''/\Bk w' b n (z_A σ i ((σ i).wrs (l.take (j+1)))) F''/\Kp F' (wr.alloc (.cells #[.int .i64 a,.string x] 240)) w':=by
    obtain ⟨F',g1,g2,g3⟩:=HS.o;refine ⟨F',g1,g3,?_⟩;have h2:=z_ac (g2.no ((Kp.refl NoB wr).alloc (.cells #[.int .i64 a,.string x] 240))) i a hi (by omega) x (by omega) (by rw[y_q];exact Nc.o);rw[y_q,Nd.o,w_v,<-aR.o] at h2;exact h2
   have pJ:=Zz fo;have ou:=Zz aI.o.lt;clear fo HB HK HS
   go_upto_region 6 with fail
   clear k0 k1;generalize fY:wr.alloc (.cells #[.int .i64 a,.string x] 240)=w5 at *;clear fY;generalize wr.heap.size=D at *;have c0:=aI.o.c0;have c1:=aI.o.c1;have d0:=cN.o.c0;have d1:=cN.o.c1;obtain ⟨F',g1,g3,yT⟩:=pJ.o;have yT:=Zz yT;have cC:=Zz g1;have Bi:=Zz g3;clear g1 g3;go_wp2_with fail;refine yT.o.mono ?_;rintro e w6 ⟨rfl,F'',g4,g5,g6⟩;have bk:=Zz (aI.o.kp g6 Bi.o);have aB:=Zz (bn.o.then g6 fun q hq hf=>cC.o q hq hf);have dH:Hid (∃F',Gr w F F'/\Bk w6 b n (z_A σ i ((σ i).wrs (l.take (j+1)))) F'/\¬F' G):=Zz ⟨F'',cC.o.then g4 bn.o.size,g5,g4.no ou.o Bi.o⟩;clear g4 g5 g6 c0 c1 d0 d1;go_wp2;go_roundw
   case rel=>exact ⟨j+1,by omega,by go_num,bk,aB,dH⟩
   case measure=>simp[intOf];omega
  ·obtain rfl:j=m:=by omega
   rw[eC.o] at HS;have Nf:Hid (((σ i).wrs l).dead=false):=Zz (by have:=ng.o j;rwa [eC.o] at this)
   have xT:∃F',Gr w F F'/\¬F' G/\Cl 145 #[.pointer (some ⟨b,0,none⟩),.int .i64 i] wr fun e w'=>e=.returned (.int .i64 0)/\∃F'',Gr wr F' F''/\Bk w' b n (z_A σ i ((σ i).wrs l).flush) F''/\Kp F' wr w':=by
    obtain ⟨F',g1,g2,g3⟩:=HS.o;refine ⟨F',g1,g3,?_⟩;have h2:=v_3 g2 i hi;rw[y_q,Nf.o,w_v] at h2;exact h2
   obtain ⟨F',g1,g3,yT⟩:=xT;have yT:=Zz yT;have cC:=Zz g1;have c0:=HB.o.c0;have c1:=HB.o.c1;clear g1 g3;go_wp2_with fail;refine yT.o.mono ?_;rintro e w6 ⟨rfl,F'',g4,g5,g6⟩;have de:Hid (∃F',Gr w F F'/\Bk w6 b n (z_A σ i ((σ i).wrs l).flush) F'/\Kp F w w6):=Zz ⟨F'',cC.o.then g4 HK.o.size,g5,HK.o.then g6 fun q hq hf=>cC.o q hq hf⟩;clear g4 g5 g6 c0 c1;go_wp2;go_ret;exact ⟨rfl,de.o⟩
end
theorem digest_sup (w:World) (hL:Lay w) (hw:10<=w.heap.size) (l:List UInt8) (hl:l.length<=90000000) :
  Cl 123 #[.string (bs l)] w fun e w'=>e=.returned (.string (bs (z_Z l)))/\Kp NoB w w':=by
 have H:=Zz (top_any w hL hw l hl);clear hL;go_enter func123,ntmps123;go_wp2_with fail;refine H.o.mono ?_;rintro e w1 ⟨rfl,hk⟩;go_wp2;go_ret;exact ⟨rfl,hk⟩
theorem size_ba (x:ByteArray):x.data.toList.length=x.size:=rfl
theorem bs_ba (x:ByteArray):bs x.data.toList=x:=rfl
theorem member_any (w:World) (p:Nat) (m:Mem) (hm:m.st<=2) (h1:m.top.size=32) (h2:m.log.size=32) (rest:List UInt8) (hr:rest.length<=900000) (HP:Blk w p 317 (Rd.cs (y_J m++rest,0))) :
  Cl 184 #[.pointer (some ⟨p,0,none⟩)] w fun e w'=>e=.returned (.agg #[.int .i64 m.st,.string m.top,.string m.log])/\Blk w' p 317 (Rd.cs (rest,0))/\Kp (·=p) w w':=by
 have me:=v_p h1 h2
 have e1:y_J m++rest=z_k m.st++(z_v m.top.data.toList++(z_v m.log.data.toList++rest)):=by simp[y_J,List.append_assoc]
 have kz:(z_v m.top.data.toList++(z_v m.log.data.toList++rest)).length<=990000:=by simp[z_v,z_m,size_ba,h1,h2];omega
 have gY:(z_v m.log.data.toList++rest).length<=990000:=by simp[z_v,z_m,size_ba,h1,h2];omega
 have HA:Hid (∀W,Blk W p 317 (Rd.cs (y_J m++rest,0))->Cl 179 #[.pointer (some ⟨p,0,none⟩),.int .i64 4] W fun e w'=>e=.returned (.int .i64 m.st)/\Blk w' p 317 (Rd.cs (z_v m.top.data.toList++(z_v m.log.data.toList++rest),0))/\Kp (·=p) W w'):=Zz fun W hB=>by
  have hb:=Rd.below_ok (n:=m.st) (b:=4) (by omega) (by omega) (z_v m.top.data.toList++(z_v m.log.data.toList++rest));have:=w_2 W p (y_J m++rest,0) (by rw[q_b,me];omega) (by show 0<100;decide) 4 (by decide) (by decide) hB;rw[e1,hb.1,hb.2] at this;exact this
 have HT:Hid (∀W,Blk W p 317 (Rd.cs (z_v m.top.data.toList++(z_v m.log.data.toList++rest),0))->Cl 231 #[.pointer (some ⟨p,0,none⟩)] W fun e w'=>e=.returned (.string m.top)/\Blk w' p 317 (Rd.cs (z_v m.log.data.toList++rest,0))/\Kp (·=p) W w'):=Zz fun W hB=>by
  have hb:=Rd.text_ok (c:=m.top.data.toList) (by rw[size_ba];omega) (z_v m.log.data.toList++rest);have:=rtext_any W p _ (by exact q_g kz (by decide)) hB;rw[hb.1,hb.2,bs_ba] at this;exact this
 have HS:Hid (∀W,Blk W p 317 (Rd.cs (z_v m.log.data.toList++rest,0))->Cl 231 #[.pointer (some ⟨p,0,none⟩)] W fun e w'=>e=.returned (.string m.log)/\Blk w' p 317 (Rd.cs (rest,0))/\Kp (·=p) W w'):=Zz fun W hB=>by
  have hb:=Rd.text_ok (c:=m.log.data.toList) (by rw[size_ba];omega) rest;have:=rtext_any W p _ (by exact q_g gY (by decide)) hB;rw[hb.1,hb.2,bs_ba] at this;exact this
 generalize Rd.cs (y_J m++rest,0)=R0 at *;generalize Rd.cs (z_v m.top.data.toList++(z_v m.log.data.toList++rest),0)=R1 at *;generalize Rd.cs (z_v m.log.data.toList++rest,0)=R2 at *;generalize Rd.cs (rest,0)=R3 at *;obtain ⟨st,top,log⟩:=m
 dsimp only at hm h1 h2 HA HT HS ⊢
 clear e1 kz gY me;have fj:=Zz (HP.alloc (.cells #[.int .i64 0,.string ⟨#[]⟩,.string ⟨#[]⟩] 108));have I2:=Zz (Blk.new w 108 #[.int .i64 0,.string ⟨#[]⟩,.string ⟨#[]⟩]);have bZ:=Zz ((Kp.refl (·=p) w).alloc (.cells #[.int .i64 0,.string ⟨#[]⟩,.string ⟨#[]⟩] 108));clear HP;go_enter func184,ntmps184
 go_upto_region 1 with fail
 have Sb:Hid (w.heap.size<=w.heap.size):=Zz (q_e _);obtain ⟨D,hD⟩:∃D,w.heap.size=D:=⟨_,rfl⟩;rw[hD] at I2 ⊢;have Ng:=Zz hD;have Sc:p≠D:=Blk.ne_ fj.o I2.o (by decide);have fS:=Zz Sc;clear hD Sc;generalize w.alloc (.cells #[.int .i64 0,.string ⟨#[]⟩,.string ⟨#[]⟩] 108)=w1 at *;go_wp2_with fail;refine (HA.o _ fj.o).mono ?_;rintro e w2 ⟨rfl,am,ag⟩;have ak:=Zz am;have al:=Zz (bZ.o.trans ag);have Sd:=Zz (I2.o.kp ag fun h=>fS.o h.symm);clear am ag fj bZ I2;go_wp2_with fail;refine (HT.o _ ak.o).mono ?_;rintro e w3 ⟨rfl,bW,au⟩;have aJ:=Zz bW;have ar:=Zz (al.o.trans au);have sO:=Zz (Sd.o.kp au fun h=>fS.o h.symm);clear bW au ak al Sd;go_wp2_with fail;refine (HS.o _ aJ.o).mono ?_;rintro e w4 ⟨rfl,fH,aw⟩;have bR:=Zz fH;have az:=Zz (ar.o.trans aw);have Se:=Zz (sO.o.kp aw fun h=>fS.o h.symm);clear fH aw aJ ar sO
 have jC:(prog.info? 108).map (·.size)=some 3:=by kernel_rfl
 have aD:(#[.int .i64 st,.string top,.string log]:Array Value).all (·.oneCell')=true:=by simp[Value.oneCell']
 go_wp2_with (refine wpList_store_row rfl 108 (.tmp 2) (.tmp 15) rfl D _ rfl rfl 108 _ Se.o jC rfl aD ?_)
 have hZ:=Se.o.setRow (cs':=#[.int .i64 st,.string top,.string log]);have aM:Kp (fun q=>q=D) w4 (w4.setRow D #[.int .i64 st,.string top,.string log]):=(Kp.refl _ w4).setRow D _ (.inl rfl);refine bodyPost_ret (x_f rfl rfl hZ underlying108 rfl jC) rfl ?_;exact ⟨rfl,bR.o.kp aM fun e=>fS.o e,az.o.then aM fun q hq e=>(by have:=Ng.o;have e:q=D:=e;omega:False).elim⟩
theorem nnew_any (w:World) (epoch:Nat) (he:1<=epoch) (kD:epoch<4294967295) :
  Cl 90 #[.int .u64 epoch,.int .u64 0] w fun e w'=>e=.returned (.tuple #[.pointer (some ⟨w.heap.size,0,none⟩),.int .i64 0])/\Blk w' w.heap.size 226 #[.int .u64 epoch,.int .u64 0]/\Kp NoB w w':=by
 have h1:(1:Int)<=(epoch:Int):=by omega
 have h2:(epoch:Int)<=4294967295:=by omega
 have HB:Hid (Blk (w.alloc (.cells #[.int .u64 epoch,.int .u64 0] 226)) w.heap.size 226 #[.int .u64 epoch,.int .u64 0]):=Zz (Blk.new w _ _);have HK:=Zz ((Kp.refl NoB w).alloc (.cells #[.int .u64 epoch,.int .u64 0] 226));go_enter func90,ntmps90;go_wp2;go_ret2;exact ⟨rfl,HB.o,HK.o⟩
def y_D (epoch n:Nat):List UInt8:=z_k epoch++beL [n]
theorem nonF_len (e n:Nat):(y_D e n).length=12:=by unfold y_D;rw[q_b,z_m,x_v];rfl
theorem next_any (w:World) (p epoch n:Nat) (he:epoch<4294967296) (hn:n<4294967296) (HP:Blk w p 226 #[.int .u64 epoch,.int .u64 n]) :
  Cl 105 #[.pointer (some ⟨p,0,none⟩)] w fun e w'=>e=.returned (.tuple #[.string (bs (y_D epoch n)),.int .i64 0])/\Blk w' p 226 #[.int .u64 epoch,.int .u64 (n+1:Nat)]/\Kp (·=p) w w':=by
 have h1:¬(4294967295<(n:Int)):=by omega
 have hw:IntKind.u32.wrap (n:Int)=(n:Int):=by rw[IntKind.wrap_u32];omega
 have fi:IntKind.u64.wrap ((n:Int)+1)=((n+1:Nat):Int):=by rw[q_s];omega
 have c1:=HP.c1;have HN:=Zz (fun W=>x_B W epoch (by omega));have Sf:=Zz (fun W v h=>w_S W v [n] h (by simp));have HA:Hid (bs (z_k epoch)++bs (beL [n])=bs (y_D epoch n)):=Zz (y_f _ _)
 have z1:(bs (z_k epoch)).size=8:=by rw[z_b,z_m]
 have z2:(bs (beL [n])).size=4:=by rw[z_b,x_v];rfl
 have dc:Hid (∀W:World,z_g (W.alloc (.cells #[.int .u32 n] 213)) (.slice (some ⟨W.heap.size,0,none⟩) 1 1) (uv [n])):=Zz fun W=>blit W #[.int .u32 n] 213 (by simp[maxLen]);have fj:=Zz HP.drew;have bZ:=Zz (Kp.refl NoB w).drew;have bQ:=HP.lt;have sQ:=HA.o;clear HP;generalize y_D epoch n=R at *;generalize bs (z_k epoch)=A at *;generalize beL [n]=B at *;generalize n+1=m at *;go_enter func105,ntmps105
 go_upto_region 5 with fail
 clear c1
 go_cut [4] (fun s4 wx=>s4=.string (bs R)/\Hid (Blk wx p 226 #[.int .u64 epoch,.int .u64 n])/\Hid (Kp NoB w wx))
 case first =>
  refine fs ?_;generalize w.drew=w2 at *;have c0:=fj.o.c0;have c1:=fj.o.c1;refine fp 0 ?_;refine fp 1 ?_;refine fp 2 ?_;refine f_c 3 c0 ?_;refine fp 5 ?_;refine fp 6 ?_;refine fp 7 ?_;refine f_c 8 c1 ?_;refine fp 9 ?_;have bH:=dc.o;refine w_4 4 10 (by kernel_rfl) ?_ ?_
  ·refine y_a 4 rfl (fun K Qx hK=>?_)
   go_simp;refine (HN.o _).mono ?_;rintro e w3 ⟨rfl,au⟩;have aJ:=Zz (fj.o.kp au fun h=>h);have ar:=Zz (bZ.o.trans au);refine hK _ _ (oK (aJ.o.cell 1) (oW oN)) ?_;clear hK K c0 c1 au fj bZ;refine fd 10 fun K Qx hK=>?_;go_simp;have qJ:=bH w3;have bR:=Zz (aJ.o.alloc (.cells #[.int .u32 n] 213));have az:=Zz (ar.o.alloc (.cells #[.int .u32 n] 213));refine hK _ _ (oW (oK (bR.o.cell 0) oN)) ?_;clear hK K;clear aJ ar;generalize w3.alloc (.cells #[.int .u32 n] 213)=w4 at *;refine fd 11 fun K Qx hK=>?_;go_simp;refine (Sf.o _ _ qJ).mono ?_;rintro e w5 ⟨rfl,ey⟩;refine hK _ _ (oW (oW oN)) ?_;clear hK K;have aY:=Zz (bR.o.below ey bR.o.lt);have ax:=Zz (az.o.trans (Kp.of_below ey _));clear bR az ey qJ;refine fp 12 ?_;refine fp 13 ?_;refine fe ?_;go_wp2_with fail
   go_meet
   exact ⟨rfl,aY,ax⟩
  ·refine y_a 10 rfl (fun K Qx hK=>?_)
   go_simp;have qJ:=bH w2;have bR:=Zz (fj.o.alloc (.cells #[.int .u32 n] 213));have az:=Zz (bZ.o.alloc (.cells #[.int .u32 n] 213));refine hK _ _ (oW (oK (bR.o.cell 0) oN)) ?_;clear hK K c0 c1 fj bZ;generalize w2.alloc (.cells #[.int .u32 n] 213)=w4 at *;refine fd 4 fun K Qx hK=>?_;go_simp;refine (HN.o _).mono ?_;rintro e w3 ⟨rfl,au⟩;have aJ:=Zz (bR.o.kp au fun h=>h);have ar:=Zz (az.o.trans au);have ED:=qJ.below au.below0;refine hK _ _ (oK (aJ.o.cell 1) (oW oN)) ?_;clear hK K au bR az qJ;refine fd 11 fun K Qx hK=>?_;go_simp;refine (Sf.o _ _ ED).mono ?_;rintro e w5 ⟨rfl,ey⟩;refine hK _ _ (oW (oW oN)) ?_;clear hK K;have aY:=Zz (aJ.o.below ey aJ.o.lt);have ax:=Zz (ar.o.trans (Kp.of_below ey _));clear aJ ar ey ED;refine fp 12 ?_;refine fp 13 ?_;refine fe ?_;go_wp2_with fail
   go_meet
   exact ⟨rfl,aY,ax⟩
 case rest =>
  obtain ⟨rfl,HB,HK⟩:=hcut;have c1:=HB.o.c1;have f1:=HB.o.frozen 1;have bk:Hid (Blk (wc.setCell ⟨p,1,none⟩ (.int .u64 m)) p 226 #[.int .u64 epoch,.int .u64 m]):=Zz (HB.o.set_ 1 _);have aB:=Zz ((HK.o.mono (S:=(·=p)) fun _ _ h=>h.elim).setCell ⟨p,1,none⟩ (.int .u64 m) (.inl rfl));go_wp2;go_ret2;exact ⟨rfl,bk.o,aB.o⟩
theorem anew_any (w:World) :
  Cl 53 #[] w fun e w'=>e=.returned (.pointer (some ⟨w.heap.size,0,none⟩))/\Blk w' w.heap.size 180 #[.int .u64 0,.string (bs [])]/\Kp NoB w w':=by
 have HB:Hid (Blk (w.alloc (.cells #[.int .u64 0,.string (bs [])] 180)) w.heap.size 180 #[.int .u64 0,.string (bs [])]):=Zz (Blk.new w _ _);have HK:=Zz ((Kp.refl NoB w).alloc (.cells #[.int .u64 0,.string (bs [])] 180));go_enter func53,ntmps53;go_wp2;go_ret;exact ⟨rfl,HB.o,HK.o⟩
theorem aget_any (w:World) (p n:Nat) (d:List UInt8) (HP:Blk w p 180 #[.int .u64 n,.string (bs d)]) :
  Cl 86 #[.pointer (some ⟨p,0,none⟩)] w fun e w'=>e=.returned (.tuple #[.int .u64 n,.string (bs d)])/\Kp NoB w w':=by
 have c0:w.drew.cell? ⟨p,0,none⟩=some (.int .u64 n):=HP.cell 0;have c1:w.drew.cell? ⟨p,1,none⟩=some (.string (bs d)):=HP.cell 1;have HK:=Zz (Kp.refl NoB w).drew;clear HP;go_enter func86,ntmps86
 go_upto_region 3 with fail
 go_still (by kernel_rfl)
 go_wp2;go_ret2;exact ⟨rfl,HK.o⟩
theorem aset_any (w:World) (p n m:Nat) (d d2:List UInt8) (db:d2.length=32) (Xj:n<m) (hm:m<18446744073709551616) (HP:Blk w p 180 #[.int .u64 n,.string (bs d)]) :
  Cl 122 #[.pointer (some ⟨p,0,none⟩),.int .u64 m,.string (bs d2)] w fun e w'=>e=.returned (.int .i64 0)/\Blk w' p 180 #[.int .u64 m,.string (bs d2)]/\Kp (·=p) w w':=by
 have c0:=HP.c0;have c1:=HP.c1;have f0:=HP.frozen 0;have f1:=HP.frozen 1
 have h1:¬((m:Int)<=(n:Int)):=by omega
 have hz:(bs d2).size=32:=by rw[z_b,db]
 have HB:Hid (Blk ((w.setCell ⟨p,0,none⟩ (.int .u64 m)).setCell ⟨p,1,none⟩ (.string (bs d2))) p 180 #[.int .u64 m,.string (bs d2)]):=Zz ((HP.set_ 0 _).set_ 1 _);have HK:=Zz (((Kp.refl (·=p) w).setCell ⟨p,0,none⟩ (.int .u64 m) (.inl rfl)).setCell ⟨p,1,none⟩ (.string (bs d2)) (.inl rfl));clear HP;go_enter func122,ntmps122;go_wp2;go_ret;exact ⟨rfl,HB.o,HK.o⟩
section
variable {w:World} {b n an:Nat} {key:List UInt8} {σ:Nat->DkS} {F:Nat->Prop}
theorem took_any (h:Bk w b n σ F) (an:Nat) (key:List UInt8) (i at':Nat) (hi:i<n) (br:at'<140) (s:ByteArray) (hs:s.size<=2048) (fy:(σ i).wait<=100000) :
  Cl 120 #[.agg (mdC b an key),.int .i64 i,.int .i64 at',.string s] w fun e w'=>e=.returned (.int .i64 (if (σ i).dead then 20 else 0))/\∃F',Gr w F F'/\Bk w' b n (z_A σ i ((σ i).write at' s).flush) F'/\Kp F w w':=by
 have HB:=Zz (Blk.new w 113 (mdC b an key));have HK:=Zz ((Kp.refl NoB w).alloc (.cells (mdC b an key) 113));have HW:=Zz (z_ac (h.no HK.o) i at' hi br s hs fy);have mc:=Zz (fun W σ' F' (hb:Bk W b n σ' F')=>v_3 hb i hi);have ov:=Zz (h.offNew (q_e _));have fG:=Zz (fun q (hq:F q)=>(h.lt hq).2);have iD:=DkS.write_dead (σ i) at' s;have I3:=y_q σ i ((σ i).write at' s);have Nh:=w_v σ i ((σ i).write at' s) ((σ i).write at' s).flush;clear h;change Cl 120 #[.agg #[.pointer (some ⟨b,0,none⟩),.pointer (some ⟨an,0,none⟩),.string (bs key)],.int .i64 i,.int .i64 at',.string s] w _
 cases hd:(σ i).dead with
 | true =>
  have Ni:((σ i).write at' s).flush=(σ i).write at' s:=by unfold DkS.flush;rw[iD,hd];rfl
  rw[Ni];rw[hd] at HW;clear iD I3 Nh mc;generalize z_A σ i ((σ i).write at' s)=σ1 at *;go_enter func120,ntmps120
  go_upto_region 1 with fail
  change Code.wp _ _ _ _ (w.alloc (.cells (mdC b an key) 113));generalize w.alloc (.cells (mdC b an key) 113)=w1 at *;obtain ⟨G,hG⟩:∃G,w.heap.size=G:=⟨_,rfl⟩;rw[hG] at HB ov ⊢;clear hG;have c0:=HB.o.c0;go_wp2_with fail;refine HW.o.mono ?_;rintro e w2 ⟨rfl,F1,bu,ay,aX⟩;have HR:Hid (∃F',Gr w F F'/\Bk w2 b n σ1 F'/\Kp F w w2):=Zz ⟨F1,fun q hq hf=>bu q (q_f hq HK.o.size) hf,ay,(HK.o.mono fun _ _ h=>h.elim).trans aX⟩;clear bu ay aX c0;go_wp2;go_ret
  exact ⟨rfl,HR.o⟩
 | false =>
  rw[hd] at HW iD;go_enter func120,ntmps120
  go_upto_region 1 with fail
  change Code.wp _ _ _ _ (w.alloc (.cells (mdC b an key) 113));generalize w.alloc (.cells (mdC b an key) 113)=w1 at *;obtain ⟨G,hG⟩:∃G,w.heap.size=G:=⟨_,rfl⟩;rw[hG] at HB ov ⊢;clear hG;have c0:=HB.o.c0;go_wp2_with fail;refine HW.o.mono ?_;rintro e w2 ⟨rfl,F1,bu,ay,aX⟩;have bh:=Zz ay;have cC:=Zz bu;have aW:=Zz aX;have aI:=Zz (HB.o.kp aX ov.o);have jM:=Zz (mc.o w2 _ F1 ay);rw[I3,Nh,iD] at jM;clear bu ay aX c0;have c0:=aI.o.c0;simp only[Bool.false_eq_true,if_false];simp only[Bool.false_eq_true,if_false] at jM;go_wp2_with fail;refine jM.o.mono ?_;rintro e w3 ⟨rfl,F2,bJ,am,ag⟩;have HR:Hid (∃F',Gr w F F'/\Bk w3 b n (z_A σ i ((σ i).write at' s).flush) F'/\Kp F w w3):=Zz ⟨F2,fun q hq hf=>cC.o q (q_f hq HK.o.size) (bJ q (q_f hq (q_g HK.o.size aW.o.size)) hf),am,(HK.o.mono fun _ _ h=>h.elim).trans (kpG aW.o cC.o ag)⟩;clear bJ am ag c0;go_wp2;go_ret;exact ⟨rfl,HR.o⟩
def z_R (σ:Nat->DkS) (c:Nat) (t:ByteArray) (k:Nat):Nat->DkS:=fun j=>if j<k then ((σ j).write c t).flush else σ j
theorem pubD_zero (σ:Nat->DkS) (c:Nat) (t:ByteArray):z_R σ c t 0=σ:=by funext j;simp[z_R]
theorem pubD_at (σ:Nat->DkS) (c:Nat) (t:ByteArray) (k:Nat):z_R σ c t k k=σ k:=by simp[z_R]
theorem pubD_succ (σ:Nat->DkS) (c:Nat) (t:ByteArray) (k:Nat):z_A (z_R σ c t k) k ((σ k).write c t).flush=z_R σ c t (k+1):=by
 funext j;unfold z_A z_R;by_cases e:j=k
 ·subst e;simp
 ·rw[if_neg e]
  by_cases h:j<k
  ·rw[if_pos h,if_pos (by omega)]
  ·rw[if_neg h,if_neg (by omega)]
theorem bspend_any (h:Bk w b n σ F) :
  Cl 121 #[.pointer (some ⟨b,0,none⟩)] w fun e w'=>e=.returned (.int .i64 0)/\Bk w' b n σ F/\Kp F w w':=by
 obtain ⟨G,c,st,A,Φ,h0,hF⟩:=h;refine (spend_any h0).mono ?_;rintro e w' ⟨rfl,⟨Ly,h1⟩,hk⟩;exact ⟨rfl,⟨G,c,Ly,A,Φ,h1,hF⟩,hk.mono fun q _ e=>(hF q).2 (.inl e)⟩
def some1 (σ:Nat->DkS) (k:Nat):Bool:=(List.range k).any fun j=>!(σ j).dead
theorem some1_succ (σ:Nat->DkS) (k:Nat):some1 σ (k+1)=(some1 σ k || !(σ k).dead):=by simp[some1,List.range_succ]
theorem some1_of (σ:Nat->DkS) (k i:Nat) (h:i<k) (hd:(σ i).dead=false):some1 σ k=true:=by
 unfold some1;rw[List.any_eq_true];exact ⟨i,List.mem_range.2 h,by rw[hd];rfl⟩
theorem supB_len {S:Sup} (hS:SupOk S):(z_t S).length<=1200:=by
 have q1:=w_a z_k 8 (numL S) (fun x _=>Nat.le_of_eq (z_m x))
 have q2:=w_a y_J 88 S.mem (fun x hx=>by
  obtain ⟨i,hi,e⟩:=List.getElem_of_mem hx
  rw[<-e];exact Nat.le_of_eq (v_p (hS.mem i hi).1 (hS.mem i hi).2.1))
 have q3:=numL_len S;have q4:=hS.n12;have q5:=hS.d8;have:S.mem.length*88<=12*88:=Nat.mul_le_mul_right _ q4;have:(numL S).length*8<=13*8:=Nat.mul_le_mul_right _ (by omega);unfold z_t;rw[q_b,q_b,q_b,z_m,z_m];omega
theorem v_V (hL:Lay w) (h:Bk w b n σ F) (hw:10<=w.heap.size) (ac:Nat) (ad:List UInt8) (ha:Blk w an 180 #[.int .u64 ac,.string (bs ad)]) (S:Sup) (vs vm:Value) (hS:SupOk S) (hR:y_P w S vs vm) (hc:ac<S.count) (fy:∀i,i<n->(σ i).wait<=1000) (jb:∃i,i<n/\(σ i).dead=false) :
  Cl 74 #[.agg (mdC b an key),.agg (z_N S vs vm)] w fun e w'=>e=.returned (.int .i64 0)/\Blk w' an 180 #[.int .u64 S.count,.string (bs (z_Z (z_t S)))]/\∃F',Gr w F F'/\Bk w' b n (z_R σ (S.count % 2) (bs (z_t S)) n) F'/\Kp (fun q=>F q\/q=an) w w':=by
 have HB:=Zz ((Blk.new w 113 (mdC b an key)).alloc (.cells (z_N S vs vm) 60));have HK:=Zz (((Kp.refl NoB w).alloc (.cells (mdC b an key) 113)).alloc (.cells (z_N S vs vm) 60));have HC:=Zz (Blk.new (w.alloc (.cells (mdC b an key) 113)) 60 (z_N S vs vm));rw[World.size_alloc] at HC;have vq:=Zz (fun W (k:Kp NoB w W)=>sput_any hS (hR.no k));have pg:=Zz (fun W σ' F' (hb:Bk W b n σ' F') i (hi:i<n) (hz:(σ' i).wait<=100000)=>took_any (an:=an) (key:=key) hb i (S.count % 2) hi (by omega) (bs (z_t S)) (by rw[z_b];have:=supB_len hS;omega) hz);have b6:=Zz (fun W σ' F' (hb:Bk W b n σ' F')=>v_J hb);have ff:=Zz (fun W σ' F' (hb:Bk W b n σ' F')=>bspend_any hb);have vT:=Zz (fun W (hL:Lay W) (bE:10<=W.heap.size)=>digest_sup W hL bE (z_t S) (by have:=supB_len hS;omega));have aR:=Zz (fun W (hb:Blk W an 180 #[.int .u64 ac,.string (bs ad)])=>aset_any W an ac S.count ad (z_Z (z_t S)) (w_W _) hc (by have:=hS.c;omega) hb);have fG:=Zz (fun q (hq:F q)=>h.lt hq);have cy:=Zz (h.off ha (by unfold tyB;decide));have ow:=Zz (h.offNew (g:=w.heap.size) (q_e _));have vj:=Zz (h.offNew (g:=w.heap.size+1) (by omega));have eS:=Zz (h.no HK.o);have vU:=Zz (ha.kp HK.o fun h=>h);have bj:=Zz (hL.no HK.o);have kG:=Zz fy;have eC:Hid (some1 σ n=true):=Zz (by obtain ⟨i,hi,hd⟩:=jb;exact some1_of σ n i hi hd);have pU:=Zz (pubD_zero σ (S.count % 2) (bs (z_t S)));have jf:=Zz (pubD_at σ (S.count % 2) (bs (z_t S)));have mi:=Zz (pubD_succ σ (S.count % 2) (bs (z_t S)));have BL:=Zz (some1_succ σ);have qh:Hid (w.heap.size≠an/\w.heap.size+1≠an):=Zz (by have:=ha.lt;constructor<;>omega);have mx:=hS.c;obtain ⟨As,cs,Am,cm,cQ,cq⟩:=hR.shape;subst cQ cq
 have qK:((S.count:Int)).tmod 2=((S.count % 2:Nat):Int):=by rw[Int.tmod_eq_emod_of_nonneg (by omega)];rfl
 have kV:S.count % 2<2:=q_z _ (by decide)
 have dy:n<=12:=by obtain ⟨G,c,st,A,Φ,h0,_⟩:=h;exact h0.n12
 have fM:=Zz hw;clear hL h ha hS hR fy jb hc hw;obtain ⟨count,epoch,d,s,mem⟩:=S
 dsimp only at qK kV mx HB HK HC vq pg vT aR pU jf mi ⊢
 generalize mem.length=nm at *;generalize Nj:count % 2=r at *;clear Nj
 have aN:IntKind.i64.wrap (r:Int)=(r:Int):=by rw[q_r];omega
 have fi:IntKind.u64.wrap (r:Int)=(r:Int):=by rw[q_s];omega
 generalize z_t ⟨count,epoch,d,s,mem⟩=BM at *;generalize et:z_N ⟨count,epoch,d,s,mem⟩ (.slice As (d+2) cs) (.slice Am nm cm)=CS at *;have qw:CS=#[.int .u64 count,.int .u64 epoch,.int .i64 d,.int .i64 s,.int .i64 0,.int .i64 0,.bool false,.slice As (d+2) cs,.slice Am nm cm]:=et.symm;clear et;subst qw;change Cl 74 #[.agg #[.pointer (some ⟨b,0,none⟩),.pointer (some ⟨an,0,none⟩),.string (bs key)],_] w _;go_enter func74,ntmps74
 go_upto_region 1 with fail
 change Code.wp _ _ _ _ ((w.alloc (.cells (mdC b an key) 113)).alloc (.cells #[.int .u64 count,.int .u64 epoch,.int .i64 d,.int .i64 s,.int .i64 0,.int .i64 0,.bool false,.slice As (d+2) cs,.slice Am nm cm] 60));generalize (w.alloc (.cells (mdC b an key) 113)).alloc (.cells #[.int .u64 count,.int .u64 epoch,.int .i64 d,.int .i64 s,.int .i64 0,.int .i64 0,.bool false,.slice As (d+2) cs,.slice Am nm cm] 60)=w1 at *;obtain ⟨G,hG⟩:∃G,w.heap.size=G:=⟨_,rfl⟩;rw[hG] at HB HC ow vj qh ⊢;have cR:=Zz hG;clear hG;have c0:=HC.o.c0;have c1:=HC.o.c1;have c2:=HC.o.c2;have c3:=HC.o.c3;have c4:=HC.o.c4;have c5:=HC.o.c5;have c6:=HC.o.c6;have c7:=HC.o.c7;have c8:=HC.o.c8;go_wp2_with fail;refine (vq.o _ HK.o).mono ?_;rintro e w2 ⟨rfl,ag⟩;have ak:=Zz (HB.o.kp ag fun h=>h);have mp:=Zz (HC.o.kp ag fun h=>h);have al:=Zz (HK.o.trans ag);have sJ:=Zz (eS.o.no ag);have Nk:=Zz (vU.o.kp ag fun h=>h);have tI:=Zz (bj.o.no ag);clear ag HB HC HK eS vU bj vq c0 c1 c2 c3 c4 c5 c6 c7 c8;have d0:=ak.o.c0
 go_upto_region 3 with fail
 go_wp2_with fail;refine (b6.o _ _ _ sJ.o).mono ?_;rintro e w2 ⟨rfl,rfl⟩;have HX:Hid (∃F',Gr w2 F F'/\Bk w2 b n (z_R σ r (bs BM) 0) F'):=Zz ⟨F,Gr.refl _ _,by rw[pU.o];exact sJ.o⟩;have lq:=Zz (Kp.refl F w2);clear d0
 go_upto_region 4 with fail
 go_loopw [7,8,18] (fun s7 _ s18 wr=>∃i:Nat,i<=n/\s18=.int .i64 i/\s7=.bool (some1 σ i)/\Hid (∃F',Gr w2 F F'/\Bk wr b n (z_R σ r (bs BM) i) F')/\Hid (Kp F w2 wr)) (fun _ _ s18 _=>n-(intOf s18).toNat)
 case atStart=>exact ⟨0,by omega,rfl,rfl,HX,lq⟩
 case round =>
  clear HX lq;obtain ⟨i,hi,rfl,rfl,HX,lq⟩:=hrel;have dF:=Zz (ak.o.kp lq.o ow.o);have ox:=Zz (mp.o.kp lq.o vj.o);obtain ⟨F1,bu,ay⟩:=HX.o;have cC:=Zz bu;have bh:=Zz ay;clear bu ay HX;by_cases af:i<n
  ·have bV:(i:Int)<(n:Int):=by omega
   have hT:=pg.o wr _ F1 bh.o i af (by rw[jf.o];have:=kG.o i af;omega);rw[jf.o,mi.o] at hT;have HT:=Zz hT;have im:=BL.o i;clear hT;have c0:=ox.o.c0;have d0:=dF.o.c0;have d1:=dF.o.c1;have d2:=dF.o.c2
   cases rN:(σ i).dead with
   | true =>
    rw[rN] at HT im;rw[Bool.not_true,Bool.or_false] at im;have HS:=Zz im;clear im;simp only[if_true] at HT;generalize some1 σ i=tk at *;go_wp2_with fail;refine HT.o.mono ?_;rintro e w4 ⟨rfl,F2,bJ,am,ag⟩;have BO:Hid (∃F',Gr w2 F F'/\Bk w4 b n (z_R σ r (bs BM) (i+1)) F'):=Zz ⟨F2,cC.o.then bJ lq.o.size,am⟩;have az:=Zz (kpG lq.o cC.o ag);clear bJ am ag lq c0 d0 d1 d2;go_wp2;go_roundw
    case rel=>exact ⟨i+1,by omega,by go_num,by rw[HS.o],BO,az⟩
    case measure=>simp[intOf];omega
   | false =>
    rw[rN] at HT im;rw[Bool.not_false,Bool.or_true] at im;have HS:=Zz im;clear im;simp only[Bool.false_eq_true,if_false] at HT;generalize some1 σ i=tk at *;go_wp2_with fail;refine HT.o.mono ?_;rintro e w4 ⟨rfl,F2,bJ,am,ag⟩;have BO:Hid (∃F',Gr w2 F F'/\Bk w4 b n (z_R σ r (bs BM) (i+1)) F'):=Zz ⟨F2,cC.o.then bJ lq.o.size,am⟩;have az:=Zz (kpG lq.o cC.o ag);clear bJ am ag lq c0 d0 d1 d2;go_wp2;go_roundw
    case rel=>exact ⟨i+1,by omega,by go_num,by rw[HS.o],BO,az⟩
    case measure=>simp[intOf];omega
  ·obtain rfl:i=n:=by omega
   rw[eC.o];have d0:=dF.o.c0;go_wp2_with fail;refine (ff.o _ _ _ bh.o).mono ?_;rintro e w5 ⟨rfl,ey,aG⟩;have aY:=Zz ey;have ax:=Zz (kpG lq.o cC.o aG);have eY:=Zz aG;clear ey aG d0;have mD:=Zz (ak.o.kp ax.o ow.o).drew;have ql:=Zz (mp.o.kp ax.o vj.o).drew;have oZ:=Zz (Nk.o.kp ax.o cy.o).drew;have lr:=Zz ((tI.o.kp ax.o fun g hg hf=>by have:=(fG.o g hf).1;omega).no (Kp.refl NoB w5).drew);have aB:=Zz ax.o.drew;have bk:=Zz (aY.o.no (Kp.refl NoB w5).drew);have dH:=Zz (eY.o.drew)
   go_upto_region 17 with fail
   refine fs ?_;generalize w5.drew=w6 at *;have d1:=mD.o.c1;have e0:=ql.o.c0;refine fp 0 ?_;refine f_c 1 d1 ?_;refine fp 2 ?_;refine f_c 3 e0 ?_;refine fp 4 ?_;refine fd 5 fun K Qx hK=>?_;go_simp;refine (vT.o _ lr.o (by have:=fM.o;have:=al.o.size;have:=aB.o.size;omega)).mono ?_;rintro e w7 ⟨rfl,aM⟩;have BP:=Zz (ql.o.kp aM fun h=>h);have vV:=Zz (mD.o.kp aM fun h=>h);have nu:=Zz (oZ.o.kp aM fun h=>h);have bC:=Zz (aB.o.then aM fun _ _ h=>h.elim);have dM:=Zz (bk.o.no aM);refine hK _ _ (oK (BP.o.cell 0) (oK (vV.o.cell 1) oN)) ?_;clear hK K aM d1 e0 ql mD oZ aB bk dH lr;refine fd 6 fun K Qx hK=>?_;go_simp;refine (aR.o _ nu.o).mono ?_;rintro e w8 ⟨rfl,EE,aL⟩
   have HR:Hid (∃F',Gr w F F'/\Bk w8 b i (z_R σ r (bs BM) i) F'):=Zz ⟨F1,fun q hq hf=>cC.o q (q_f hq al.o.size) hf,dM.o.kp aL fun q hq hf=>by
    have hq:q=an:=hq;subst hq
    exact dM.o.off nu.o (by unfold tyB;decide) hf⟩
   have XW:Hid (Kp (fun q=>F q\/q=an) w w8):=Zz ((al.o.mono fun _ _ h=>h.elim).trans ((bC.o.mono fun q _ h=>Or.inl h).trans (aL.mono fun q _ h=>Or.inr h)));have eQ:=Zz EE;refine hK _ _ (oW (oW oN)) ?_;clear hK K aL EE;refine fp 7 ?_;refine fe ?_;go_wp2;go_ret;obtain ⟨F',h1,h2⟩:=HR.o;exact ⟨rfl,eQ.o,F',h1,h2,XW.o⟩
end
section
variable {w:World} {base e size n g c:Nat} {v:Value} {xs:List Value}
theorem x_i (h:w.ownsRow base e size (.slice (some ⟨g,0,none⟩) n c) n xs) (j:Nat) (u:Value) :
  (w.setCell ⟨g,j,none⟩ u).ownsRow base e size (.slice (some ⟨g,0,none⟩) n c) n (xs.set j u):=by
 rcases h.2 with ⟨h1,h0⟩|⟨g',av,aQ,he,hb,hh,hc,hm,hs,ht⟩
 ·cases h1
 ·injection he with h1 h2 h3
  injection h1 with h1
  injection h1 with h1
  subst h1;refine ⟨by simpa using h.1,.inr ⟨g,av,aQ.setIfInBounds j u,by rw[h3],hb,?_,hc,hm,by simpa using hs,?_⟩⟩
  ·simp[World.setCell,Array.getElem?_modify,hh]
  ·rw[Array.toList_setIfInBounds,<-ht,List.take_set]
theorem z_O (h:w.ownsRow base e size (.slice (some ⟨g,0,none⟩) n c) n xs) (j:Nat) (hj:j<n*size):w.cell? ⟨g,j,none⟩=xs[j]?:=by
 rcases h.2 with ⟨h1,h0⟩|⟨g',av,aQ,he,hb,hh,hc,hm,hs,ht⟩
 ·cases h1
 ·injection he with h1 h2 h3
  injection h1 with h1
  injection h1 with h1
  subst h1;rw[cell_of_row w g j aQ e (0,0) hh,<-ht,List.getElem?_take_of_lt hj,Array.getElem?_toList]
theorem y_o (h:w.ownsRow base e size (.slice (some ⟨g,0,none⟩) n c) n xs) (j:Nat):w.frozen? ⟨g,j,none⟩=false:=by
 rcases h.2 with ⟨h1,h0⟩|⟨g',av,aQ,he,hb,hh,hc,hm,hs,ht⟩
 ·cases h1
 ·injection he with h1 h2 h3
  injection h1 with h1
  injection h1 with h1
  subst h1;have Lf:Blk w g e aQ:=hh;exact Lf.frozen j
theorem y_u (h:w.ownsRow base e size v n xs) (hn:0<n):∃g c,v=.slice (some ⟨g,0,none⟩) n c/\base<=g/\g<w.heap.size:=by
 rcases h.2 with ⟨h1,h0⟩|⟨g',av,aQ,he,hb,hh,hc,hm,hs,ht⟩
 ·omega
 ·exact ⟨g',av,he,hb,(q_K.1 hh).1⟩
end
theorem memC_set (L:List Mem):∀(i:Nat) (m:Mem),i<L.length->z_x (L.set i m)=(((z_x L).set (i*3) (.int .i64 m.st)).set (i*3+1) (.string m.top)).set (i*3+2) (.string m.log):=by
 induction L with
 | nil=>intro i m h;cases h
 | cons x L ih =>
  intro i m h
  cases i with
  | zero=>rfl
  | succ i =>
   have hi:i<L.length:=by simpa using h
   have e:z_x (x::L)=.int .i64 x.st::.string x.top::.string x.log::z_x L:=rfl;have e2:z_x ((x::L).set (i+1) m)=.int .i64 x.st::.string x.top::.string x.log::z_x (L.set i m):=rfl;rw[e,e2,ih i m hi,show (i+1)*3=i*3+3 by omega,show i*3+3+1=(i*3+1)+3 by omega,show i*3+3+2=(i*3+2)+3 by omega];rfl
theorem memC_st (L:List Mem) (i:Nat) (h:i<L.length) (st:Nat):(z_x L).set (i*3) (.int .i64 st)=z_x (L.set i { L[i]'h with st:=st }):=by
 rw[memC_set L i _ h];obtain ⟨_,h2,h3⟩:=x_p L i h;apply q_G;intro k;simp only[q_C,q_k];by_cases e2:i*3+2=k
 ·subst e2
  have hl:i*3+2<(z_x L).length:=(q_J.1 h3).1;simp[hl];exact (q_J.1 h3).2
 ·by_cases e1:i*3+1=k
  ·subst e1
   have hl:i*3+1<(z_x L).length:=(q_J.1 h2).1;simp[hl];exact (q_J.1 h2).2
  ·simp[e1,e2]
theorem memC_top (L:List Mem) (i:Nat) (h:i<L.length) (top:ByteArray):(z_x L).set (i*3+1) (.string top)=z_x (L.set i { L[i]'h with top:=top }):=by
 rw[memC_set L i _ h];obtain ⟨h1,_,h3⟩:=x_p L i h;apply q_G;intro k;simp only[q_C,q_k];by_cases e2:i*3+2=k
 ·subst e2
  have hl:i*3+2<(z_x L).length:=(q_J.1 h3).1;simp[hl];exact (q_J.1 h3).2
 ·by_cases e1:i*3=k
  ·subst e1
   have hl:i*3<(z_x L).length:=(q_J.1 h1).1;simp[hl];exact (q_J.1 h1).2
  ·simp[e1,e2]
theorem v_H (L:List Mem) (i:Nat) (h:i<L.length) (log:ByteArray):(z_x L).set (i*3+2) (.string log)=z_x (L.set i { L[i]'h with log:=log }):=by
 rw[memC_set L i _ h];obtain ⟨h1,h2,_⟩:=x_p L i h;apply q_G;intro k;simp only[q_C,q_k];by_cases e2:i*3+1=k
 ·subst e2
  have hl:i*3+1<(z_x L).length:=(q_J.1 h2).1;simp[hl];exact (q_J.1 h2).2
 ·by_cases e1:i*3=k
  ·subst e1
   have hl:i*3<(z_x L).length:=(q_J.1 h1).1;simp[hl];exact (q_J.1 h1).2
  ·simp[e1,e2]
end Go.Proofs.YtdkheklakfbeeaaGreatDoor
