/- Part 18 of the proof. -/
import Derived.Test.YtdkheklakfbeeaaGreatDoorM17
set_option linter.all false
set_option maxRecDepth 100000
set_option maxHeartbeats 16000000
namespace Go.Proofs.YtdkheklakfbeeaaGreatDoor
open Go.RowKit Tryz
section
open GfM
theorem clr_step (m:List (List UInt8)) (r c:Nat) (hr:r<m.length) (q:Nat):clr (fun q=>m.getD q []) r c c q=(clearStep m c r).getD q []:=by
 unfold clr clearStep;by_cases e:r=c
 ·rw[if_pos e,if_pos e]
 ·rw[if_neg e,if_neg e]
  unfold addM;rw[w_I _ _ _ _ hr];unfold upd;by_cases h:q=r
  ·rw[if_pos h,if_pos h];rfl
  ·rw[if_neg h,if_neg h]
theorem invert_any (w:World) (va:Value) (A:List (List UInt8)) (hA:x_h w va A) :
  Cl 157 #[va] w fun e w'=>∃v X e0,e=.returned (.tuple #[v,.int .i64 e0])/\x_h w' v X/\InvR A X e0/\Below w.heap.size w w':=by
 have qB:=good_any w va A hA;by_cases gA:y_r A=true
 ·obtain ⟨a1,a2,a3,a4,aS⟩:=(w_N A).1 gA
  obtain ⟨ba,oa,ca,rfl,MF,Ru⟩:=hA.at_ (by omega);by_cases Bw:A.length=(A.getD 0 []).length
  ·have aO:∀X e,InvOut A A.length X e->InvR A X e:=fun X e h=>.done gA Bw h
   have DA:(((A.length:Nat):Int) != (((A.getD 0 []).length:Nat):Int))=false:=by rw[<-Bw];simp
   rw[gA] at qB;have qh:=Zz qB;clear qB;have hS:Shp A A.length A.length:=⟨rfl,fun r hr=>by rw[aS.2 r hr,<-Bw]⟩;have IK:=fun W (h:Below w.heap.size w W)=>(hA.below h).rowAt 0 (by omega);clear gA aS a3 a4 Bw;have DQ:=w_p hS;obtain ⟨n,hn⟩:∃n,A.length=n:=⟨_,rfl⟩;rw[hn] at a1 a2 MF qh hA aO DA hS DQ ⊢;generalize (A.getD 0 []).length=q at *;have gV:=make_rows n (by omega);have HN:=Zz hn;clear hn;have HF:=Zz aO;clear aO;have HS:=Zz hS;clear hS;have Xp:=Zz DQ;clear DQ;go_enter func157,ntmps157;go_wp2_with fail;refine qh.o.mono ?_;rintro e w1 ⟨rfl,ay⟩;obtain ⟨A0,c0,gy,_,_⟩:=IK _ ay;rw[Nat.add_zero] at gy;go_wp2_with fail;have bx:=below_alloc ay (.cells (madeCells #[.slice none 0 0] n) 105);have tu:=OM.made w1 n (fun r=>(aug A n).getD r []);obtain ⟨G,hG⟩:∃G,w1.heap.size=G:=⟨_,rfl⟩
   have om:w.heap.size<=G:=by have:=ay.size;omega
   rw[hG] at tu ⊢;clear gV gy IK hG ay;have bx:=Zz bx
   go_loopw [6,31] (fun _ s31 wr=>∃i:Nat,i<=n/\s31=.int .i64 i/\OM wr G G n i (fun r=>(aug A n).getD r [])/\Below w.heap.size w wr) (fun _ s31 _=>n-(intOf s31).toNat)
   case atStart=>exact ⟨0,by omega,rfl,tu,bx.o⟩
   case round =>
    clear tu bx;obtain ⟨i,hi,rfl,hM,hB⟩:=hrel;by_cases af:i<n
    ·obtain ⟨x1,y1,ew,nj,Ir⟩:=(hA.below hB).rowAt i (by rw[HN.o];exact af)
     have kz:=HS.o.2 i af;have Rv:=aug_row A n i af;rw[kz] at ew nj;have co:=clone_any wr (A.getD i []) x1 y1 Ir (by omega) (by omega);rw[kz] at co;have kB:=Zz co;clear co Ir;have HL:=Zz kz;clear kz;have Xq:=Zz Rv;clear Rv;have xU:=hM.lt;go_wp2_with fail;refine kB.o.mono ?_;rintro e w2 ⟨v,rfl,hO,am⟩;have HO:=Zz hO;clear hO
     have qC:=fun v w3 h1 h2=>hM.push (w3:=w3) (v:=v) (l:=A.getD i []++List.replicate n 0) h1 h2 (j:=n+i) (by rw[q_b,q_w,HL.o];omega) af 1 (fun r=>(aug A n).getD r []) (fun r hr=>by
      rw[aug_set _ _ _ HL.o];unfold upd;by_cases e:r=i
      ·subst e;rw[if_pos rfl,Xq.o]
      ·rw[if_neg e])
     rw[q_b,HL.o,q_w] at qC;generalize (A.getD i []++List.replicate n 0).getD (n+i) 0=gW at *;have yl:=Zz qC;clear qC
     have vA:(A.getD i []).length+n<=140737488355328:=by rw[HL.o];omega
     have DZ:=Zz vA;clear vA
     go_wp2_with (at_builtin;refine append_zeros8 wr.heap.size rfl (.tmp 40) (.tmp 41) 105 3 rfl underlying105 underlying3 info5 _ (A.getD i []) .i64 n rfl rfl HO.o am am.size DZ.o ?_;intro v1 w3 iT lj _ _;obtain ⟨g1,k1,rfl,t1,t2,t3,t4,t5,t6,t7,t8,t9,Rw,t11,t12,cZ⟩:=yl.o _ _ lj iT;have dj:=Zz cZ;clear iT cZ)
     go_roundw
     case rel=>exact ⟨i+1,by omega,by go_num,dj.o,((z_G hB hB.size lj).setCell (by simp;omega) _).setCell (by simp;omega) _⟩
     case measure=>simp[intOf];omega
    ·obtain rfl:i=n:=by omega
     obtain ⟨wo,rfl⟩:∃wo:World,wo=wr:=⟨_,rfl⟩;go_wp2
     go_loopw [7,8,9,10,11,54,106] (fun _ _ _ _ _ s54 _ wi=>∃(c:Nat) (m:List (List UInt8)),c<=i/\s54=.int .i64 c/\OM wi G G i i (fun r=>m.getD r [])/\Hid (Shp m i (2*i)/\GfM.Steps i (aug A i) m/\GfM.Unit i c m)/\Below w.heap.size w wi) (fun _ _ _ _ _ s54 _ _=>i-(intOf s54).toNat)
     case atStart=>exact ⟨0,aug A i,by omega,rfl,hM,Zz ⟨Xp.o,.refl _,fun r j _ hj=>absurd hj (by omega)⟩,hB⟩
     case round =>
      clear hM hB;obtain ⟨c,m,hc,rfl,hM,HP,hB⟩:=hrel;by_cases hlc:c<i
      ·have ge:=fun W (Ms:OM W G G i i fun r=>m.getD r []) (hp:Blk W wr.heap.size 3 #[.int .i64 c])=>find_any Ms (by omega) c hlc (fun r hr=>by rw[HP.o.1.2 r hr];omega) _ hp
       have hsp:=v_W (i-c) (fun r=>decide ((m.getD (c+r) []).getD c 0≠0)) 0;rcases hsp with ⟨e1,e2⟩|⟨j,_,hj,e1,e2⟩
       ·rw[e1] at ge
        have hz:∀r,c<=r->r<i->en m r c=0:=fun r h1 h2=>by
         have:=e2 (r-c) (by omega) (by omega);rw[show c+(r-c)=r by omega] at this;simpa[en] using this
        have aO:=HF.o _ _ (InvOut.sing HP.o.2.1 hlc HP.o.2.2 hz);have vB:=Zz aO;clear aO e1 e2 hz;have MI:=Zz ge;clear ge;go_wp2_with fail;refine (MI.o _ (hM.alloc _) (Blk.new _ _ _)).mono ?_;rintro e w2 ⟨rfl,rfl⟩;go_wp2;go_ret2;exact ⟨_,_,_,rfl,x_h.nil_ _,vB.o,hB.alloc hB.size _⟩
       ·rw[e1] at ge
        have aA:en m (c+j) c≠0:=by simpa[en] using e2
        obtain ⟨hS,Rx,hU⟩:=HP.o
        have jI:c+j<i:=by omega
        have Bx:=swap_shp hS hlc jI;have ym:=Rx.swap hlc jI;have MJ:=hU.swap hS hlc (Nat.le_add_right c j) jI
        have qD:en (w_Y m c (c+j)) c c≠0:=by
         rw[en_swap hS hlc jI];by_cases h:c=c+j
         ·rw[if_pos h];rw[<-h] at aA;exact aA
         ·rw[if_neg h,if_pos rfl];exact aA
        have D1:∀W,OM W G G i i (fun r=>m.getD r [])->Blk W wr.heap.size 3 #[.int .i64 c]->Below w.heap.size w W->Cl 215 #[.slice (some ⟨G,c,none⟩) (i-c) (i-c),.func (.func 216) #[] #[.pointer (some ⟨wr.heap.size,0,none⟩)]] W fun e w'=>e=.returned (.int .i64 j)/\OM w' G G i i (fun r=>m.getD r [])/\Blk w' wr.heap.size 3 #[.int .i64 c]/\Below w.heap.size w w':=fun W h1 h2 h3=>(ge W h1 h2).mono fun _ _ h=>⟨h.1,h.2▸h1,h.2▸h2,h.2▸h3⟩;have MI:=Zz D1;clear ge D1 e1 e2 aA Rx hU HP;go_wp2_with fail;refine (MI.o _ (hM.alloc _) (Blk.new _ _ _) (hB.alloc hB.size _)).mono ?_;clear hM hB;obtain ⟨p,hp⟩:∃p,wr.heap.size=p:=⟨_,rfl⟩;rw[hp];rintro e w2 ⟨rfl,hM,cJ,hB⟩;have vz:=cJ.cell 0;have cE:=cJ.lt;have xU:=hM.lt;have IL:=hM.frozen c;have IM:=hM.frozen (c+j)
        have r8:p≠G:=fun e=>by
         obtain ⟨_,_,gs,ks,h3,_⟩:=hM;unfold Blk at h3 cJ;rw[e,h3] at cJ;injection cJ with cJ;injection cJ with _ ht;exact absurd ht (by decide)
        obtain ⟨ga,ka,gb,kb,aK,bf,tu⟩:=hM.swap hlc jI;have ij:=(cJ.far (p:=⟨G,c,none⟩) r8 (.slice (some ⟨gb,0,none⟩) (m.getD (c+j) []).length kb)).far (p:=⟨G,c+j,none⟩) r8 (.slice (some ⟨ga,0,none⟩) (m.getD c []).length ka);have dO:=(hB.setCell (by simp;omega) (p:=⟨G,c,none⟩) (.slice (some ⟨gb,0,none⟩) (m.getD (c+j) []).length kb)).setCell (by simp;omega) (p:=⟨G,c+j,none⟩) (.slice (some ⟨ga,0,none⟩) (m.getD c []).length ka)
        have ez:=tu.congr (row':=fun r=>(w_Y m c (c+j)).getD r []) fun r hr=>by
         show _=((m.set c (m.getD (c+j) [])).set (c+j) (m.getD c [])).getD r [];rw[w_I _ _ _ _ (by rw[q_k,hS.1];exact jI),w_I _ _ _ _ (by rw[hS.1];exact hlc)];unfold upd;rfl
        rw[hS.2 c hlc] at aK ez ij dO;rw[hS.2 (c+j) jI] at bf ez ij dO;have dV:=Zz ez;clear ez tu;have kC:=Zz ij;clear ij;have ak:=Zz dO;clear dO
        have jT:c+j<=1000:=by omega
        have MK:(j:Int)<=16:=by omega
        have aN:wrap64 ((c:Int)+(j:Int))=((c+j:Nat):Int):=w64_add c j jT;have fi:IntKind.i64.wrap ((c:Int)+(j:Int))=((c+j:Nat):Int):=i64_add c j jT;obtain ⟨xx,Ry⟩:=hM.cell_set c jI (.slice (some ⟨gb,0,none⟩) (2*i) kb);obtain ⟨cj,D2⟩:∃cj,c+j=cj:=⟨_,rfl⟩;rw[D2] at bf Ry dV kC ak aN fi jI Bx ym MJ qD IM;clear hM hB hS jT;have Bm:G≠p:=fun e=>r8 e.symm
        go_upto_region 19 with fail
        go_cut [] (fun wx=>OM wx G G i i (fun r=>(w_Y m c cj).getD r [])/\Blk wx p 3 #[.int .i64 c]/\Below w.heap.size w wx)
        case first =>
         as_aux_lemma =>
          go_region
          go_wp2_with fail
          go_meet
          exact ⟨dV.o.drew,kC.o.drew,ak.o.drew⟩
        case rest =>
        obtain ⟨hM,cJ,hB⟩:=hcut;obtain ⟨W,Rz⟩:∃W,W=wc:=⟨_,rfl⟩;rw[<-Rz] at hM cJ hB ⊢;clear Rz dV kC ak vz cE xU IL IM aK bf Ry aN fi MK jI D2;generalize w_Y m c cj=m1 at *;have gY:=Bx.2 c hlc;obtain ⟨g,k0,bu,bJ,eW,_,_,ln,_,_⟩:=hM.elem c c hlc (by rw[gY];omega)
        have D3:z_g W (.slice (some ⟨g,0,none⟩) (2*i) k0) (bv (m1.getD c [])):=by
         obtain ⟨g',k',tw,_,_,Bb⟩:=hM.rowAt c hlc;rw[bu] at tw;injection tw with tw;have:=Bb.reads;rw[<-tw,gY] at this;exact this
        have D4:=Bx.1;have tz:=Zz D4;clear D4;have vz:=cJ.cell 0;have D5:=fun W=>inv_any _ ((m1.getD c []).getD c 0) rfl W;rw[if_neg (show (m1.getD c []).getD c 0≠0 from qD)] at D5;have bV:=inv_ne qD;rw[gY] at bu ln;have aH:=w_L.start MJ Bx hlc qD;have ML:=scale_shp Bx hlc (inv (en m1 c c));have MM:=ym.scale hlc bV;unfold en at aH ML MM bV;clear qD MJ Bx ym;generalize (m1.getD c []).getD c 0=Xr at *;generalize inv Xr=iv at *;have D5:=fun W=>(D5 W).mono fun _ _ h=>(⟨h.1,h.2.symm⟩:_/\_);have tA:=Zz D5;clear D5;have oU:=Zz aH;clear aH;have ee:=Zz ML;clear ML;have eZ:=Zz MM;clear MM
        have Ql:(c:Int)<((2*i:Nat):Int):=by omega
        have sD:(c:Int)<2*(i:Int):=by omega
        have MN:c<2*i:=by omega
        go_upto_region 20 with fail
        go_cut [9,10] (fun s9 s10 wx=>s9=.int .u8 iv.toNat/\OM wx G G i i (fun r=>m1.getD r [])/\Blk wx p 3 #[.int .i64 c]/\Below w.heap.size w wx/\wx.cell? ⟨G,c,none⟩=some (.slice (some ⟨g,0,none⟩) (2*i) k0)/\z_g wx (.slice (some ⟨g,0,none⟩) (2*i) k0) (bv (m1.getD c [])))
        case first =>
         as_aux_lemma =>
          go_quiet ((go_at_call 217;exact Calls.quiet_of_same (tA.o _)))
          go_wp2_with fail
          go_meet
          exact ⟨rfl,hM.drewN nq,cJ.drewN nq,below_drewN hB nq,bu,D3⟩
        case rest =>
        clear hM cJ hB bu D3;obtain ⟨rfl,hM,cJ,hB,bu,D3⟩:=hcut;clear tA Ql sD MN bJ eW;have eq:=y_b (P:=prog) (src:=105) (dst:=9) underlying105 underlying5 underlying9 D3.drew;clear D3
        have r9:=fun W' (h1:OM W' G G i i fun r=>m1.getD r []) (h2:Blk W' p 3 #[.int .i64 c])=>scale_row h1 hlc gY (by omega) iv h2 (fun r=>(w_D m1 c iv).getD r []) (fun r hr=>by
         show _=(m1.set c ((m1.getD c []).map (mul iv))).getD r [];rw[w_I _ _ _ _ (by rw[tz.o];exact hlc)]
         rfl)
        generalize w_D m1 c iv=m2 at *;have fK:=Zz r9;clear r9 gY;generalize bs (m1.getD c [])=s1 at *;have vz:=cJ.cell 0
        go_upto_region 21 with fail
        go_cut [9] (fun s9 wx=>OM wx G G i i (fun r=>m2.getD r [])/\Blk wx p 3 #[.int .i64 c]/\Below w.heap.size w wx)
        case first =>
         refine region_scale (by kernel_rfl) _ ?hQ _ _ rfl G i c p hlc iv s1 rfl rfl rfl _ vz bu eq
          (fun w'=>OM w' G G i i (fun r=>m2.getD r [])/\Blk w' p 3 #[.int .i64 c]/\Below w.heap.size w w') ?_ ?_
         case hQ =>
          intro c0 a0 d0 v0 x0 h;simp only[Exit.then,Exit.inBlock] at h ⊢
          first
           | exact h
           | (simp +zetaDelta only[Exit.then,Exit.inBlock,bodyPost] at h ⊢;exact h)
           | (simp +zetaDelta [Exit.then,Exit.inBlock,bodyPost] at h)
         ·refine (fK.o _ hM.drew cJ.drew).mono ?_
          rintro e w3 ⟨s2,g2,k2,W4,y4,rfl,t1,t2,t3,t4,t5,t6,t7,t8,t9,Rw⟩;exact ⟨s2,_,_,_,W4,y4,rfl,t1,t2,t3,t4,t5,t7,t8,t9,(hB.drew.trans (Rw.mono om):_)⟩
         ·intro _ _ _ _ _ _ _ _ _ _ _ w' hR
          simp only[frS,Act.put,q_A,List.set_cons_zero,List.set_cons_succ];go_wp2_with fail
          go_meet
          exact hR
        case rest =>
        clear hM cJ hB fK bu eq vz;obtain ⟨hM,cJ,hB⟩:=hcut;go_wp2
        go_loopw [11,106] (fun _ s106 wk=>∃(r:Nat) (m3:List (List UInt8)),r<=i/\s106=.int .i64 r/\OM wk G G i i (fun q=>m3.getD q [])/\Hid (Shp m3 i (2*i)/\GfM.Steps i (aug A i) m3/\w_L i c r m3)/\Blk wk p 3 #[.int .i64 c]/\Below w.heap.size w wk) (fun _ s106 _=>i-(intOf s106).toNat)
        case atStart=>exact ⟨0,m2,by omega,rfl,hM,Zz ⟨ee.o,eZ.o,oU.o⟩,cJ,hB⟩
        case round =>
         clear hM cJ hB oU ee eZ;obtain ⟨r,m3,hr,rfl,hM,HC,cJ,hB⟩:=hrel;by_cases pS:r<i
         ·have D6:=clearRow_any wr G G i (2*i) (fun q=>m3.getD q []) hM (fun q hq=>HC.o.1.2 q hq) r c c pS hlc (by omega) (by omega) (by omega)
          have D7:Cl 218 #[.slice (some ⟨G,0,none⟩) i i,.int .i64 r,  .int .i64 c,.int .i64 c] wr fun e w'=>e=.returned (.tuple #[])/\OM w' G G i i (fun q=>(clearStep m3 c r).getD q [])/\Blk w' p 3 #[.int .i64 c]/\Below w.heap.size w w' :=
           D6.mono fun e w' h=>⟨h.1,h.2.1.congr fun q _=>clr_step m3 r c (by rw[HC.o.1.1];exact pS) q,h.2.2.2 _ _ _ (by decide) cJ,hB.trans (h.2.2.1.mono om)⟩
          have kB:=Zz D7;clear D6 D7;have qt:=Zz (⟨clearStep_shp HC.o.1 hlc pS,HC.o.2.1.clearStep hlc pS,HC.o.2.2.step HC.o.1 hlc pS⟩:Shp (clearStep m3 c r) i (2*i)/\GfM.Steps i (aug A i) (clearStep m3 c r)/\w_L i c (r+1) (clearStep m3 c r));have vz:=cJ.cell 0;clear hM cJ;generalize clearStep m3 c r=m4 at *;go_wp2_with fail;refine kB.o.mono ?_;rintro e w5 ⟨rfl,yp,MO,Cz⟩;go_wp2;go_roundw
          case rel=>exact ⟨r+1,m4,by omega,by go_num,yp,qt,MO,Cz⟩
          case measure=>simp[intOf];omega
         ·obtain rfl:r=i:=by omega
          have HD:=Zz HC.o.2.2.done;go_wp2;go_roundw
          case rel=>exact ⟨c+1,m3,by omega,by go_num,hM,Zz ⟨HC.o.1,HC.o.2.1,HD.o⟩,hB⟩
          case measure=>simp[intOf];omega
      ·obtain rfl:c=i:=by omega
       have aO:=HF.o _ _ (InvOut.ok HP.o.2.1 HP.o.2.2);obtain ⟨gs,ks,RA⟩:=hM.cuts HP.o.1;have vB:=Zz aO;clear aO hM;go_wp2
       go_loopw [12,118] (fun _ s118 wk=>∃r:Nat,r<=c/\s118=.int .i64 r/\Hid (Cuts wk G G c r gs ks m)/\Below w.heap.size w wk) (fun _ s118 _=>c-(intOf s118).toNat)
       case atStart=>exact ⟨0,by omega,rfl,Zz RA,hB⟩
       case round =>
        clear RA hB;obtain ⟨r,hr,rfl,RB,hB⟩:=hrel;by_cases pS:r<c
        ·obtain ⟨q1,q2,q3,q4,q5,q6⟩:=RB.o.next pS
         have By:=Zz q6;clear q6
         have ew:IntKind.i64.wrap (2*(c:Int))=((2*c:Nat):Int):=by rw[q_r];omega
         have eN:2*c-c=c:=by omega
         have kC:=Zz eN;clear eN;go_wp2;go_roundw
         case rel=>exact ⟨r+1,by omega,by go_num,by rw[kC.o];exact By,hB.setCell (by simp;omega) _⟩
         case measure=>simp[intOf];omega
        ·obtain rfl:r=c:=by omega
         have hR:=RB.o.done (by omega);go_wp2;go_ret2;exact ⟨_,_,_,rfl,hR,vB.o,hB⟩
  ·have aO:=InvR.shape gA Bw
   have DA:(((A.length:Nat):Int) != (((A.getD 0 []).length:Nat):Int))=true:=by rw[bne_iff_ne];omega
   rw[gA] at qB;have qh:=Zz qB;clear qB;have IK:=fun W (h:Below w.heap.size w W)=>(hA.below h).rowAt 0 (by omega);have vB:=Zz aO;clear aO Bw aS;generalize (A.getD 0 []).length=q at *;generalize A.length=n at *;go_enter func157,ntmps157;go_wp2_with fail;refine qh.o.mono ?_;rintro e w1 ⟨rfl,ay⟩;obtain ⟨A0,c0,gy,_,_⟩:=IK _ ay;rw[Nat.add_zero] at gy;go_wp2;go_ret2;exact ⟨_,_,_,rfl,x_h.nil_ _,vB.o,ay⟩
 ·have gA':y_r A=false:=by simpa using gA
  have aO:=InvR.bad gA';rw[gA'] at qB;have qh:=Zz qB;clear qB gA gA';have HF:=Zz aO;clear aO;go_enter func157,ntmps157;go_wp2_with fail;refine qh.o.mono ?_;rintro e w1 ⟨rfl,ay⟩;go_wp2;go_ret2;exact ⟨_,_,_,rfl,x_h.nil_ _,HF.o,ay⟩
end
section
open GfM
theorem index_apply (w:World) (v:Value) (xs:List Value) (hv:z_g w v xs) (a:Addr) (p:Nat->Bool)
  (hF:∀r,r<xs.length->Cl 219 #[xs.getD r undef,.pointer (some a)] w fun e w'=>e=.returned (.bool (p r))/\w=w') :
  Cl 159 #[v,.func (.func 219) #[] #[.pointer (some a)]] w fun e w'=>e=.returned (.int .i64 (y_e xs.length p 0))/\w=w':=by
 obtain ⟨A,c,rfl,aK,bf,aa⟩:=hv;have HC:=Zz aa;clear aa;have HF:=Zz hF;clear hF;obtain ⟨n,hn⟩:∃n,xs.length=n:=⟨_,rfl⟩;rw[hn] at aK ⊢;have HN:=Zz hn;clear hn;go_enter func159,ntmps159;go_wp2
 go_loop [5,8] (fun _ s8=>∃i:Nat,i<=n/\s8=.int .i64 i/\y_e (n-i) p i=y_e n p 0) (fun _ s8=>n-(intOf s8).toNat)
 case atStart=>exact ⟨0,by omega,rfl,by simp⟩
 case round =>
  obtain ⟨i,hi,rfl,hg⟩:=hrel;have HG:=Zz hg;clear hg;by_cases af:i<n
  ·have bt:i<xs.length:=by rw[HN.o];exact af
   obtain ⟨b,off,rfl,aa⟩:=HC.o (by omega);have hx:=aa i bt;rw[q_d bt] at hx;have hf:=HF.o i bt;rw[q_a,q_d bt] at hf;simp only[Option.getD_some] at hf;generalize xs[i]=x at *;have HX:=Zz hf;clear hf aa;by_cases hp:p i=true
   ·have hh:=v_8 n i p af hp
    have HH:=Zz hh;clear hh;rw[hp] at HX;clear hp;go_wp2_with fail;refine (HX.o).mono ?_;rintro e w' ⟨rfl,rfl⟩;go_wp2;go_ret;exact ⟨by rw[<-HG.o,HH.o];rfl,rfl⟩
   ·have pW:p i=false:=by simpa using hp
    have hh:=v_Z n i p af pW;have HH:=Zz hh;clear hh;rw[pW] at HX;clear hp pW;go_wp2_with fail;refine (HX.o).mono ?_;rintro e w' ⟨rfl,rfl⟩;go_wp2
    go_round
    case rel=>exact ⟨i+1,by omega,by go_num,by rw[<-HH.o];exact HG.o⟩
    case measure=>simp[intOf];omega
  ·obtain rfl:i=n:=by omega
   go_wp2;go_ret;refine ⟨?_,rfl⟩;rw[<-HG.o,Nat.sub_self];rfl
theorem contains_apply (w:World) (v:Value) (xs:List Value) (hv:z_g w v xs) (a:Addr) (p:Nat->Bool)
  (hF:∀r,r<xs.length->Cl 219 #[xs.getD r undef,.pointer (some a)] w fun e w'=>e=.returned (.bool (p r))/\w=w') :
  Cl 102 #[v,.func (.func 219) #[] #[.pointer (some a)]] w fun e w'=>e=.returned (.bool (decide (0<=y_e xs.length p 0)))/\w=w':=by
 have hc:=index_apply w v xs hv a p hF;generalize y_e xs.length p 0=z at *;have HC:=Zz hc;clear hc hF hv;go_enter func102,ntmps102;go_wp2_with fail;refine (HC.o).mono ?_;rintro e w' ⟨rfl,rfl⟩;go_wp2
 all_goals (go_ret;exact ⟨rfl,rfl⟩)
def z_4 (A:List (List UInt8)) (T:List ByteArray) (n r:Nat):Nat->List UInt8
 | 0=>List.replicate n 0
 | i+1=>z_H (z_4 A T n r i) ((tb T i).map (mul (en A r i)))
theorem apRow_length (A:List (List UInt8)) (T:List ByteArray) (n r i:Nat) (h:∀j,j<i->(tl T j).size=n):(z_4 A T n r i).length=n:=by
 induction i with
 | zero=>simp[z_4]
 | succ i ih=>rw[z_4,x_8,ih (fun j hj=>h j (by omega)),q_i,x_r,h i (by omega),Nat.min_self]
theorem apRow_at (A:List (List UInt8)) (T:List ByteArray) (n r i k:Nat) (h:∀j,j<i->(tl T j).size=n) (hk:k<n):(z_4 A T n r i).getD k 0=sx i (fun c=>mul (en A r c) ((tb T c).getD k 0)):=by
 induction i with
 | zero=>simp[z_4,sx,hk]
 | succ i ih =>
  have h':∀j,j<i->(tl T j).size=n:=fun j hj=>h j (by omega)
  have hl:k<(tb T i).length:=by rw[x_r,h i (by omega)];exact hk
  rw[z_4,sx,xorL_at _ _ _ (by rw[apRow_length A T n r i h'];exact hk) (by rw[q_i];exact hl),ih h',getD_map _ _ _ hl]
open Classical in
noncomputable def apE (A:List (List UInt8)) (T:List ByteArray):Int :=
 if y_r A=false then 4 else if T.length≠(A.getD 0 []).length\/¬Evn T then 7 else if 65536<(tl T 0).size then 5 else 0
def apL (A:List (List UInt8)) (T:List ByteArray):List ByteArray:=(List.range A.length).map fun r=>bs (z_4 A T (nn T) r T.length)
open Classical in
noncomputable def apT (A:List (List UInt8)) (T:List ByteArray):List ByteArray:=if apE A T=0 then apL A T else []
theorem apE_of {A:List (List UInt8)} {T:List ByteArray} (h1:y_r A=true) (h2:T.length=(A.getD 0 []).length) (h3:∀j,j<T.length->(tl T j).size=nn T) (h4:nn T<=65536):apE A T=0:=by
 unfold apE;rw[if_neg (by rw[h1];decide),if_neg (by rintro (h|h);exact h h2;exact h h3),if_neg (by unfold nn at h4;omega)]
theorem v_d (A:List (List UInt8)) (T:List ByteArray):(apL A T).length=A.length:=by simp[apL]
theorem apL_at (A:List (List UInt8)) (T:List ByteArray) (r:Nat) (h:r<A.length):tl (apL A T) r=bs (z_4 A T (nn T) r T.length):=by
 unfold tl apL;rw[q_a,q_j,q_n h];rfl
theorem z_g.texts2 {w:World} {v:Value} {T:List ByteArray} (h:z_g w v (sv T)) :
  ∃A c,v=.slice A T.length c/\T.length<=c/\c<=9223372036854775807/\(0<T.length->∃b off,A=some ⟨b,off,none⟩/\∀j,j<T.length->w.cell? ⟨b,off+j,none⟩=some (.string (tl T j))):=by
 obtain ⟨A,c,rfl,h1,h2,h3⟩:=h;rw[z_c] at *;refine ⟨A,c,rfl,h1,h2,fun hp=>?_⟩;obtain ⟨b,off,rfl,hc⟩:=h3 hp;exact ⟨b,off,rfl,fun j hj=>by rw[hc j hj,y_y T j hj]⟩
theorem applyc_any (w:World) (T:List ByteArray) (v:Value) (a:Addr) (hv:z_g w v (sv T)) (ha:w.cell? a=some v) (hT:0<T.length) (s:ByteArray) :
  Cl 219 #[.string s,.pointer (some a)] w fun e w'=>e=.returned (.bool (decide (s.size≠(tl T 0).size)))/\w=w':=by
 obtain ⟨A,c,rfl,aK,bf,h3⟩:=hv;rw[z_c] at *;obtain ⟨b,off,rfl,hc⟩:=h3 hT;have gy:=hc 0 hT;rw[y_y T 0 hT,Nat.add_zero] at gy;clear hc h3;generalize tl T 0=s0 at *;generalize T.length=n at *;by_cases h:s.size=s0.size
 ·have hb:(((s.size:Nat):Int) != ((s0.size:Nat):Int))=false:=by rw[h];simp
  have e:decide (s.size≠s0.size)=false:=q_v (fun x=>x h);rw[e];clear e;go_enter func219,ntmps219;go_wp2;go_ret;exact ⟨rfl,rfl⟩
 ·have hb:(((s.size:Nat):Int) != ((s0.size:Nat):Int))=true:=by rw[bne_iff_ne];omega
  have e:decide (s.size≠s0.size)=true:=decide_eq_true h;rw[e];clear e;go_enter func219,ntmps219;go_wp2;go_ret;exact ⟨rfl,rfl⟩
theorem odd_any (w:World) (T:List ByteArray) (v:Value) (a:Addr) (hv:z_g w v (sv T)) (ha:w.cell? a=some v) (hT:0<T.length) :
  (Evn T->Cl 102 #[v,.func (.func 219) #[] #[.pointer (some a)]] w fun e w'=>e=.returned (.bool false)/\w=w') /\
  (¬Evn T->Cl 102 #[v,.func (.func 219) #[] #[.pointer (some a)]] w fun e w'=>e=.returned (.bool true)/\w=w'):=by
 have hc:=contains_apply w v (sv T) hv a (fun r=>decide ((tl T r).size≠(tl T 0).size)) (fun r hr=>by
  rw[z_c] at hr
  have e:(sv T).getD r undef=.string (tl T r):=by rw[q_a,y_y T r hr];rfl
  rw[e]
  exact applyc_any w T v a hv ha hT (tl T r))
 have hs:=v_W (sv T).length (fun r=>decide ((tl T r).size≠(tl T 0).size)) 0;rw[q_D] at hs;constructor
 ·intro he
  refine hc.mono fun e w' h=>⟨?_,h.2⟩;rw[h.1];rcases hs with ⟨e1,_⟩|⟨j,_,h2,_,h4⟩
  ·rw[e1];rfl
  ·rw[z_c] at h2
   exact absurd (he j h2) (of_decide_eq_true h4)
 ·intro he
  refine hc.mono fun e w' h=>⟨?_,h.2⟩;rw[h.1];rcases hs with ⟨_,e2⟩|⟨j,_,_,h3,_⟩
  ·exfalso
   apply he;intro i hi;have:=e2 i (by omega) (by rw[z_c];exact hi);simpa using this
  ·rw[h3]
   congr 2
end
section
open GfM
theorem opsA_0:z_j ((Tryz.f158.body.bind (z_q 15)).getD #[]) 0 (.move (.tmp 6)) (some 57):=by unfold z_j;kernel_rfl
theorem opsA_1:z_j ((Tryz.f158.body.bind (z_q 15)).getD #[]) 1 (.move (.tmp 7)) (some 58):=by unfold z_j;kernel_rfl
theorem opsA_2:z_j ((Tryz.f158.body.bind (z_q 15)).getD #[]) 2 (.move (.tmp 6)) (some 59):=by unfold z_j;kernel_rfl
theorem opsA_3:z_j ((Tryz.f158.body.bind (z_q 15)).getD #[]) 3 (.move (.tmp 7)) (some 60):=by unfold z_j;kernel_rfl
theorem opsA_4:z_j ((Tryz.f158.body.bind (z_q 15)).getD #[]) 4 (.indexAddr 38 (.tmp 59) (.tmp 60)) (some 61):=by unfold z_j;kernel_rfl
theorem opsA_5:z_j ((Tryz.f158.body.bind (z_q 15)).getD #[]) 5 (.load 9 (.tmp 61)) (some 62):=by unfold z_j;kernel_rfl
theorem opsA_6:z_j ((Tryz.f158.body.bind (z_q 15)).getD #[]) 6 (.move (.tmp 0)) (some 63):=by unfold z_j;kernel_rfl
theorem opsA_7:z_j ((Tryz.f158.body.bind (z_q 15)).getD #[]) 7 (.move (.tmp 7)) (some 64):=by unfold z_j;kernel_rfl
theorem opsA_8:z_j ((Tryz.f158.body.bind (z_q 15)).getD #[]) 8 (.indexAddr 251 (.tmp 63) (.tmp 64)) (some 65):=by unfold z_j;kernel_rfl
theorem opsA_9:z_j ((Tryz.f158.body.bind (z_q 15)).getD #[]) 9 (.load 105 (.tmp 65)) (some 66):=by unfold z_j;kernel_rfl
theorem opsA_10:z_j ((Tryz.f158.body.bind (z_q 15)).getD #[]) 10 (.move (.tmp 8)) (some 67):=by unfold z_j;kernel_rfl
theorem opsA_11:z_j ((Tryz.f158.body.bind (z_q 15)).getD #[]) 11 (.indexAddr 105 (.tmp 66) (.tmp 67)) (some 68):=by unfold z_j;kernel_rfl
theorem opsA_12:z_j ((Tryz.f158.body.bind (z_q 15)).getD #[]) 12 (.load 5 (.tmp 68)) (some 69):=by unfold z_j;kernel_rfl
theorem opsA_13:z_j ((Tryz.f158.body.bind (z_q 15)).getD #[]) 13 (.move (.tmp 9)) (some 70):=by unfold z_j;kernel_rfl
theorem opsA_14:z_j ((Tryz.f158.body.bind (z_q 15)).getD #[]) 14 (.call { callee:=.value (.func 161),args:=#[.tmp 69,.tmp 70],argTypes:=#[5,9] }) (some 71):=by unfold z_j;kernel_rfl
theorem opsA_15:z_j ((Tryz.f158.body.bind (z_q 15)).getD #[]) 15 (.call { callee:=.value (.func 160),args:=#[.tmp 62,.tmp 71],argTypes:=#[9,9] }) (some 72):=by unfold z_j;kernel_rfl
theorem opsA_16:z_j ((Tryz.f158.body.bind (z_q 15)).getD #[]) 16 (.indexAddr 38 (.tmp 57) (.tmp 58)) (some 73):=by unfold z_j;kernel_rfl
theorem opsA_17:z_j ((Tryz.f158.body.bind (z_q 15)).getD #[]) 17 (.store 9 (.tmp 73) (.tmp 72)) none:=by unfold z_j;kernel_rfl
section
variable {ρ:Operand->Value} {w:World} {o:Oper}
theorem exA_load9 {x:Operand} (h:o.op=.load 9 x) {p:Addr} {v:Value} (hx:ρ x=.pointer (some p)) (hc:w.cell? p=some v):(execOp ρ o).run prog w=.ok (.value v) w:=by
 unfold execOp;rw[h];simp only[hx];go_simp
theorem exA_load5 {x:Operand} (h:o.op=.load 5 x) {p:Addr} {v:Value} (hx:ρ x=.pointer (some p)) (hc:w.cell? p=some v):(execOp ρ o).run prog w=.ok (.value v) w:=by
 unfold execOp;rw[h];simp only[hx];go_simp
theorem exA_loadB {x:Operand} (h:o.op=.load 105 x) {p:Addr} {v:Value} (hx:ρ x=.pointer (some p)) (hc:w.cell? p=some v):(execOp ρ o).run prog w=.ok (.value v) w:=by
 unfold execOp;rw[h];simp only[hx];go_simp
theorem exA_ixT {x y:Operand} (h:o.op=.indexAddr 38 x y) {G c n k:Nat} (hx:ρ x=.slice (some ⟨G,0,none⟩) n k) (hy:ρ y=.int .i64 c) (hc:(c:Int)<(n:Int)):(execOp ρ o).run prog w=.ok (.value (.pointer (some ⟨G,c,none⟩))) w:=by
 unfold execOp;rw[h];simp only[hx,hy];go_simp
theorem exA_ixM {x y:Operand} (h:o.op=.indexAddr 251 x y) {b f c n k:Nat} (hx:ρ x=.slice (some ⟨b,f,none⟩) n k) (hy:ρ y=.int .i64 c) (hc:(c:Int)<(n:Int)):(execOp ρ o).run prog w=.ok (.value (.pointer (some ⟨b,f+c,none⟩))) w:=by
 unfold execOp;rw[h];simp only[hx,hy];go_simp
theorem exA_ixB {x y:Operand} (h:o.op=.indexAddr 105 x y) {b f c n k:Nat} (hx:ρ x=.slice (some ⟨b,f,none⟩) n k) (hy:ρ y=.int .i64 c) (hc:(c:Int)<(n:Int)):(execOp ρ o).run prog w=.ok (.value (.pointer (some ⟨b,f+c,none⟩))) w:=by
 unfold execOp;rw[h];simp only[hx,hy];go_simp
theorem exA_store9 {x y:Operand} (h:o.op=.store 9 x y) {p:Addr} {u:Value} {s:ByteArray} (hx:ρ x=.pointer (some p)) (hy:ρ y=.string s) (hc:w.cell? p=some u) (hf:w.frozen? p=false):(execOp ρ o).run prog w=.ok .skip (w.setCell p (.string s)):=by
 unfold execOp;rw[h];simp only[hx,hy];go_simp
theorem exA_scale {x y:Operand} (h:o.op=.call { callee:=.value (.func 161),args:=#[x,y],argTypes:=#[5,9] }) {u v:Value} (hf:ρ (.func 161)=.func (.func 161) #[] #[]) (hx:ρ x=u) (hy:ρ y=v):(execOp ρ o).run prog w=.ok (.enter 161 #[u,v]) w:=by
 unfold execOp;rw[h];simp only[resolve,hf];go_simp
theorem exA_xor {x y:Operand} (h:o.op=.call { callee:=.value (.func 160),args:=#[x,y],argTypes:=#[9,9] }) {u v:Value} (hf:ρ (.func 160)=.func (.func 160) #[] #[]) (hx:ρ x=u) (hy:ρ y=v):(execOp ρ o).run prog w=.ok (.enter 160 #[u,v]) w:=by
 unfold execOp;rw[h];simp only[resolve,hf];go_simp
end
def frA1 (a:Act) (vC yr yt yu yw yx vE vF yz yB yC yD yE v70 yG v72 yH:Value):Act:=(((((((((((((((((a.put (some 57) vC).put (some 58) yr).put (some 59) yt).put (some 60) yu).put (some 61) yw).put (some 63) vE).put (some 64) vF).put (some 65) yz).put (some 66) yB).put (some 67) yC).put (some 68) yD).put (some 69) yE).put (some 70) v70).put (some 62) yx).put (some 71) yG).put (some 72) v72).put (some 73) yH)
def frA2 (a:Act) (vC yr yt yu yw yx vE vF yz yB yC yD yE v70 yG v72 yH:Value):Act:=(((((((((((((((((a.put (some 57) vC).put (some 58) yr).put (some 59) yt).put (some 60) yu).put (some 61) yw).put (some 63) vE).put (some 64) vF).put (some 65) yz).put (some 66) yB).put (some 67) yC).put (some 68) yD).put (some 69) yE).put (some 70) v70).put (some 71) yG).put (some 62) yx).put (some 72) v72).put (some 73) yH)
theorem region_apply {ah:Array Oper} (mq:ah=((Tryz.f158.body.bind (z_q 15)).getD #[])) (Q:Exit->Act->World->Prop) (hQ:∀c (a:Act) d v w,Q (.panic c) (a.put d v) w->Q (.panic c) a w) (a:Act) (W:World) (aj:a.tmps.size=77)
  (G n r ba oa na ca b1 o1 kk c1 c:Nat) (f:Int) (s x y z:ByteArray) (lV:(r:Int)<(n:Int)) (IP:(r:Int)<(na:Int)) (Xs:(c:Int)<(kk:Int))
  (h6:a.eval (.tmp 6)=(.slice (some ⟨G,0,none⟩) n n)) (h7:a.eval (.tmp 7)=.int .i64 r) (h0:a.eval (.tmp 0)=(.slice (some ⟨ba,oa,none⟩) na ca)) (h8:a.eval (.tmp 8)=.int .i64 c) (h9:a.eval (.tmp 9)=.string s)
  (K:World->Prop) (iI:K W.drew) (vG:∀w,K w->w.cell? ⟨ba,oa+r,none⟩=some (.slice (some ⟨b1,o1,none⟩) kk c1)/\w.cell? ⟨b1,o1+c,none⟩=some (.int .u8 f))
  (yI:∀w,K w->w.cell? ⟨G,r,none⟩=some (.string x)) (DY:∀w,K w->w.frozen? ⟨G,r,none⟩=false)
  (RC:∀w,K w->(w.setCell ⟨G,r,none⟩ (.string z)).cell? ⟨ba,oa+r,none⟩=some (.slice (some ⟨b1,o1,none⟩) kk c1)/\(w.setCell ⟨G,r,none⟩ (.string z)).cell? ⟨b1,o1+c,none⟩=some (.int .u8 f))
  (r9:∀w,K w->Cl 161 #[.int .u8 f,.string s] w fun e w'=>e=.returned (.string y)/\K w')
  (RD:∀w,K w->Cl 160 #[.string x,.string y] w fun e w'=>e=.returned (.string z)/\K w')
  (IL:∀vC yr yt yu yw yx vE vF yz yB yC yD yE v70 yG v72 yH w',K w'->Q .normal (frA1 a vC yr yt yu yw yx vE vF yz yB yC yD yE v70 yG v72 yH) (w'.setCell ⟨G,r,none⟩ (.string z)))
  (IM:∀vC yr yt yu yw yx vE vF yz yB yC yD yE v70 yG v72 yH w',K w'->Q .normal (frA2 a vC yr yt yu yw yx vE vF yz yB yC yD yE v70 yG v72 yH) (w'.setCell ⟨G,r,none⟩ (.string z))) :
  (Code.region 15 ah true).wp prog Q a W:=by
 subst mq
 have ev:Region.noSelect ((Tryz.f158.body.bind (z_q 15)).getD #[])=true:=by kernel_rfl
 have ft:((Tryz.f158.body.bind (z_q 15)).getD #[]).size=18:=by kernel_rfl
 refine wp_region_held (S:=fun w'=>w'.cell? ⟨ba,oa+r,none⟩=some (.slice (some ⟨b1,o1,none⟩) kk c1)/\w'.cell? ⟨b1,o1+c,none⟩=some (.int .u8 f)) (by kernel_rfl) ?_;rw[ft];have fv:=vG _ iI;show wpAnyH _ _ _ _ _ _ _ _ W.drew;refine z_K 0 _ _ (.slice (some ⟨G,0,none⟩) n n) opsA_0 ev (by kernel_rfl) (by kernel_rfl) hQ (fun w o hS ho=>y_i ho h6) fv ?_;refine z_K 1 _ _ (.int .i64 r) opsA_1 ev (by kernel_rfl) (by kernel_rfl) hQ (fun w o hS ho=>y_i ho ((z_a (by decide)).trans h7)) fv ?_;refine z_K 2 _ _ (.slice (some ⟨G,0,none⟩) n n) opsA_2 ev (by kernel_rfl) (by kernel_rfl) hQ (fun w o hS ho=>y_i ho ((z_a (by decide)).trans ((z_a (by decide)).trans h6))) fv ?_;refine z_K 3 _ _ (.int .i64 r) opsA_3 ev (by kernel_rfl) (by kernel_rfl) hQ (fun w o hS ho=>y_i ho ((z_a (by decide)).trans ((z_a (by decide)).trans ((z_a (by decide)).trans h7)))) fv ?_;refine z_K 4 _ _ (.pointer (some ⟨G,r,none⟩)) opsA_4 ev (by kernel_rfl) (by kernel_rfl) hQ (fun w o hS ho=>exA_ixT ho ((z_a (by decide)).trans (z_d (by simp only[z_f,aj];decide))) (z_d (by simp only[z_f,aj];decide)) lV) fv ?_;refine z_K 6 _ _ (.slice (some ⟨ba,oa,none⟩) na ca) opsA_6 ev (by kernel_rfl) (by kernel_rfl) hQ (fun w o hS ho=>y_i ho ((z_a (by decide)).trans ((z_a (by decide)).trans ((z_a (by decide)).trans ((z_a (by decide)).trans ((z_a (by decide)).trans h0)))))) fv ?_;refine z_K 7 _ _ (.int .i64 r) opsA_7 ev (by kernel_rfl) (by kernel_rfl) hQ (fun w o hS ho=>y_i ho ((z_a (by decide)).trans ((z_a (by decide)).trans ((z_a (by decide)).trans ((z_a (by decide)).trans ((z_a (by decide)).trans ((z_a (by decide)).trans h7))))))) fv ?_;refine z_K 8 _ _ (.pointer (some ⟨ba,oa+r,none⟩)) opsA_8 ev (by kernel_rfl) (by kernel_rfl) hQ (fun w o hS ho=>exA_ixM ho ((z_a (by decide)).trans (z_d (by simp only[z_f,aj];decide))) (z_d (by simp only[z_f,aj];decide)) IP) fv ?_;refine z_K 9 _ _ (.slice (some ⟨b1,o1,none⟩) kk c1) opsA_9 ev (by kernel_rfl) (by kernel_rfl) hQ (fun w o hS ho=>exA_loadB ho (z_d (by simp only[z_f,aj];decide)) hS.1) fv ?_;refine z_K 10 _ _ (.int .i64 c) opsA_10 ev (by kernel_rfl) (by kernel_rfl) hQ (fun w o hS ho=>y_i ho ((z_a (by decide)).trans ((z_a (by decide)).trans ((z_a (by decide)).trans ((z_a (by decide)).trans ((z_a (by decide)).trans ((z_a (by decide)).trans ((z_a (by decide)).trans ((z_a (by decide)).trans ((z_a (by decide)).trans h8)))))))))) fv ?_;refine z_K 11 _ _ (.pointer (some ⟨b1,o1+c,none⟩)) opsA_11 ev (by kernel_rfl) (by kernel_rfl) hQ (fun w o hS ho=>exA_ixB ho ((z_a (by decide)).trans (z_d (by simp only[z_f,aj];decide))) (z_d (by simp only[z_f,aj];decide)) Xs) fv ?_;refine z_K 12 _ _ (.int .u8 f) opsA_12 ev (by kernel_rfl) (by kernel_rfl) hQ (fun w o hS ho=>exA_load5 ho (z_d (by simp only[z_f,aj];decide)) hS.2) fv ?_
 refine z_K 13 _ _ (.string s) opsA_13 ev (by kernel_rfl) (by kernel_rfl) hQ (fun w o hS ho=>y_i ho ((z_a (by decide)).trans ((z_a (by decide)).trans ((z_a (by decide)).trans ((z_a (by decide)).trans ((z_a (by decide)).trans ((z_a (by decide)).trans ((z_a (by decide)).trans ((z_a (by decide)).trans ((z_a (by decide)).trans ((z_a (by decide)).trans ((z_a (by decide)).trans ((z_a (by decide)).trans h9))))))))))))) fv ?_;refine rg_step_or_call 5 14 _ _ _ _ (.string x) _ _ opsA_5 opsA_14 (by kernel_rfl) (fun o ho=>exA_load9 ho ((z_a (by decide)).trans ((z_a (by decide)).trans ((z_a (by decide)).trans ((z_a (by decide)).trans ((z_a (by decide)).trans ((z_a (by decide)).trans ((z_a (by decide)).trans ((z_a (by decide)).trans (z_d (by simp only[z_f,aj];decide)))))))))) (yI _ iI)) (fun o ho=>exA_scale ho rfl ((z_a (by decide)).trans (z_d (by simp only[z_f,aj];decide))) (z_d (by simp only[z_f,aj];decide))) fv ?_ ?_
 ·refine rg_call 14 _ _ _ _ opsA_14 (by kernel_rfl) (fun o ho=>exA_scale ho rfl ((z_a (by decide)).trans ((z_a (by decide)).trans (z_d (by simp only[z_f,aj];decide)))) ((z_a (by decide)).trans (z_d (by simp only[z_f,aj];decide)))) ?_
  refine (r9 _ iI).mono ?_;rintro e w3 ⟨rfl,pZ⟩;refine ⟨_,rfl,vG _ pZ,?_⟩;refine rg_call 15 _ _ _ _ opsA_15 (by kernel_rfl) (fun o ho=>exA_xor ho rfl ((z_a (by decide)).trans (z_d (by simp only[z_f,aj];decide))) (z_d (by simp only[z_f,aj];decide))) ?_;refine (RD _ pZ).mono ?_;rintro e w4 ⟨rfl,oq⟩;refine ⟨_,rfl,vG _ oq,?_⟩;refine w_F 16 _ _ (.pointer (some ⟨G,r,none⟩)) w4 opsA_16 (by kernel_rfl) (fun o ho=>exA_ixT ho ((z_a (by decide)).trans ((z_a (by decide)).trans ((z_a (by decide)).trans ((z_a (by decide)).trans ((z_a (by decide)).trans ((z_a (by decide)).trans ((z_a (by decide)).trans ((z_a (by decide)).trans ((z_a (by decide)).trans ((z_a (by decide)).trans ((z_a (by decide)).trans ((z_a (by decide)).trans ((z_a (by decide)).trans ((z_a (by decide)).trans ((z_a (by decide)).trans (z_d (by simp only[z_f,aj];decide))))))))))))))))) ((z_a (by decide)).trans ((z_a (by decide)).trans ((z_a (by decide)).trans ((z_a (by decide)).trans ((z_a (by decide)).trans ((z_a (by decide)).trans ((z_a (by decide)).trans ((z_a (by decide)).trans ((z_a (by decide)).trans ((z_a (by decide)).trans ((z_a (by decide)).trans ((z_a (by decide)).trans ((z_a (by decide)).trans ((z_a (by decide)).trans (z_d (by simp only[z_f,aj];decide)))))))))))))))) lV) (vG _ oq) ?_;refine rg_store 17 _ (w4.setCell ⟨G,r,none⟩ (.string z)) opsA_17 (by kernel_rfl) (fun o ho=>exA_store9 ho (z_d (by simp only[z_f,aj];decide)) ((z_a (by decide)).trans (z_d (by simp only[z_f,aj];decide))) (yI _ oq) (DY _ oq)) (RC _ oq) ?_;exact wpAnyH_done (by kernel_rfl) (IL _ _ _ _ _ _ _ _ _ _ _ _ _ _ _ _ _ _ oq) _
 ·refine (r9 _ iI).mono ?_
  rintro e w3 ⟨rfl,pZ⟩;refine ⟨_,rfl,vG _ pZ,?_⟩;refine w_F 5 _ _ (.string x) w3 opsA_5 (by kernel_rfl) (fun o ho=>exA_load9 ho ((z_a (by decide)).trans ((z_a (by decide)).trans ((z_a (by decide)).trans ((z_a (by decide)).trans ((z_a (by decide)).trans ((z_a (by decide)).trans ((z_a (by decide)).trans ((z_a (by decide)).trans ((z_a (by decide)).trans (z_d (by simp only[z_f,aj];decide))))))))))) (yI _ pZ)) (vG _ pZ) ?_;refine rg_call 15 _ _ _ _ opsA_15 (by kernel_rfl) (fun o ho=>exA_xor ho rfl (z_d (by simp only[z_f,aj];decide)) ((z_a (by decide)).trans (z_d (by simp only[z_f,aj];decide)))) ?_;refine (RD _ pZ).mono ?_;rintro e w4 ⟨rfl,oq⟩;refine ⟨_,rfl,vG _ oq,?_⟩;refine w_F 16 _ _ (.pointer (some ⟨G,r,none⟩)) w4 opsA_16 (by kernel_rfl) (fun o ho=>exA_ixT ho ((z_a (by decide)).trans ((z_a (by decide)).trans ((z_a (by decide)).trans ((z_a (by decide)).trans ((z_a (by decide)).trans ((z_a (by decide)).trans ((z_a (by decide)).trans ((z_a (by decide)).trans ((z_a (by decide)).trans ((z_a (by decide)).trans ((z_a (by decide)).trans ((z_a (by decide)).trans ((z_a (by decide)).trans ((z_a (by decide)).trans ((z_a (by decide)).trans (z_d (by simp only[z_f,aj];decide))))))))))))))))) ((z_a (by decide)).trans ((z_a (by decide)).trans ((z_a (by decide)).trans ((z_a (by decide)).trans ((z_a (by decide)).trans ((z_a (by decide)).trans ((z_a (by decide)).trans ((z_a (by decide)).trans ((z_a (by decide)).trans ((z_a (by decide)).trans ((z_a (by decide)).trans ((z_a (by decide)).trans ((z_a (by decide)).trans ((z_a (by decide)).trans (z_d (by simp only[z_f,aj];decide)))))))))))))))) lV) (vG _ oq) ?_;refine rg_store 17 _ (w4.setCell ⟨G,r,none⟩ (.string z)) opsA_17 (by kernel_rfl) (fun o ho=>exA_store9 ho (z_d (by simp only[z_f,aj];decide)) ((z_a (by decide)).trans (z_d (by simp only[z_f,aj];decide))) (yI _ oq) (DY _ oq)) (RC _ oq) ?_;exact wpAnyH_done (by kernel_rfl) (IM _ _ _ _ _ _ _ _ _ _ _ _ _ _ _ _ _ _ oq) _
end
end Go.Proofs.YtdkheklakfbeeaaGreatDoor
