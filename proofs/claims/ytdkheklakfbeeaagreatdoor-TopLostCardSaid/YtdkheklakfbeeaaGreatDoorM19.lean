/- Part 19 of the proof. -/
import Derived.Deep.RegionHeld3
import Derived.Test.YtdkheklakfbeeaaGreatDoorM18
set_option linter.all false
set_option maxRecDepth 100000
set_option maxHeartbeats 16000000
namespace Go.Proofs.YtdkheklakfbeeaaGreatDoor
open Go.RowKit Tryz
section
open GfM
theorem info9':(prog.info? 9).map (fun i=>(i.zero,i.size,i.bytes))=some (some (.string ⟨#[]⟩),1,16):=by kernel_rfl
theorem make_texts (m:Nat) (hm:m<=1000):∀W:World,(Instr.makeSlice 38 (.int .i64 m) (.int .i64 m)).run prog W=.ok (.slice (some ⟨W.heap.size,0,none⟩) m m) (W.alloc (.cells (madeCells #[.string ⟨#[]⟩] m) 9)):=by
 intro W;exact run_make_row' 38 9 (.string ⟨#[]⟩) 16 underlying38 info9' rfl .i64 .i64 m (by omega) (by omega) W
theorem Own.made_texts (W:World) (base n:Nat) (hb:base<=W.heap.size) (hn:n<=1000):Own (W.alloc (.cells (madeCells #[.string ⟨#[]⟩] n) 9)) base 9 (.slice (some ⟨W.heap.size,0,none⟩) n n) (sv (List.replicate n ByteArray.empty)):=by
 have h:=Own.lit_ W base 9 (madeCells #[.string ⟨#[]⟩] n) hb (by simp[size_madeCells,maxLen];omega)
 have e1:(madeCells #[Value.string ⟨#[]⟩] n).size=n:=by simp[size_madeCells]
 have e2:(madeCells #[Value.string ⟨#[]⟩] n).toList=sv (List.replicate n ByteArray.empty):=by rw[toList_madeCells_one];simp only[sv,List.map_replicate];rfl
 rwa [e1,e2] at h
def x_e (A:List (List UInt8)) (T:List ByteArray) (r:Nat):List ByteArray:=(List.range A.length).map fun s=>if s<r then bs (z_4 A T (nn T) s T.length) else ByteArray.empty
theorem outT_length (A:List (List UInt8)) (T:List ByteArray) (r:Nat):(x_e A T r).length=A.length:=by simp[x_e]
theorem outT_zero (A:List (List UInt8)) (T:List ByteArray):x_e A T 0=List.replicate A.length ByteArray.empty:=by
 unfold x_e;apply q_m (by simp);intro i h1 h2;simp
theorem outT_all (A:List (List UInt8)) (T:List ByteArray):x_e A T A.length=apL A T:=by
 unfold x_e apL;apply List.map_congr_left;intro s hs;rw[if_pos (by simpa using hs)]
theorem outT_next (A:List (List UInt8)) (T:List ByteArray) (r:Nat) (hr:r<A.length):(x_e A T r).set r (bs (z_4 A T (nn T) r T.length))=x_e A T (r+1):=by
 unfold x_e;apply q_G;intro i;rw[q_C];by_cases e:r=i
 ·subst e
  rw[if_pos rfl,if_pos (by simpa using hr),q_j,q_n hr];simp
 ·rw[if_neg e,q_j,q_j]
  by_cases hi:i<A.length
  ·rw[q_n hi]
   simp only[Option.map_some];congr 1;by_cases h2:i<r
   ·rw[if_pos h2,if_pos (by omega)]
   ·rw[if_neg h2,if_neg (by omega)]
  ·rw[q_q (by simpa using hi)];rfl
theorem convN (W:World) (n:Nat) (hn:n<=70000):(convert 105 9 (.slice (some ⟨W.heap.size,0,none⟩) n n)).run prog (W.alloc (.cells (madeCells #[.int .u8 0] n) 5))=.ok (.string (bs (List.replicate n 0))) (W.alloc (.cells (madeCells #[.int .u8 0] n) 5)):=by
 have hr:=(z_T.made_zero W n (by omega)).reads;rw[q_w] at hr;exact y_b (P:=prog) (src:=105) (dst:=9) underlying105 underlying5 underlying9 hr
theorem mkB0 (m:Nat) (hm:m<=140737488355328):∀W:World,(Instr.makeSlice 105 (.int .i64 m) (.int .i64 m)).run prog W=.ok (.slice (some ⟨W.heap.size,0,none⟩) m m) (W.alloc (.cells (madeCells #[.int .u8 0] m) 5)):=make_bytes m hm
theorem set_set (C:List ByteArray) (r:Nat) (x y:ByteArray):(C.set r x).set r y=C.set r y:=by simp
theorem apply_own (w:World) (va:Value) (A:List (List UInt8)) (hA:x_h w va A) (vl:Value) (T:List ByteArray) (hT:z_g w vl (sv T)) :
  Cl 158 #[va,vl] w fun e w'=>∃v,e=.returned (.tuple #[v,.int .i64 (apE A T)])/\Own w' w.heap.size 9 v (sv (apT A T))/\Below w.heap.size w w':=by
 have vH:=hT;obtain ⟨A1,c1,rfl,iD,db,fR⟩:=hT.texts2;have cJ:=Blk.new w 38 #[Value.slice A1 T.length c1];have bx:Below w.heap.size w (w.alloc (.cells #[.slice A1 T.length c1] 38)):=(Below.refl _ _).alloc (q_e _) _;obtain ⟨W0,RE⟩:∃W0,w.alloc (.cells #[.slice A1 T.length c1] 38)=W0:=⟨_,rfl⟩;rw[RE] at cJ bx;have hg:=good_any W0 va A (hA.below bx);have dY:∀W:World,Own W w.heap.size 9 (.slice none 0 0) (sv []):=fun W=>Own.nil_ W w.heap.size 9;by_cases gA:y_r A=true
 ·obtain ⟨a1,a2,a3,a4,aS⟩:=(w_N A).1 gA
  obtain ⟨ba,oa,ca,rfl,MF,Ru⟩:=hA.at_ (by omega);obtain ⟨A0,c0,gy,_,_⟩:=hA.rowAt 0 (by omega);rw[Nat.add_zero] at gy;rw[gA] at hg;have HG:=Zz hg;clear hg;have ik:=Zz dY;clear dY;have hp:=cJ.lt;by_cases hl:T.length=(A.getD 0 []).length
  ·obtain ⟨b2,o2,rfl,D8⟩:=fR (by omega)
   have il:=D8 0 (by omega);rw[Nat.add_zero] at il;rw[<-hl] at gy;have iP:=fun W (hW:Below w.heap.size w W) (hx:W.cell? ⟨w.heap.size,0,none⟩=some (.slice (some ⟨b2,o2,none⟩) T.length c1))=>odd_any W T (.slice (some ⟨b2,o2,none⟩) T.length c1) ⟨w.heap.size,0,none⟩ (vH.below hW) hx (by omega);by_cases tB:Evn T
   ·have D9:=fun W hW hx=>(iP W hW hx).1 tB
    have vI:=Zz D9;clear D9 iP;by_cases vJ:65536<(tl T 0).size
    ·have e0:apE A T=5:=by unfold apE;rw[if_neg (by rw[gA];decide),if_neg (by rintro (h|h);exact h hl;exact h tB),if_pos vJ]
     have e1:apT A T=[]:=by unfold apT;rw[if_neg (by rw[e0];decide)]
     rw[e0,e1]
     have aX:0<T.length:=by omega
     clear e0 e1 D8 fR hA hT vH aS tB hl a3 a4;generalize tl T 0=s0 at *;generalize A.length=n at *;generalize T.length=k at *
     have Co:(0:Int)<(n:Int):=by omega
     have iJ:0<n:=by omega
     go_enter func158,ntmps158;go_wp2_with fail;refine (HG.o).mono ?_;rintro e w1 ⟨rfl,ay⟩;have bT:=z_G bx bx.size ay;have kK:=(bT.cell (q_c w _ gy)).trans gy;have eh:=cJ.below ay hp;have mh:=eh.cell 0;have vK:=(bT.cell (q_c w _ il)).trans il
     go_upto_region 3 with fail
     go_cut [14] (fun s14 wx=>s14=.bool false/\Below w.heap.size w wx/\Blk wx w.heap.size 38 #[.slice (some ⟨b2,o2,none⟩) k c1])
     case first =>
      go_region_held3 (fun w'=>w'.cell? ⟨w.heap.size,0,none⟩=some (.slice (some ⟨b2,o2,none⟩) k c1)/\w'.cell? ⟨ba,oa,none⟩=some (.slice A0 k c0)) (first|assumption|go_keep|exact ⟨mh,kK⟩) (first|(go_at_call 102;refine (vI.o _ bT.drew mh).mono ?_;rintro e w' ⟨rfl,rfl⟩))
      all_goals
       go_wp2_with fail
       go_meet
       exact ⟨rfl,bT.drew,eh.drew⟩
     case rest =>
      clear mh eh bT vK;obtain ⟨rfl,bT,eh⟩:=hcut;have mh:=eh.cell 0;have vK:=(bT.cell (q_c w _ il)).trans il;go_wp2;go_ret2;exact ⟨_,rfl,ik.o _,bT⟩
    ·have Bz:apE A T=0:=apE_of gA hl tB (by unfold nn;omega)
     have e1:apT A T=apL A T:=by unfold apT;rw[if_pos Bz]
     rw[Bz,e1]
     have aX:0<T.length:=by omega
     have hN:∀j,j<T.length->(tl T j).size=nn T:=tB
     have Ea:nn T<=65536:=by unfold nn;omega
     have Xt:(tl T 0).size=nn T:=rfl
     have r9:∀r c,r<A.length->c<T.length->(∀W,Cl 161 #[.int .u8 ((en A r c).toNat:Int),.string (tl T c)] W fun e w'=>e=.returned (.string (bs ((tb T c).map (mul (en A r c)))))/\Below W.heap.size W w') /\
       (∀W,Cl 160 #[.string (bs (z_4 A T (nn T) r c)),.string (bs ((tb T c).map (mul (en A r c))))] W fun e w'=>e=.returned (.string (bs (z_4 A T (nn T) r (c+1))))/\Below W.heap.size W w'):=by
      intro r c hr hc;have h1:=hN c hc;refine ⟨fun W=>scale_ba _ _ rfl _ _ rfl (by rw[h1];omega) W,fun W=>xor_ba _ _ _ _ (z_Y _).symm (z_Y _).symm (by rw[z_b,z_b,q_i,x_r,h1];omega) W⟩
     have uQ:∀r c,r<A.length->c<T.length->∃b1 o1 z1,w.cell? ⟨ba,oa+r,none⟩=some (.slice (some ⟨b1,o1,none⟩) T.length z1)/\w.cell? ⟨b1,o1+c,none⟩=some (.int .u8 ((en A r c).toNat:Int)):=by
      intro r c hr hc
      have pS:(A.getD r []).length=T.length:=by rw[aS.2 r hr,hl]
      obtain ⟨b1,o1,z1,f1,f2,f3⟩:=hA.el r c hr (by rw[pS];exact hc);rw[pS] at f1;exact ⟨b1,o1,z1,f1,f3⟩
     have Eb:∀r,bs (z_4 A T (nn T) r 0)=bs (List.replicate (nn T) 0):=fun r=>rfl;have fK:=Zz r9;clear r9;have MP:=Zz uQ;clear uQ;have MQ:=Zz Eb;clear Eb;have Ec:=Zz D8;have cf:=outT_zero A T;have MR:=outT_all A T;have IQ:=outT_next A T;have MS:=outT_length A T;clear Bz e1 D8 fR hA hT vH aS tB hl a3 a4 vJ;have MT:=convN;generalize mu:tl T 0=s0 at *;generalize nn T=N at *;obtain ⟨n,IR⟩:∃n,A.length=n:=⟨_,rfl⟩;obtain ⟨k,yJ⟩:∃k,T.length=k:=⟨_,rfl⟩;rw[IR] at cf MR IQ fK MP MF HG a1 a2 ⊢;simp only[IR] at MS;rw[yJ] at gy fK MP Ec vI iD RE cJ hN aX IQ ⊢;have gV:=make_texts n (by omega);have lu:=mkB0 N (by omega);have eq:=fun W=>convN W N (by omega);have kL:=Zz cf;clear cf;have cy:=Zz MR;clear MR;have nL:=Zz IQ;clear IQ;have ly:=Zz MS;clear MS;have Xu:=Zz IR;clear IR;have DL:=Zz yJ;clear yJ mu hN MT
     have Co:(0:Int)<(n:Int):=by omega
     have iJ:0<n:=by omega
     have Xv:¬(65536<(s0.size:Int)):=by omega
     go_enter func158,ntmps158;go_wp2_with fail;refine (HG.o).mono ?_;rintro e w1 ⟨rfl,ay⟩;have bT:=z_G bx bx.size ay;have kK:=(bT.cell (q_c w _ gy)).trans gy;have eh:=cJ.below ay hp;have mh:=eh.cell 0;have vK:=(bT.cell (q_c w _ il)).trans il
     go_upto_region 3 with fail
     go_cut [14] (fun s14 wx=>s14=.bool false/\Below w.heap.size w wx/\Blk wx w.heap.size 38 #[.slice (some ⟨b2,o2,none⟩) k c1])
     case first =>
      go_region_held3 (fun w'=>w'.cell? ⟨w.heap.size,0,none⟩=some (.slice (some ⟨b2,o2,none⟩) k c1)/\w'.cell? ⟨ba,oa,none⟩=some (.slice A0 k c0)) (first|assumption|go_keep|exact ⟨mh,kK⟩) (first|(go_at_call 102;refine (vI.o _ bT.drew mh).mono ?_;rintro e w' ⟨rfl,rfl⟩))
      all_goals
       go_wp2_with fail
       go_meet
       exact ⟨rfl,bT.drew,eh.drew⟩
     case rest =>
      clear mh eh bT vK kK ay;obtain ⟨rfl,bT,eh⟩:=hcut;have mh:=eh.cell 0;have vK:=(bT.cell (q_c w _ il)).trans il;have IS:=Own.made_texts wc w.heap.size n bT.size (by omega);have dO:=bT.alloc bT.size (.cells (madeCells #[.string ⟨#[]⟩] n) 9);have ij:=eh.alloc (.cells (madeCells #[.string ⟨#[]⟩] n) 9);have r8:w.heap.size≠wc.heap.size:=q_E eh.lt;rw[<-kL.o] at IS;obtain ⟨G,hG⟩:∃G,wc.heap.size=G:=⟨_,rfl⟩
      have om:w.heap.size<=G:=by rw[<-hG];exact bT.size
      rw[hG] at IS r8;go_wp2;clear gV mh vK bT eh hG
      go_loopw [7,8,9,38,52] (fun _ _ _ s38 _ wr=>∃r:Nat,r<=n/\s38=.int .i64 r/\Own wr w.heap.size 9 (.slice (some ⟨G,0,none⟩) n n) (sv (x_e A T r))/\Blk wr w.heap.size 38 #[.slice (some ⟨b2,o2,none⟩) k c1]/\Below w.heap.size w wr) (fun _ _ _ s38 _ _=>n-(intOf s38).toNat)
      case atStart=>exact ⟨0,by omega,rfl,IS,ij,dO⟩
      case round =>
       clear IS ij dO;obtain ⟨r,hr,rfl,hO,cJ,hB⟩:=hrel;by_cases af:r<n
       ·have mh:=cJ.cell 0
        have vK:=(hB.cell (q_c w _ il)).trans il
        have aq:(sv (x_e A T r)).length=n:=by rw[z_c,ly.o]
        have Ed:Own wr w.heap.size 9 (.slice (some ⟨G,0,none⟩) (sv (x_e A T r)).length n) (sv (x_e A T r)):=by rw[aq];exact hO
        have RF:=Ed.cell r (by rw[aq];exact af);rw[y_y _ r (by rw[ly.o];exact af)] at RF;have Xw:=Ed.frozen r;have xU:G<wr.heap.size:=(Ed.lt G rfl).2;have Ee:=eq wr;obtain ⟨z0,dB⟩:∃z0,bs (List.replicate N 0)=z0:=⟨_,rfl⟩;rw[dB] at Ee;have kZ:=(Ed.set_ r (.string z0)).alloc (.cells (madeCells #[.int .u8 0] N) 5);rw[v_q,aq] at kZ;have ij:=(cJ.far (p:=⟨G,r,none⟩) r8 (.string z0)).alloc (.cells (madeCells #[.int .u8 0] N) 5);have yK:=hB.setCell (p:=⟨G,r,none⟩) om (.string z0);have dO:=yK.alloc yK.size (.cells (madeCells #[.int .u8 0] N) 5);have MU:((wr.setCell ⟨G,r,none⟩ (.string z0)).alloc (.cells (madeCells #[.int .u8 0] N) 5)).cell? ⟨w.heap.size,0,none⟩=some (.slice (some ⟨b2,o2,none⟩) k c1):=ij.cell 0;clear yK eq;have yb:=Zz dB;clear dB;have kA:=Zz kZ;have kC:=Zz ij;have ak:=Zz dO;clear hO Ed kZ ij dO aq;generalize tl (x_e A T r) r=Xx at *;go_wp2;clear Ee RF Xw MU
        go_loopw [8,9,52] (fun _ _ s52 wk=>∃c:Nat,c<=k/\s52=.int .i64 c/\Hid (Own wk w.heap.size 9 (.slice (some ⟨G,0,none⟩) n n) (sv ((x_e A T r).set r (bs (z_4 A T N r c)))))/\Hid (Blk wk w.heap.size 38 #[.slice (some ⟨b2,o2,none⟩) k c1])/\Hid (Below w.heap.size w wk)) (fun _ _ s52 _=>k-(intOf s52).toNat)
        case atStart=>exact ⟨0,by omega,rfl,by rw[MQ.o r,yb.o];exact kA,kC,ak⟩
        case round =>
         clear kA kC ak mh vK cJ hB xU yb;obtain ⟨c,hc,rfl,HO,HX,HB⟩:=hrel;have hB:=HB.o;have mh:=HX.o.cell 0;by_cases hlc:c<k
         ·have Ef:=Ec.o c hlc
          have co:=(hB.cell (q_c w _ Ef)).trans Ef;obtain ⟨b1,o1,z1,f1,f2⟩:=MP.o r c af hlc;obtain ⟨q1,q2⟩:=fK.o r c af hlc
          have aq:(sv ((x_e A T r).set r (bs (z_4 A T N r c)))).length=n:=by rw[z_c,q_k,ly.o]
          have yI:∀W,Own W w.heap.size 9 (.slice (some ⟨G,0,none⟩) n n) (sv ((x_e A T r).set r (bs (z_4 A T N r c))))->W.cell? ⟨G,r,none⟩=some (.string (bs (z_4 A T N r c)))/\W.frozen? ⟨G,r,none⟩=false /\
            Own (W.setCell ⟨G,r,none⟩ (.string (bs (z_4 A T N r (c+1))))) w.heap.size 9 (.slice (some ⟨G,0,none⟩) n n) (sv ((x_e A T r).set r (bs (z_4 A T N r (c+1))))):=by
           intro W h
           have h':Own W w.heap.size 9 (.slice (some ⟨G,0,none⟩) (sv ((x_e A T r).set r (bs (z_4 A T N r c)))).length n) (sv ((x_e A T r).set r (bs (z_4 A T N r c)))):=by rw[aq];exact h
           refine ⟨?_,h'.frozen r,?_⟩
           ·rw[h'.cell r (by rw[aq];exact af),y_y _ r (by rw[q_k,ly.o];exact af),tl_set _ _ _ _ (by rw[ly.o];exact af),if_pos rfl]
           ·have:=h'.set_ r (.string (bs (z_4 A T N r (c+1))))
            rw[v_q,aq,set_set] at this;exact this
          have sa:=Zz yI;clear yI aq;have sd:=Zz f1;have jM:=Zz f2;have Dj:=Zz q1;have Eg:=Zz q2;clear Ef f1 f2 q1 q2;generalize im:tl T c=s1 at *;clear im
          have IP:(r:Int)<(n:Int):=by omega
          have rQ:(c:Int)<(k:Int):=by omega
          go_upto_region 15 with fail
          refine region_apply (by kernel_rfl) _ ?hQ _ _ rfl G n r ba oa n ca b1 o1 k z1 c ((en A r c).toNat:Int) s1 (bs (z_4 A T N r c)) (bs ((tb T c).map (mul (en A r c)))) (bs (z_4 A T N r (c+1))) IP IP rQ rfl rfl rfl rfl rfl
            (fun W=>Own W w.heap.size 9 (.slice (some ⟨G,0,none⟩) n n) (sv ((x_e A T r).set r (bs (z_4 A T N r c))))/\Blk W w.heap.size 38 #[.slice (some ⟨b2,o2,none⟩) k c1]/\Below w.heap.size w W) ?k0 ?kS ?kc ?kf ?ks ?sc ?xr ?f1 ?f2
          case hQ =>
           intro c0 a0 d0 v0 x0 h;simp only[Exit.then,Exit.inBlock] at h ⊢
           first
            | exact h
            | (simp +zetaDelta only[Exit.then,Exit.inBlock,bodyPost] at h ⊢;exact h)
            | (simp +zetaDelta [Exit.then,Exit.inBlock,bodyPost] at h)
          case k0=>exact ⟨HO.o.drew,HX.o.drew,hB.drew⟩
          case kS=>exact fun W h=>⟨(h.2.2.cell (q_c w _ sd.o)).trans sd.o,(h.2.2.cell (q_c w _ jM.o)).trans jM.o⟩
          case kc=>exact fun W h=>(sa.o W h.1).1
          case kf=>exact fun W h=>(sa.o W h.1).2.1
          case ks=>exact fun W h=>⟨((h.2.2.setCell (p:=⟨G,r,none⟩) om _).cell (q_c w _ sd.o)).trans sd.o,((h.2.2.setCell (p:=⟨G,r,none⟩) om _).cell (q_c w _ jM.o)).trans jM.o⟩
          case sc=>exact fun W h=>(Dj.o W).mono fun e w' q=>⟨q.1,h.1.below q.2,h.2.1.below q.2 h.2.1.lt,z_G h.2.2 h.2.2.size q.2⟩
          case xr=>exact fun W h=>(Eg.o W).mono fun e w' q=>⟨q.1,h.1.below q.2,h.2.1.below q.2 h.2.1.lt,z_G h.2.2 h.2.2.size q.2⟩
          case f1 =>
           intro _ _ _ _ _ _ _ _ _ _ _ _ _ _ _ _ _ w' h;simp only[frA1,Act.put,q_A,List.set_cons_zero,List.set_cons_succ];have yL:=Zz (sa.o w' h.1).2.2;have Eh:=Zz (h.2.1.far (p:=⟨G,r,none⟩) r8 (.string (bs (z_4 A T N r (c+1)))));have MV:=Zz (h.2.2.setCell (p:=⟨G,r,none⟩) om (.string (bs (z_4 A T N r (c+1)))));clear h;go_wp2;go_roundw
           case rel=>exact ⟨c+1,by omega,by go_num,yL,Eh,MV⟩
           case measure=>simp[intOf];omega
          case f2 =>
           intro _ _ _ _ _ _ _ _ _ _ _ _ _ _ _ _ _ w' h;simp only[frA2,Act.put,q_A,List.set_cons_zero,List.set_cons_succ];have yL:=Zz (sa.o w' h.1).2.2;have Eh:=Zz (h.2.1.far (p:=⟨G,r,none⟩) r8 (.string (bs (z_4 A T N r (c+1)))));have MV:=Zz (h.2.2.setCell (p:=⟨G,r,none⟩) om (.string (bs (z_4 A T N r (c+1)))));clear h;go_wp2;go_roundw
           case rel=>exact ⟨c+1,by omega,by go_num,yL,Eh,MV⟩
           case measure=>simp[intOf];omega
         ·obtain rfl:c=k:=by omega
          have dL:=HO.o;rw[nL.o r (by rw[Xu.o] at *;exact af)] at dL;have cT:=Zz dL;clear dL;go_wp2;go_roundw
          case rel=>exact ⟨r+1,by omega,by go_num,cT.o,HX.o,hB⟩
          case measure=>simp[intOf];omega
       ·obtain rfl:r=n:=by omega
        have hR:=hO;rw[cy.o] at hR;go_wp2;go_ret2;exact ⟨_,rfl,hR,hB⟩
   ·have e0:apE A T=7:=by unfold apE;rw[if_neg (by rw[gA];decide),if_pos (.inr tB)]
    have e1:apT A T=[]:=by unfold apT;rw[if_neg (by rw[e0];decide)]
    rw[e0,e1];have D9:=fun W hW hx=>(iP W hW hx).2 tB;have vI:=Zz D9;clear D9 iP;clear e0 e1 D8 fR hA hT vH aS tB hl a3 a4;generalize tl T 0=s0 at *;generalize A.length=n at *;generalize T.length=k at *
    have Co:(0:Int)<(n:Int):=by omega
    have iJ:0<n:=by omega
    go_enter func158,ntmps158;go_wp2_with fail;refine (HG.o).mono ?_;rintro e w1 ⟨rfl,ay⟩;have bT:=z_G bx bx.size ay;have kK:=(bT.cell (q_c w _ gy)).trans gy;have eh:=cJ.below ay hp;have mh:=eh.cell 0;go_wp2
    go_region_held3 (fun w'=>w'.cell? ⟨w.heap.size,0,none⟩=some (.slice (some ⟨b2,o2,none⟩) k c1)/\w'.cell? ⟨ba,oa,none⟩=some (.slice A0 k c0)) (first|assumption|go_keep|exact ⟨mh,kK⟩) (first|(go_at_call 102;refine (vI.o _ bT.drew mh).mono ?_;rintro e w' ⟨rfl,rfl⟩))
    all_goals
     go_wp2;go_ret2;exact ⟨_,rfl,ik.o _,bT.drew⟩
  ·have e0:apE A T=7:=by unfold apE;rw[if_neg (by rw[gA];decide),if_pos (.inl hl)]
   have e1:apT A T=[]:=by unfold apT;rw[if_neg (by rw[e0];decide)]
   rw[e0,e1]
   have hb:(((T.length:Nat):Int) != (((A.getD 0 []).length:Nat):Int))=true:=by rw[bne_iff_ne];omega
   clear e0 e1 fR hA hT vH aS hl;generalize (A.getD 0 []).length=q at *;generalize A.length=n at *;generalize T.length=k at *;go_enter func158,ntmps158;go_wp2_with fail;refine (HG.o).mono ?_;rintro e w1 ⟨rfl,ay⟩;have bT:=z_G bx bx.size ay;have kK:=(bT.cell (q_c w _ gy)).trans gy;have eh:=(cJ.below ay hp).cell 0;go_wp2
   go_region
   go_wp2;go_ret2;exact ⟨_,rfl,ik.o _,bT.drew⟩
 ·have e0:apE A T=4:=by unfold apE;rw[if_pos (by simpa using gA)]
  have e1:apT A T=[]:=by unfold apT;rw[if_neg (by rw[e0];decide)]
  rw[e0,e1]
  have gA':y_r A=false:=by simpa using gA
  rw[gA'] at hg;have HG:=Zz hg;clear hg gA gA' e0 e1 fR hT vH;generalize T.length=k at *;have ik:=Zz dY;clear dY;go_enter func158,ntmps158;go_wp2_with fail;refine (HG.o).mono ?_;rintro e w1 ⟨rfl,ay⟩;go_wp2;go_ret2;exact ⟨_,rfl,ik.o _,z_G bx bx.size ay⟩
theorem apply_any (w:World) (va:Value) (A:List (List UInt8)) (hA:x_h w va A) (vl:Value) (T:List ByteArray) (hT:z_g w vl (sv T)) :
  Cl 158 #[va,vl] w fun e w'=>∃v,e=.returned (.tuple #[v,.int .i64 (apE A T)])/\z_g w' v (sv (apT A T))/\Below w.heap.size w w':=by
 refine (apply_own w va A hA vl T hT).mono ?_;rintro e w' ⟨v,h1,h2,h3⟩;exact ⟨v,h1,h2.reads,h3⟩
end
section
open GfM
def tv (B:List Bool):List Value:=B.map Value.bool
theorem tv_length (B:List Bool):(tv B).length=B.length:=by simp[tv]
theorem tv_at (B:List Bool) (i:Nat) (h:i<B.length):(tv B)[i]?=some (.bool (B.getD i false)):=by
 simp[tv,h]
theorem z_g.bools {w:World} {v:Value} {B:List Bool} (h:z_g w v (tv B)) :
  ∃A c,v=.slice A B.length c/\B.length<=c/\c<=9223372036854775807/\(0<B.length->∃b off,A=some ⟨b,off,none⟩/\∀j,j<B.length->w.cell? ⟨b,off+j,none⟩=some (.bool (B.getD j false))):=by
 obtain ⟨A,c,rfl,h1,h2,h3⟩:=h;rw[tv_length] at *;refine ⟨A,c,rfl,h1,h2,fun hp=>?_⟩;obtain ⟨b,off,rfl,hc⟩:=h3 hp;exact ⟨b,off,rfl,fun j hj=>by rw[hc j hj,tv_at B j hj]⟩
def pk (B:List Bool):Nat->List Nat
 | 0=>[]
 | i+1=>if B.getD i false=true then pk B i++[i] else pk B i
theorem x_7 {B:List Bool} {i:Nat} (h:B.getD i false=true):pk B (i+1)=pk B i++[i]:=by
 show (if _ then _ else _)=_;rw[if_pos h]
theorem pk_no {B:List Bool} {i:Nat} (h:B.getD i false=false):pk B (i+1)=pk B i:=by
 show (if _ then _ else _)=_;rw[if_neg (by rw[h];decide)]
theorem pk_len (B:List Bool) (i:Nat):(pk B i).length<=i:=by
 induction i with
 | zero=>simp[pk]
 | succ i ih =>
  by_cases h:B.getD i false=true
  ·rw[x_7 h,q_b,q_x];omega
  ·rw[pk_no (by simpa using h)];omega
theorem pk_lt (B:List Bool) (i:Nat):∀r∈pk B i,r<i/\B.getD r false=true:=by
 induction i with
 | zero=>intro r hr;cases hr
 | succ i ih =>
  intro r hr;by_cases h:B.getD i false=true
  ·rw[x_7 h,List.mem_append,List.mem_singleton] at hr
   rcases hr with hr|rfl
   ·exact ⟨by have:=(ih r hr).1;omega,(ih r hr).2⟩
   ·exact ⟨by omega,h⟩
  ·rw[pk_no (by simpa using h)] at hr
   exact ⟨by have:=(ih r hr).1;omega,(ih r hr).2⟩
def pkR (B:List Bool) (k:Nat):List (List UInt8):=((pk B (k+2)).take k).map fun r=>(y_c k).getD r []
def pkC (B:List Bool) (C:List ByteArray) (k:Nat):List ByteArray:=((pk B (k+2)).take k).map (tl C)
inductive DecR (C:List ByteArray) (B:List Bool):List ByteArray->Int->Prop
 | arg (h:¬(3<=C.length/\C.length<=10/\B.length=C.length)):DecR C B [] 2
 | lost (h1:3<=C.length) (h2:C.length<=10) (h3:B.length=C.length) (h4:(pk B C.length).length<C.length-2):DecR C B [] 24
 | shape (h1:3<=C.length) (h2:C.length<=10) (h3:B.length=C.length) (h4:C.length-2<=(pk B C.length).length) (h5:shE ((pk B C.length).map (tl C))≠0):DecR C B [] (shE ((pk B C.length).map (tl C)))
 | done (k:Nat) (h0:C.length=k+2) (h1:1<=k) (h2:k<=8) (h3:B.length=C.length) (h4:k<=(pk B C.length).length) (h5:shE ((pk B C.length).map (tl C))=0) (X:List (List UInt8)) (e:Int) (h6:InvR (pkR B k) X e):DecR C B (apT (y_c k) (apT X (pkC B C k))) 0
theorem decode_own (w:World) (vc vb:Value) (C:List ByteArray) (B:List Bool) (hC:z_g w vc (sv C)) (hB:z_g w vb (tv B)) :
  Cl 101 #[vc,vb] w fun e w'=>∃v T e0,e=.returned (.tuple #[v,.int .i64 e0])/\Own w' w.heap.size 9 v (sv T)/\DecR C B T e0/\Below w.heap.size w w':=by
 obtain ⟨A,c,rfl,aK,bf,aa⟩:=hC.texts;obtain ⟨A2,c2,rfl,iD,db,lD⟩:=hB.bools;have dY:∀W:World,Own W w.heap.size 9 (.slice none 0 0) (sv []):=fun W=>Own.nil_ W w.heap.size 9;have ik:=Zz dY;clear dY hC hB;by_cases hn:C.length<3
 ·have hd:decide (1<=(C.length:Int)-2/\(C.length:Int)-2<=8)=false:=by simp;omega
  have HR:=Zz (DecR.arg (C:=C) (B:=B) (by omega));clear aa lD;generalize C.length=n at *;generalize B.length=m at *;go_enter func101,ntmps101;go_wp2_with fail;refine (w_c _ _).mono ?_;rw[hd];rintro e w' ⟨rfl,rfl⟩;go_wp2;go_ret2;exact ⟨_,_,_,rfl,ik.o _,HR.o,Below.refl _ _⟩
 ·obtain ⟨k,hk⟩:∃k:Nat,C.length=k+2:=⟨C.length-2,by omega⟩
  have aX:1<=k:=by omega
  have je:(k:Int)<=9223372036854775805:=by omega
  by_cases aL:8<k
  ·have hd:decide (1<=(k:Int)/\(k:Int)<=8)=false:=by simp;omega
   have HR:=Zz (DecR.arg (C:=C) (B:=B) (by omega));clear aa lD;rw[hk] at *;generalize B.length=m at *;go_enter func101,ntmps101;go_wp2_with fail;refine (w_c _ _).mono ?_;rw[hd];rintro e w' ⟨rfl,rfl⟩;go_wp2;go_ret2;exact ⟨_,_,_,rfl,ik.o _,HR.o,Below.refl _ _⟩
  ·have hd:decide (1<=(k:Int)/\(k:Int)<=8)=true:=by simp;omega
   by_cases cE:B.length=C.length
   ·have Ei:=generator_any k aX (by omega) w
    have MW:=Zz Ei;clear Ei;obtain ⟨bc,oc,rfl,mx⟩:=aa (by omega);obtain ⟨bb,ob,rfl,lW⟩:=lD (by omega);clear aa lD;have mG:=Zz mx;clear mx;have iB:=Zz lW;clear lW;have fA:=fun h4=>DecR.lost (C:=C) (B:=B) (by omega) (by omega) cE h4;have da:=fun h4 h5=>DecR.shape (C:=C) (B:=B) (by omega) (by omega) cE h4 h5;have lE:=fun h4 h5 X e h6=>DecR.done (C:=C) (B:=B) k hk aX (by omega) cE h4 h5 X e h6;rw[hk] at fA da lE;have vL:=Zz fA;clear fA;have qE:=Zz da;clear da;have vM:=Zz lE;clear lE;have aA:=w_q cE;rw[cE] at *;rw[hk] at *;clear cE;have tr:=Zz (z_6 k);go_enter func101,ntmps101;go_wp2_with fail;refine (w_c _ _).mono ?_;rw[hd];rintro e w' ⟨rfl,rfl⟩;go_wp2_with fail;refine (MW.o).mono ?_;rintro e wg ⟨vg,rfl,⟨ys,nj,Cw,RG⟩,BA⟩;obtain ⟨Ag,cg,rfl,bu,bJ,qF⟩:=Cw;rw[tr.o] at nj;obtain ⟨bg,og,rfl,Be⟩:=qF (by omega);have yM:=Zz nj;rw[nj] at bu Be ⊢;have HY:=Zz RG;clear RG;have RH:=Zz Be;clear Be qF nj;obtain ⟨yv,RI⟩:∃yv:Nat->Value,yv=fun r=>ys.getD r undef:=⟨_,rfl⟩;have MX:=Zz RI;clear RI;have Dl:=Zz (Own.nil_ wg wg.heap.size 9);have Dm:=Zz (Own.nil_ wg wg.heap.size 105);go_wp2
    go_loopw [7,8,10,11,36] (fun s7 s8 _ _ s36 wr=>∃i:Nat,i<=k+2/\s36=.int .i64 i/\Hid (Own wr wg.heap.size 9 s8 (sv ((pk B i).map (tl C))))/\Hid (Own wr wg.heap.size 105 s7 ((pk B i).map yv))/\Below wg.heap.size wg wr) (fun _ _ _ _ s36 _=>k+2-(intOf s36).toNat)
    case atStart=>exact ⟨0,by omega,rfl,Dl,Dm,Below.refl _ _⟩
    case round =>
     clear Dl Dm;obtain ⟨i,hi,rfl,HL,HR,hB⟩:=hrel;by_cases af:i<k+2
     ·have Ej:=mG.o i af
      have fo:=iB.o i af;have co:=(hB.cell (q_c wg _ ((BA.cell (q_c w _ Ej)).trans Ej))).trans ((BA.cell (q_c w _ Ej)).trans Ej);have cE:=(hB.cell (q_c wg _ ((BA.cell (q_c w _ fo)).trans fo))).trans ((BA.cell (q_c w _ fo)).trans fo);clear Ej fo
      have MY:(i:Int)<((k+2:Nat):Int):=by omega
      by_cases BC:B.getD i false=true
      ·rw[BC] at cE
       have hg:=RH.o i af;obtain ⟨yA,yc,hy,_⟩:=(HY.o i (by rw[tr.o];exact af)).shape
       have Iy:ys[i]?=some (yv i):=by
        rw[MX.o];show ys[i]?=some (ys.getD i undef);rw[q_a,q_d (by rw[yM.o];exact af)];rfl
       have Ek:yv i=.slice yA ((y_c k).getD i []).length yc:=by rw[MX.o];exact hy
       rw[Iy,Ek] at hg;have Xy:=pk_len B i
       have RJ:((sv ((pk B i).map (tl C))).length+1)*16<=140737488355328:=by rw[z_c,q_i];omega
       have yN:(((pk B i).map yv).length+1)*24<=140737488355328:=by rw[q_i];omega
       have Xz:=Zz RJ;clear RJ;have XA:=Zz yN;clear yN Xy Iy hy
       have bQ:sv ((pk B i).map (tl C))++[.string (tl C i)]=sv ((pk B (i+1)).map (tl C)):=by rw[x_7 BC,List.map_append,w_0];rfl
       have tC:(pk B i).map yv++[.slice yA ((y_c k).getD i []).length yc]=(pk B (i+1)).map yv:=by rw[x_7 BC,List.map_append,<-Ek];rfl
       have kI:=Zz bQ;clear bQ;have nz:=Zz tC;clear tC;have HG:=Zz hg;clear hg;generalize nk:tl C i=si at *;clear nk Ek BC
       go_upto_region 11 with fail
       refine region_decode (by kernel_rfl) _ ?hQ _ _ rfl wg _ _ _ _ si bg og (k+2) cg i ((y_c k).getD i []).length yc yA MY rfl rfl rfl rfl rfl HG.o HL.o HR.o hB Xz.o XA.o ?KC
       case hQ =>
        intro c0 a0 d0 v0 x0 h;simp only[Exit.then,Exit.inBlock] at h ⊢
        first
         | exact h
         | (simp +zetaDelta only[Exit.then,Exit.inBlock,bodyPost] at h ⊢;exact h)
         | (simp +zetaDelta [Exit.then,Exit.inBlock,bodyPost] at h)
       case KC =>
        intro _ _ _ _ _ _ _ _ _ _ _ kE uX w' hl' g7 fm;simp only[frD,Act.put,q_A,List.set_cons_zero,List.set_cons_succ];rw[kI.o] at hl';rw[nz.o] at g7;have MZ:=Zz hl';have M0:=Zz g7;clear hl' g7;go_wp2;go_roundw
        case rel=>exact ⟨i+1,by omega,by go_num,MZ,M0,fm⟩
        case measure=>simp[intOf];omega
      ·have xT:B.getD i false=false:=by simpa using BC
       rw[xT] at cE;have tD:=pk_no xT
       have MZ:Hid (Own wr wg.heap.size 9 u8 (sv ((pk B (i+1)).map (tl C)))):=by rw[tD];exact HL
       have M0:Hid (Own wr wg.heap.size 105 u7 ((pk B (i+1)).map yv)):=by rw[tD];exact HR
       clear HL HR tD BC xT;generalize nk:tl C i=si at *;clear nk;go_wp2;go_roundw
       case rel=>exact ⟨i+1,by omega,by go_num,MZ,M0,hB⟩
       case measure=>simp[intOf];omega
     ·obtain rfl:i=k+2:=by omega
      have me:(sv ((pk B (k+2)).map (tl C))).length=(pk B (k+2)).length:=by rw[z_c,q_i]
      have BD:((pk B (k+2)).map yv).length=(pk B (k+2)).length:=by rw[q_i]
      have bQ:=pk_len B (k+2);have dO:=z_G BA BA.size hB;by_cases hm:(pk B (k+2)).length<k
      ·have HE:=Zz (vL.o hm)
       obtain ⟨Al,cl,rfl⟩:=HL.o.shape;rw[me] at *;clear me BD HL HR;generalize (pk B (k+2)).length=m at *
       have bK:(m:Int)<(k:Int):=by omega
       go_wp2;go_ret2;exact ⟨_,_,_,rfl,ik.o _,HE.o,dO⟩
      ·have gV:1<=(pk B (k+2)).length:=by omega
       obtain ⟨gl,cl,rfl,XB,M1,M2⟩:=HL.o.form (by rw[me];omega);obtain ⟨gr,cr,rfl,XC,XD,M3⟩:=HR.o.form (by rw[BD];omega);have yN:=HL.o.reads;have M4:=HR.o.reads;rw[me] at yN M2;rw[BD] at M4 M3;have se:=shape_any wr _ _ yN;have M5:=yN.take k (by rw[me];omega);rw[sv_take,<-List.map_take] at M5;have M6:=M4.take k (by rw[BD];omega);rw[<-List.map_take] at M6
       have IJ:x_h wr (.slice (some ⟨gr,0,none⟩) k cr) (pkR B k):=by
        refine ⟨_,by unfold pkR;rw[q_i,q_i],M6,fun r hr=>?_⟩;unfold pkR at hr ⊢;rw[q_i] at hr
        have XE:=(pk_lt B (k+2) (((pk B (k+2)).take k).getD r 0) (by
         rw[q_a,q_d hr]
         exact List.mem_of_mem_take (q_B hr))).1
        have e1:(((pk B (k+2)).take k).map yv).getD r undef=yv (((pk B (k+2)).take k).getD r 0):=by
         rw[q_a,q_j,q_a,q_d hr];rfl
        have e2:(((pk B (k+2)).take k).map fun r=>(y_c k).getD r []).getD r []=(y_c k).getD (((pk B (k+2)).take k).getD r 0) []:=by
         rw[q_a,q_j,q_a (l:=(pk B (k+2)).take k),q_d hr];rfl
        rw[e1,e2,MX.o];exact (HY.o _ (by rw[tr.o];exact XE)).below hB
       have RK:x_h wg (.slice (some ⟨bg,og,none⟩) (k+2) cg) (y_c k):=by
        refine ⟨ys,by rw[yM.o,tr.o],⟨_,cg,by rw[yM.o],by rw[yM.o];exact bu,bJ,fun _=>⟨bg,og,rfl,fun j hj=>RH.o j (by rw[<-yM.o];exact hj)⟩⟩,HY.o⟩
       have LI:=RK.below hB
       have co:k<=cl:=by omega
       have LD:k<=cr:=by omega
       have bK:¬(((pk B (k+2)).length:Int)<(k:Int)):=by omega
       have iC:=Zz se;clear se;have pg:=Zz M5;clear M5;have XF:=Zz IJ;clear IJ;have XG:=Zz LI;clear LI RK;have C6:=Zz (vM.o (by omega));have ff:=Zz (qE.o (by omega));rw[me,BD];clear yN M4 M6 HL HR vM qE vL;generalize hS:shE ((pk B (k+2)).map (tl C))=E at *;clear hS me BD;generalize (pk B (k+2)).length=m at *;by_cases hE:E=0
       ·subst hE
        have El:=invert_any wr _ _ XF.o;have Em:=Zz El;clear El;have En:=Zz (C6.o rfl);clear C6 ff;go_wp2_with fail;refine (iC.o).mono ?_;rintro e w' ⟨rfl,rfl⟩;go_wp2_with fail;refine (Em.o).mono ?_;rintro e w2 ⟨vi,X,e1,rfl,hX,hR,am⟩;have sQ:=apply_any w2 vi X hX _ _ (pg.o.below am);have tE:=Zz (XG.o.below am);have pL:=Zz (En.o X e1 hR);have ph:=Zz sQ;clear sQ Em En hX hR;have lj:=z_G dO dO.size am;go_wp2_with fail;refine (ph.o).mono ?_;rintro e w3 ⟨vd,rfl,hD,bW⟩;have xX:=apply_own w3 _ _ (tE.o.below bW) _ _ hD;have r7:=z_G lj lj.size bW;have M7:=Zz xX;clear xX ph hD;go_wp2_with fail;refine (M7.o).mono ?_;rintro e w4 ⟨vo,rfl,hO,fH⟩;have Cz:=z_G r7 r7.size fH;have HO:=Zz (hO.more r7.size);clear hO;go_wp2;go_ret2;exact ⟨_,_,_,rfl,HO.o,pL.o,Cz⟩
       ·have hb:(E != 0)=true:=by rw[bne_iff_ne];exact hE
        have HE:=Zz (ff.o hE);go_wp2_with fail;refine (iC.o).mono ?_;rintro e w' ⟨rfl,rfl⟩;go_wp2;go_ret2;exact ⟨_,_,_,rfl,ik.o _,HE.o,dO⟩
   ·have HR:=Zz (DecR.arg (C:=C) (B:=B) (by omega))
    have aA:=bne_nat cE;clear aa lD;rw[hk] at *;generalize B.length=m at *;go_enter func101,ntmps101;go_wp2_with fail;refine (w_c _ _).mono ?_;rw[hd];rintro e w' ⟨rfl,rfl⟩;go_wp2;go_ret2;exact ⟨_,_,_,rfl,ik.o _,HR.o,Below.refl _ _⟩
end
section
open GfM
theorem drop_getD (l:List UInt8) (n c:Nat):(l.drop n).getD c 0=l.getD (n+c) 0:=by
 simp[q_a,List.getElem?_drop]
theorem half_rows (n:Nat) (m:List (List UInt8)) (r c:Nat) (hr:r<n):en ((List.range n).map fun r=>(m.getD r []).drop n) r c=y_d n m r c:=by
 have h:((List.range n).map fun r=>(m.getD r []).drop n).getD r []=(m.getD r []).drop n:=by
  rw[q_a,q_j,q_n hr];rfl
 unfold y_d en;rw[h];exact drop_getD _ _ _
theorem invR_sq {A X:List (List UInt8)} {e:Int} (h:InvR A X e) (hg:y_r A=true) (hs:A.length=(A.getD 0 []).length) :
  (e=0/\Shp X A.length A.length/\IsInv A.length (en A) (en X))\/(e=6/\X=[]/\Sing A.length (en A)):=by
 have hS:Shp A A.length A.length:=⟨rfl,fun r hr=>by rw[((w_N A).1 hg).2.2.2.2.2 r hr,<-hs]⟩
 cases h with
 | bad h=>rw[hg] at h;cases h
 | shape _ h=>exact absurd hs h
 | done _ _ h =>
  cases h with
  | sing h1 h2 h3 h4=>exact .inr ⟨rfl,rfl,h1.singular hS _ h2 h3 h4⟩
  | @ok m h1 h2 =>
   refine .inl ⟨rfl,⟨by simp,fun r hr=>?_⟩,?_⟩
   ·rw[q_a,q_j,q_n hr]
    show ((m.getD r []).drop A.length).length=A.length;rw[List.length_drop,(h1.shp (w_p hS)).2 r hr];omega
   ·have hi:=h1.inverse hS fun r j hr hj=>h2 r j hr hj
    refine ⟨fun r c hr hc=>?_,fun r c hr hc=>?_⟩
    ·rw[<-hi.1 r c hr hc]
     exact mm_congr _ (fun j _=>rfl) (fun j hj=>half_rows _ m j c hj)
    ·rw[<-hi.2 r c hr hc]
     exact mm_congr _ (fun j _=>half_rows _ m r j hr) (fun j _=>rfl)
end
section
open GfM
theorem xor_eq {a b:UInt8} (h:a ^^^ b=0):a=b:=by
 have:(a ^^^ b) ^^^ b=0 ^^^ b:=by rw[h]
 rwa [UInt8.xor_assoc,UInt8.xor_self,UInt8.xor_zero,UInt8.zero_xor] at this
theorem ex_inj {i j:Nat} (hi:i<255) (hj:j<255) (h:ex i=ex j):i=j:=by rw[<-lo_ex hi,<-lo_ex hj,h]
end
end Go.Proofs.YtdkheklakfbeeaaGreatDoor
