/- Part 17 of the proof. -/
import Derived.Deep.MidRow
import Derived.Test.YtdkheklakfbeeaaGreatDoorM16
set_option linter.all false
set_option maxRecDepth 100000
set_option maxHeartbeats 16000000
namespace Go.Proofs.YtdkheklakfbeeaaGreatDoor
open Go.RowKit Go.Proofs.Tryz
variable {B2 B3 B6 an b base g m1 m2 n sp st v wk:Nat}{F:Nat->Prop}{R:W_->Prop}{S S0:cj}{key:List UInt8}{rr rt vm vs:Value}{w:W_}{σ:Nat->ao}
def MB (m:fv):Option (B_ × B_)->fv
 | some (t,d)=>{ m with top:=t,log:=d }
 | none=>{ m with log:=fb }
def pu (L:List fv) (G:Nat->Option (B_ × B_)) (k:Nat):List fv:=L.mapIdx fun j m=>if j<k then MB m (G j) else m
def nL (S:cj) (G:Nat->Option (B_ × B_)) (k:Nat):cj:={ S with mem:=pu S.mem G k }
def lL (dom:List Nat) (e:Nat->B_) (X:Nat->List Wr):Nat->Option (B_ × B_):=fun j=>if j∈dom then some (e j,iD (bm (X j))) else none
def gE (σ:Nat->ao) (dom:List Nat) (T:Nat->List Wr) (k:Nat):Nat->ao:=fun j=>if j<k/\j∈dom then ((σ j).wrs (T j)).flush else σ j
section
variable (L:List fv) (G:Nat->Option (B_ × B_))
def v_G (k:Nat):(pu L G k).length=L.length:=by simp[pu]
def Y4:pu L G 0=L:=by
 unfold pu;apply C8;intro i;simp
def GY (k:Nat) (h:k<L.length):(pu L G k)[k]'(by rw[v_G];exact h)=L[k]'h:=by
 simp[pu]
def NJ (k:Nat) (h:k<L.length):(pu L G k).set k (MB (L[k]'h) (G k))=pu L G (k+1):=by
 unfold pu;apply C8;intro i;rw[BA,List.getElem?_mapIdx,List.getElem?_mapIdx];by_cases e:k=i
 ·subst e
  simp[h]
 have g:i<k+1↔i<k:=o_;simp only[g];simp[e]
def U9 (k:Nat) (h:k<L.length) (hg:G k=none):ds (pu L G (k+1))=(ds (pu L G k)).set (k*3+2) (.string fb):=by
 rw[w_4 (pu L G k) k (by rw[v_G];exact h) fb,GY L G k h,<-NJ L G k h,hg];rfl
def Vg (k:Nat) (h:k<L.length) (t d:B_) (hg:G k=some (t,d)):ds (pu L G (k+1))=(((ds (pu L G k)).set (k*3+2) (.string fb)).set (k*3+1) (.string t)).set (k*3+2) (.string d):=by
 have e:k<(pu L G k).length:=by rw[v_G];exact h
 rw[w_4 (pu L G k) k e fb];rw[Ew _ k (by rw[iO];exact e) t];rw[w_4 _ k (by rw[iO,iO];exact e) d];simp only[List.getElem_set_self,List.set_set];rw[GY L G k h,<-NJ L G k h,hg];rfl
end
def w_7 (S:cj) (G:Nat->Option (B_ × B_)) (k:Nat):(nL S G k).mem.length=S.mem.length:=v_G _ _ _
def VK (S:cj) (G:Nat->Option (B_ × B_)):nL S G 0=S:=by unfold nL;rw[Y4]
def D5 (m:fv) (o:Option (B_ × B_)):(MB m o).st=m.st:=by
 cases o with
 | none=>rfl
 | some p=>rfl
def Lv (S:cj) (G:Nat->Option (B_ × B_)) (k j:Nat):dT (nL S G k) j=dT S j:=by
 unfold dT nL pu
 dsimp only
 rw[List.getElem?_mapIdx]
 cases S.mem[j]? with
 | none=>rfl
 | some m =>
  simp only[Option.map_some];split
  ·rw[D5]
  rfl
def Fb {e:cj} (h:∀j,dT S j=dT e j) (k:Nat):pG S k=pG e k:=by
 induction k with
 | zero=>rfl
 | succ k g=>unfold pG;rw[g,h k]
def Gt (g:a7 S) (G:Nat->Option (B_ × B_)) (hG:∀j t d,G j=some (t,d)->t.size=32/\d.size=32) (k:Nat):a7 (nL S G k) where
 d2:=g.d2
 d8:=g.d8
 sl:=g.sl
 n1:=by rw[w_7];exact g.n1
 n12:=by rw[w_7];exact g.n12
 mem i h:=by
  have n:i<S.mem.length:=by rwa [w_7] at h
  obtain ⟨o,s,l,m⟩:=g.mem i n;have r:(nL S G k).mem[i]'h=(pu S.mem G k)[i]'h:=rfl
  have e:(nL S G k).mem[i]'h=if i<k then MB (S.mem[i]'n) (G i) else S.mem[i]'n:=by
   rw[r];simp only[pu,List.getElem_mapIdx]
  rw[e];have u:(nL S G k).data=S.data:=rfl;rw[u];by_cases q:i<k
  ·rw[if_pos q,D5]
   cases hg:G i with
   | none=>exact ⟨o,v_y,l,m⟩
   | some p =>
    obtain ⟨t,d⟩:=p;obtain ⟨v,x⟩:=hG i t d hg;exact ⟨v,x,l,m⟩
  rw[if_neg q];exact ⟨o,s,l,m⟩
 c:=g.c
 e:=g.e
def Dr (σ:Nat->ao) (dom:List Nat) (T:Nat->List Wr):gE σ dom T 0=σ:=by funext j;simp[gE]
def YY (σ:Nat->ao) (dom:List Nat) (T:Nat->List Wr) (k:Nat):gE σ dom T k k=σ k:=by simp[gE]
def XF (σ:Nat->ao) (dom:List Nat) (T:Nat->List Wr) (k:Nat) (h:k∈dom):dY (gE σ dom T k) k (((σ k).wrs (T k)).flush)=gE σ dom T (k+1):=by
 funext j;unfold dY gE;by_cases e:j=k
 ·subst e;simp[h]
 have g:j<k+1↔j<k:=o_;simp[e,g]
def Ns (σ:Nat->ao) (dom:List Nat) (T:Nat->List Wr) (k:Nat) (h:k∉dom):gE σ dom T (k+1)=gE σ dom T k:=by
 funext j;unfold gE;by_cases e:j=k
 ·subst e;simp[h]
 have g:j<k+1↔j<k:=o_;simp only[g]
def wK (l:List Wr) (h:∀x∈l,x.ok) (k:Nat) (hk:k<(bm l).length):(tl (bm l) k).size<=2048:=by
 cases k with
 | zero=>rw[z_aw,cG,ec];decide
 | succ k =>
  have g:k<l.length:=by rw[Nd] at hk;omega
  have e:tl (bm l) (k+1)=bs (bQ (l[k]'g).at'++df (l[k]'g).cell.data.toList):=by
   simp[tl,bm,g]
  rw[e,cG];have:=(h _ (rY g)).2.2;unfold df;simp only[cd,ec,g5];omega
section
def Wn (hL:a_ w) (hb:Bk w b n σ F) (hw:10<=w.heap.size) (y2:ab w st 116 (gU b an key S0 rr rt sp)) (H7:ab w wk 163 (Af S vs vm m1 m2)) (hR:bg w base S vs vm) (h0:a7 S) (eH:S.mem.length=n) (qM:10<=base)
  (U:Nat->Value) (dom:List Nat) (X:Nat->List Wr) (l:Nat->B_) (B0:Nat) (H4:aS KI w m1 (vD U dom) dom) (P:Rows w B0 U dom X) (H8:aS KI w m2 (dg (fc l dom)) dom)
  (hX:∀j∈dom,(X j).length<96/\(∀x∈X j,x.ok)/\(σ j).dead=false/\(σ j).wait<=500) (Lf:∀j∈dom,(l j).size=32) (hg:pG S (S.data+2)<=2) :
  Cl 72 #[.pointer (some ⟨st,0,none⟩),.pointer (some ⟨wk,0,none⟩)] w fun e w'=>e=.returned (.int .i64 0)/\bg w' base (nL S (lL dom l X) n) vs vm /\
   (∃m,Gr w F m/\Bk w' b n (gE σ dom (fun j=>fD (bm (X j))) n) m)/\∃g,vm.ownBlock=some g/\Kp (fun q=>F q\/q=g) w w':=by
 have jE:=h0.n1;have cE:=h0.n12;have BD:=h0.d8;obtain ⟨g,E,lE,y5,y4⟩:=LF hR.mems o_;subst lE;obtain ⟨yx,H5⟩:=fj hR.mems (q:=g) rfl;have Us:¬F g:=hb.offRow hR.mems (by unfold ci;decide) _ rfl;have y1:=Zz Us
 have tV:Hid (∀q t cs,ab w q t cs->t≠108->¬ci t->¬(F q\/q=g)):=Zz fun q t cs x0 ht jL o=>by
  rcases o with o|rfl
  ·exact hb.off x0 jL o
  exact ab.ne_ x0 H5 ht rfl
 have lJ:=Zz (tV.o st _ _ y2 d_ (by unfold ci;decide));have H6:=Zz (tV.o wk _ _ H7 d_ (by unfold ci;decide));have jc:Hid (¬(F m1\/m1=g)):=Zz fun h=>h.elim (hb.offMap H4) fun e=>H4.ne_blk H5 e;have r9:Hid (¬(F m2\/m2=g)):=Zz fun h=>h.elim (hb.offMap H8) fun e=>H8.ne_blk H5 e;have uC:Hid (∀q,(F q\/q=g)->∀cs,¬ab w q 240 cs):=Zz fun q o cs x0=>tV.o q _ cs x0 d_ (by unfold ci;decide) o
 have o7:Hid (∀q,q<6->¬(F q\/q=g)):=Zz fun q h6 o=>by
  rcases o with o|rfl
  ·have:=(hb.lt o).1;omega
  omega
 have bf:=Zz hL;have jy:=Zz hb;have aR:=Zz y2;have x1:=Zz H7;have dG:=Zz H4;have eP:=Zz H8;have wJ:=Zz P;have Ht:=Zz hX;have dH:=Zz hw;have y6:=Zz eH
 have B8:Hid (a7 (nL S (lL dom l X) S.mem.length)):=Zz (Gt h0 _ (fun j t d h=>by
  unfold lL at h;split at h
  ·rename_i hm
   injection h with h
   injection h with r y
   subst r y;exact ⟨Lf j hm,v_2 _⟩
  cases h) _)
 have ZI:Hid (pG (nL S (lL dom l X) S.mem.length) (S.data+2)<=2):=Zz (by rw[Fb (fun j=>Lv S _ _ j)];exact hg);have me:Hid (bg w base (nL S (lL dom l X) 0) vs (.slice (some ⟨g,0,none⟩) S.mem.length E)):=Zz (by rw[VK];exact hR);have gK:Hid (∃m,Gr w F m/\Bk w b n (gE σ dom (fun j=>fD (bm (X j))) 0) m):=Zz ⟨F,Gr.refl _ _,by rw[Dr];exact hb⟩;have bJ:=Zz (Kp.refl (fun q=>F q\/q=g) w);have fT:=Zz (w_7 S (lL dom l X));have mW:=Zz (GY S.mem (lL dom l X));have ZJ:=Zz (U9 S.mem (lL dom l X));have gJ:=Zz (Vg S.mem (lL dom l X));have vL:=Zz (fun i (h:i<S.mem.length)=>Re (pu S.mem (lL dom l X) i) i (by rw[v_G];exact h));have sB:=Zz (XF σ dom (fun j=>fD (bm (X j))));have Bf:=Zz (Ns σ dom (fun j=>fD (bm (X j))));have DM:=Zz (YY σ dom (fun j=>fD (bm (X j))));have G:=H7.c8;clear hL hb hw y2 H7 hR h0 H4 H8 P hX Lf hg H5 Us;have Up:S.mem.length<=12:=cE;go_enter func72,ntmps72
 go_upto_region 2 with fail
 clear G
 go_loopw [5,6,7,8,9,10,17] (fun _ _ _ _ _ _ rW wr=>∃i:Nat,i<=S.mem.length/\rW=.int .i64 i/\Hid (bg wr base (nL S (lL dom l X) i) vs (.slice (some ⟨g,0,none⟩) S.mem.length E))/\Hid (∃m,Gr w F m/\Bk wr b n (gE σ dom (fun j=>fD (bm (X j))) i) m)/\Hid (Kp (fun q=>F q\/q=g) w wr)) (fun _ _ _ _ _ _ rW _=>S.mem.length-(intOf rW).toNat)
 case atStart=>exact ⟨0,o_,rfl,me,gK,bJ⟩
 case round =>
  clear me gK bJ;obtain ⟨i,hi,rfl,HR,h7,C⟩:=hrel;by_cases V:i<S.mem.length
  ·have bL:(i:Int)<(S.mem.length:Int):=o_
   obtain ⟨q0,h2,h3⟩:=vL.o i V;have wF:=HR.o.mems;rw[fT.o] at wF;have I:Kp ac wr wr.drew:=(Kp.refl ac wr).drew;have fY:=Zz (HR.o.seats.kp I fun _ _ h=>h);have zT:Hid (wr.drew.ownsRow base 108 3 (.slice (some ⟨g,0,none⟩) S.mem.length E) S.mem.length (ds (pu S.mem (lL dom l X) i))):=Zz (dL wF I fun _ _ h=>h);have yi:Hid (∃m,Gr w F m/\Bk wr.drew b n (gE σ dom (fun j=>fD (bm (X j))) i) m):=Zz (by obtain ⟨N,r,y⟩:=h7.o;exact ⟨N,r,y.no I⟩);have D:=Zz C.o.drew;rw[mW.o i V] at h2 h3;have IR:=Zz (ZJ.o i V);have IS:=Zz (gJ.o i V);have ZK:Hid ((ds (pu S.mem (lL dom l X) i)).length=S.mem.length*3):=Zz (by rw[Ee,v_G]);clear I wF HR h7 C q0
   go_upto_region 4 with fail
   refine fs ?_;generalize wr.drew=w3 at *;generalize ds (pu S.mem (lL dom l X) i)=B at *;obtain ⟨⟨lH,tp,lg⟩,hx⟩:∃x,S.mem[i]'V=x:=⟨_,rfl⟩;rw[hx] at h2 h3
   dsimp only at h2 h3
   have EU:=Zz h2;have FO:=Zz h3;clear hx h2 h3;have Ut:Hid (∀W,a_ W->10<=W.heap.size->Cl 89 #[] W fun e w'=>e=.returned (.string fb)/\Kp ac W w'):=Zz fun W r y=>v_C W r y;obtain ⟨u,Uu⟩:∃u,fb=u:=⟨_,rfl⟩;rw[Uu] at IR IS Ut;clear Uu;have x9:=Zz (x1.o.kp D.o H6.o);have yR:=Zz (bf.o.kp D.o o7.o);have tB:Hid (10<=w3.heap.size):=Zz (by have:=dH.o;have:=D.o.size;omega);have G:=x9.o.c8;refine fp 0 ?_;refine fp 1 ?_;refine fp 2 ?_;refine fp 3 ?_;refine cw 4 G ?_;refine fp 5 ?_;refine fd 6 fun K h8 s=>?_;go_simp;refine (Ut.o w3 yR.o tB.o).mono ?_;rintro e A ⟨rfl,Z⟩;have h4:=Zz (dL zT.o Z fun _ _ h=>h);have x7:=Zz (fY.o.kp Z fun _ _ h=>h);have ur:Hid (∃m,Gr w F m/\Bk A b n (gE σ dom (fun j=>fD (bm (X j))) i) m):=Zz (by obtain ⟨N,r,y⟩:=yi.o;exact ⟨N,r,y.no Z⟩);have ay:=Zz (D.o.then Z fun _ _ h=>h.elim);have qz:=Zz (x9.o.kp Z fun h=>h);refine s _ _ (oK (qz.o.cell 8) oN) ?_;clear s K Z G zT fY yi D x9 yR tB
   have g2:A.cell? ⟨g,i*3+2,none⟩=some (.string lg):=by rw[Ho h4.o _ o_];exact FO.o
   have y0:=y_e h4.o (i*3+2);refine fp 7 ?_;refine fp 8 ?_;refine fd 9 fun K h8 s=>?_;go_simp;refine s _ _ (oW oN) ?_;clear s K g2 y0;refine fe ?_;have x2:Hid ((A.setCell ⟨g,i*3+2,none⟩ (.string u)).ownsRow base 108 3 (.slice (some ⟨g,0,none⟩) S.mem.length E) S.mem.length (B.set (i*3+2) (.string u))):=Zz (x_a h4.o (i*3+2) (.string u));have h9:=(Kp.refl (fun z=>z=g) A).setCell ⟨g,i*3+2,none⟩ (.string u) (.inl rfl)
   have x3:=Zz (x7.o.kp h9 fun q o e=>by
    obtain ⟨iR,Q⟩:=fj x7.o o;obtain ⟨dj,Y⟩:=fj h4.o (q:=g) rfl;have e:q=g:=e;subst e
    exact ab.ne_ Q Y d_ rfl)
   have x4:Hid (∃m,Gr w F m/\Bk (A.setCell ⟨g,i*3+2,none⟩ (.string u)) b n (gE σ dom (fun j=>fD (bm (X j))) i) m):=Zz (by
    obtain ⟨N,r,y⟩:=ur.o
    exact ⟨N,r,y.kp h9 fun q o f=>by have e:q=g:=o;subst e;exact Gr.no r y4 y1.o f⟩)
   have O:=Zz (ay.o.trans (h9.mono fun q _ h=>Or.inr h));clear h9 h4 x7 ur ay qz;generalize A.setCell ⟨g,i*3+2,none⟩ (.string u)=M at *;have q7:=Zz (x1.o.kp O.o H6.o);have k9:=q7.o.c9;have oJ:=Zz (dG.o.kp O.o jc.o);have R:=(oJ.o.look sY M7 (Hu M) (a:=i) (show i<=100000 by omega)).2;by_cases p:i∈dom
   ·obtain ⟨ff,y9,kC,l9⟩:=Ht.o i p
    have P:=wJ.o.kp O.o uC.o i p;obtain ⟨Au,cu,IT⟩:=lM P;rw[IT] at P;rw[show vD U dom i=some (U i) from if_pos p,IT] at R;replace R:(Instr.lookup 161 (.map (some m1)) (.int .i64 i) true).run prog M=.ok (.tuple #[.slice Au (X i).length cu,.bool true]) M:=R;have kz:=Zz (bf.o.kp O.o o7.o);have IU:Hid (10<=M.heap.size):=Zz (by have:=dH.o;have:=O.o.size;omega);have fh:=Es M kz.o IU.o (.slice Au (X i).length cu) (X i) (Sy P) ff y9;have IV:Hid (ds (pu S.mem (lL dom l X) (i+1))=((B.set (i*3+2) (.string u)).set (i*3+1) (.string (l i))).set (i*3+2) (.string (iD (bm (X i))))):=Zz (IS.o _ _ (if_pos p));have qN:=Zz (sB.o i p);have vj:Hid ((bm (X i)).length<=97):=Zz (by rw[Nd];omega);have Lb:=Zz (wK (X i) y9);have oL:=Zz (DM.o i);have Cb:=Zz kC;have Cc:=Zz l9;generalize iD (bm (X i))=J at *;have IW:Hid (dY (gE σ dom (fun j=>fD (bm (X j))) i) i ((σ i).wrs (fD (bm (X i)))).flush=gE σ dom (fun j=>fD (bm (X j))) (i+1)):=qN;obtain ⟨T,hT⟩:∃T,bm (X i)=T:=⟨_,rfl⟩;rw[hT] at IW vj Lb fh;have mh:=Zz fh;clear fh hT qN P ff y9 kC l9;go_wp2_with fail;refine mh.o.mono ?_;rintro e w6 ⟨u6,rfl,x8,H⟩;obtain ⟨N,y5,Q⟩:=x4.o;have H2:=Zz y5
    have un:Hid (∀W,Kp N w6 W->b_ W u6 (sv T)):=Zz fun W k=>(x8.kp k fun q o f=>by
     have r:=(iZ x8 o).1;have y:=(Q.lt f).2
     omega).reads
    have y3:=Zz (Q.no H);have Cd:=Zz (dL x2.o H fun _ _ h=>h);have y7:=Zz (x3.o.kp H fun _ _ h=>h);have H0:=Zz (O.o.then H fun _ _ h=>h.elim);have IX:=Zz (aR.o.kp H0.o lJ.o);have x6:=Zz (K6 y3.o IX.o (show i<n by rw[<-y6.o];exact V) (by rw[oL.o];exact Cb.o) (by rw[oL.o];exact Cc.o) u6 T un.o vj.o Lb.o);rw[oL.o,IW.o] at x6;clear y5 Q H x8 x4 x2 x3 O q7 oJ kz IU mh k9 R;go_wp2_with fail;refine x6.o.mono ?_;rintro e x5 ⟨rfl,F2,lK,Y,H1⟩;have vM:=Zz lK;have IY:Hid (¬N g):=Zz (Gr.no H2.o y4 y1.o);have dy:=Zz Y
    have ut:=Zz (dL Cd.o H1 fun q o f=>by
     have e:q=g:=by injection o with e;exact e.symm
     subst e
     exact IY.o f)
    have jo:=Zz (y7.o.kp H1 fun q o f=>y3.o.offRow y7.o (by unfold ci;decide) q o f);have tn:Hid (Gr w F F2):=Zz (H2.o.then vM.o H0.o.size);have bH:=Zz (H0.o.then H1 fun q o f=>.inl (H2.o q o f));clear lK Y H1 un y3 Cd y7 H0 IX x6 H2 vM IY;have I:Kp ac x5 x5.drew:=(Kp.refl ac x5).drew;have h1:=Zz (dL ut.o I fun _ _ h=>h);have n9:=Zz (jo.o.kp I fun _ _ h=>h);have ew:=Zz (dy.o.no I);have H3:=Zz bH.o.drew;clear I ut jo dy bH
    go_upto_region 13 with fail
    refine fs ?_;generalize x5.drew=c at *;have lj:=Zz (x1.o.kp H3.o H6.o);have th:=Zz (eP.o.kp H3.o r9.o);have L:=(th.o.look sY Bq (jW c) (a:=i) (show i<=100000 by omega)).1;rw[show dg (fc l dom) i=some (.string (l i)) by unfold dg fc;rw[if_pos p];rfl] at L;replace L:(Instr.lookup 86 (.map (some m2)) (.int .i64 i) false).run prog c=.ok (.string (l i)) c:=L;obtain ⟨v,Uv⟩:∃v,l i=v:=⟨_,rfl⟩;rw[Uv] at L IV;clear Uv;have G:=lj.o.c8;have IP:=lj.o.c10
    have g1:c.cell? ⟨g,i*3+1,none⟩=some (.string tp):=by rw[Ho h1.o _ o_,List.getElem?_set_ne o_];exact EU.o
    have Pp:=y_e h1.o (i*3+1);have H9:Hid ((c.setCell ⟨g,i*3+1,none⟩ (.string v)).ownsRow base 108 3 (.slice (some ⟨g,0,none⟩) S.mem.length E) S.mem.length ((B.set (i*3+2) (.string u)).set (i*3+1) (.string v))):=Zz (x_a h1.o (i*3+1) (.string v));have eR:Hid (((c.setCell ⟨g,i*3+1,none⟩ (.string v)).setCell ⟨g,i*3+2,none⟩ (.string J)).ownsRow base 108 3 (.slice (some ⟨g,0,none⟩) S.mem.length E) S.mem.length (((B.set (i*3+2) (.string u)).set (i*3+1) (.string v)).set (i*3+2) (.string J))):=Zz (x_a H9.o (i*3+2) (.string J));have h5:Hid (Kp (fun z=>z=g) c ((c.setCell ⟨g,i*3+1,none⟩ (.string v)).setCell ⟨g,i*3+2,none⟩ (.string J))):=Zz (((Kp.refl (fun z=>z=g) c).setCell ⟨g,i*3+1,none⟩ (.string v) (.inl rfl)).setCell ⟨g,i*3+2,none⟩ (.string J) (.inl rfl));refine fp 0 ?_;refine fp 1 ?_;refine fp 2 ?_;refine fp 3 ?_;refine cw 4 G ?_;refine fp 5 ?_;refine fp 6 ?_;refine fp 7 ?_;refine fp 8 ?_;refine fp 9 ?_;refine cw 10 G ?_;refine fp 11 ?_;refine fp 12 ?_;refine fp 13 ?_;refine fp 14 ?_;refine cw 15 IP ?_;refine fp 16 ?_;refine fp 18 ?_;refine fd 17 fun K h8 s=>?_;go_simp;refine s _ _ (oW (oK G (oK G oN))) ?_;clear s K L;refine fp 19 ?_;refine fp 20 ?_;refine fd 21 fun K h8 s=>?_;go_simp;refine s _ _ (oW (oW (oW oN))) ?_;clear s K g1 Pp G IP
    have g2:(c.setCell ⟨g,i*3+1,none⟩ (.string v)).cell? ⟨g,i*3+2,none⟩=some (.string u):=by
     rw[Ho H9.o _ o_,List.getElem?_set_ne o_,List.getElem?_set_self (by rw[ZK.o];omega)]
    have y0:=y_e H9.o (i*3+2);refine fp 22 ?_;refine fp 23 ?_;refine fd 24 fun K h8 s=>?_;go_simp;refine s _ _ (oW (oW (oW oN))) ?_;clear s K g2 y0;refine fe ?_
    have IZ:=Zz (n9.o.kp h5.o fun q o e=>by
     obtain ⟨iR,Q⟩:=fj n9.o o;obtain ⟨dj,Y⟩:=fj h1.o (q:=g) rfl;have e:q=g:=e;subst e
     exact ab.ne_ Q Y d_ rfl)
    have Qh:Hid (∃m,Gr w F m/\Bk ((c.setCell ⟨g,i*3+1,none⟩ (.string v)).setCell ⟨g,i*3+2,none⟩ (.string J)) b n (gE σ dom (fun j=>fD (bm (X j))) (i+1)) m):=Zz ⟨F2,tn.o,ew.o.kp h5.o fun q o f=>by
     have e:q=g:=o;subst e
     exact Gr.no tn.o y4 y1.o f⟩
    have bW:=Zz (H3.o.trans (h5.o.mono fun q _ h=>Or.inr h))
    have oG:Hid (bg ((c.setCell ⟨g,i*3+1,none⟩ (.string v)).setCell ⟨g,i*3+2,none⟩ (.string J)) base (nL S (lL dom l X) (i+1)) vs (.slice (some ⟨g,0,none⟩) S.mem.length E)):=Zz ⟨IZ.o,by
     rw[fT.o];have y8:ds (nL S (lL dom l X) (i+1)).mem=((B.set (i*3+2) (.string u)).set (i*3+1) (.string v)).set (i*3+2) (.string J):=IV.o;rw[y8]
     exact eR.o⟩
    clear h1 H9 eR n9 IZ ew H3 h5 lj th tn;generalize (c.setCell ⟨g,i*3+1,none⟩ (.string v)).setCell ⟨g,i*3+2,none⟩ (.string J)=bY at *;go_wp2;go_roundw
    case rel=>exact ⟨i+1,o_,by go_num,oG,Qh,bW⟩
    case measure=>simp[intOf];omega
   rw[show vD U dom i=none from if_neg p] at R;replace R:(Instr.lookup 161 (.map (some m1)) (.int .i64 i) true).run prog M=.ok (.tuple #[.slice none 0 0,.bool false]) M:=R
   have pa:Hid (bg M base (nL S (lL dom l X) (i+1)) vs (.slice (some ⟨g,0,none⟩) S.mem.length E)):=Zz ⟨x3.o,by
    rw[fT.o];have y8:ds (nL S (lL dom l X) (i+1)).mem=B.set (i*3+2) (.string u):=IR.o (if_neg p);rw[y8]
    exact x2.o⟩
   have Be:Hid (∃m,Gr w F m/\Bk M b n (gE σ dom (fun j=>fD (bm (X j))) (i+1)) m):=Zz (by rw[Bf.o i p];exact x4.o);clear x2 x3 x4 oJ q7;go_wp2;go_roundw
   case rel=>exact ⟨i+1,o_,by go_num,pa,Be,O⟩
   case measure=>simp[intOf];omega
  obtain rfl:i=S.mem.length:=o_;have Hz:=Zz (x1.o.kp C.o H6.o);have jU:=Zz (r5 (S:=nL S (lL dom l X) S.mem.length) Hz.o HR.o B8.o);go_wp2_with fail;refine jU.o.mono ?_;rintro e w2 ⟨rfl,rfl⟩;have Ca:(nL S (lL dom l X) S.mem.length).data=S.data:=rfl;rw[Ca,decide_eq_true ZI.o]
  have dE:Hid (bg w2 base (nL S (lL dom l X) n) vs (.slice (some ⟨g,0,none⟩) S.mem.length E) /\
  (∃m,Gr w F m/\Bk w2 b n (gE σ dom (fun j=>fD (bm (X j))) n) m)/\∃q,(Value.slice (some ⟨g,0,none⟩) S.mem.length E).ownBlock=some q/\Kp (fun z=>F z\/z=q) w w2):=Zz (by
   have r:=HR.o;have y:=h7.o;rw[show nL S (lL dom l X) S.mem.length=nL S (lL dom l X) n by rw[y6.o]] at r;rw[show gE σ dom (fun j=>fD (bm (X j))) S.mem.length=gE σ dom (fun j=>fD (bm (X j))) n by rw[y6.o]] at y
   exact ⟨r,y,g,rfl,C.o⟩)
  clear jU Hz HR h7 C;go_wp2;go_ret;exact ⟨rfl,dE.o⟩
end
section
def Kc (H5:a_ w) (hb:Bk w b n σ F) (H7:10<=w.heap.size) (hk:key.length=32) (I:ab w st 116 (gU b an key S0 rr rt sp)) (z:ab w wk 163 (Af S vs vm m1 m2)) (hR:bg w base S vs vm) (R:a7 S) (eH:S.mem.length=n)
  (U:Nat->Value) (dom:List Nat) (X:Nat->List Wr) (x6:Nat) (P:aS KI w m1 (vD U dom) dom) (o:Rows w x6 U dom X)
  (H6:∀j∈dom,(X j).length<=1000/\(∀x∈X j,x.ok)/\(σ j).dead=false/\(σ j).wait<=500) :
  Cl 76 #[.pointer (some ⟨st,0,none⟩),.pointer (some ⟨wk,0,none⟩)] w fun e w'=>e=.returned (.int .i64 0)/\∃g,Gr w F g/\Bk w' b n (gE σ dom X n) g/\Kp F w w':=by
 have cE:=R.n12;obtain ⟨As,cs,Am,cm,cI,bU⟩:=hR.reads.shape;subst bU;have lJ:=Zz (hb.off I (by unfold ci;decide));have H1:=Zz (hb.off z (by unfold ci;decide));have jc:=Zz (hb.offMap P);have uC:Hid (∀q,F q->∀cs,¬ab w q 240 cs):=Zz fun q y cs hB=>hb.off hB (by unfold ci;decide) y
 have o7:Hid (∀q,q<6->¬F q):=Zz fun q h6 y=>by have:=(hb.lt y).1;omega
 have bf:=Zz H5;have y8:=Zz I;have H8:=Zz z;have dG:=Zz P;have wJ:=Zz o;have y3:=Zz H6;have dH:=Zz H7;have H0:=Zz eH;have y4:=Zz hk;have fG:=Zz R.sl;have H4:Hid (∃g,Gr w F g/\Bk w b n (gE σ dom X 0) g):=Zz ⟨F,Gr.refl _ _,by rw[Dr];exact hb⟩;have h4:=Zz (Kp.refl F w);have sB:=Zz (XF σ dom X);have x8:=Zz (Ns σ dom X);have y1:=Zz (YY σ dom X);have k8:=z.c8;clear H5 hb H7 I z hR R P o H6 hk;have Up:S.mem.length<=12:=cE;go_enter func76,ntmps76
 go_upto_region 2 with fail
 clear k8
 go_loopw [5,6,7,8,15] (fun _ _ _ _ T wr=>∃i:Nat,i<=S.mem.length/\T=.int .i64 i/\Hid (∃g,Gr w F g/\Bk wr b n (gE σ dom X i) g)/\Hid (Kp F w wr)) (fun _ _ _ _ T _=>S.mem.length-(intOf T).toNat)
 case atStart=>exact ⟨0,o_,rfl,H4,h4⟩
 case round =>
  clear H4 h4;obtain ⟨i,hi,rfl,t,m⟩:=hrel;by_cases y9:i<S.mem.length
  ·have bL:(i:Int)<(S.mem.length:Int):=o_
   have A:=Zz (H8.o.kp m.o H1.o);have k9:=A.o.c9;have V:=Zz (dG.o.kp m.o jc.o);have s:=(V.o.look sY M7 (Hu wr) (a:=i) (show i<=100000 by omega)).2;by_cases l:i∈dom
   ·obtain ⟨H3,H2,x0,x1⟩:=y3.o i l
    have o:=wJ.o.kp m.o uC.o i l;obtain ⟨f,O,H⟩:=lM o;rw[H] at o;rw[show vD U dom i=some (U i) from if_pos l,H] at s;replace s:(Instr.lookup 161 (.map (some m1)) (.int .i64 i) true).run prog wr=.ok (.tuple #[.slice f (X i).length O,.bool true]) wr:=s;have N:Kp ac wr wr.drew:=(Kp.refl ac wr).drew;have B:=Zz (dL o N fun _ _ h=>h);have x5:Hid (∃g,Gr w F g/\Bk wr.drew b n (gE σ dom X i) g):=Zz (by obtain ⟨u,Q,d⟩:=t.o;exact ⟨u,Q,d.no N⟩);have p:=Zz m.o.drew;have qN:=Zz (sB.o i l);have Y:=Zz (y1.o i);have y5:=Zz H3;have y6:=Zz H2;have x9:=Zz x0;have y0:=Zz x1;clear N o H3 H2 x0 x1 t m A V;generalize X i=G at *
    go_upto_region 6 with fail
    clear s k9;refine fs ?_;generalize wr.drew=w3 at *;obtain ⟨u,h5,h3⟩:=x5.o;have J:=Zz h5;have h0:=Zz h3;clear h5 h3 x5;have C:=Zz (H8.o.kp p.o H1.o);have c:=Zz (y8.o.kp p.o lJ.o);have x4:=Zz (bf.o.kp p.o o7.o);have x3:Hid (10<=w3.heap.size):=Zz (by have:=dH.o;have:=p.o.size;omega);have h7:=c.o.c0;have h8:=c.o.c1;have h9:=c.o.c2;have H9:=C.o.c3;refine fp 0 ?_;refine fp 1 ?_;refine fp 2 ?_;refine fq 3 (fun W=>W.cell? ⟨st,0,none⟩=some (.pointer (some ⟨b,0,none⟩))/\W.cell? ⟨st,1,none⟩=some (.pointer (some ⟨an,0,none⟩))/\W.cell? ⟨st,2,none⟩=some (.string (bs key))) ⟨h7,h8,h9⟩ ?_;refine fp 4 ?_;refine fp 5 ?_;refine fp 6 ?_;refine fp 7 ?_;refine fp 8 ?_;refine cw 9 H9 ?_;refine fp 11 ?_;refine fd 10 fun K y7 v=>?_;go_simp;refine (x_4 w3 b an i S.slots key).mono ?_;rintro e w4 ⟨rfl,h2⟩;have r:=Zz h2;refine v _ _ (oW (oW oN)) ?_;clear v K h2 h7 h8 h9 H9;have E:=Zz (dL B.o r.o fun _ _ h=>h);have M:=Zz (h0.o.no r.o);have D:Hid (∀q,(Value.slice f G.length O).ownBlock=some q->¬u q):=Zz (M.o.offRow E.o (by unfold ci;decide));have Z:=Zz (v_h RX (x4.o.no r.o) M.o (by have:=x3.o;have:=r.o.size;omega) (show i<n by rw[<-H0.o];exact y9) fG.o y4.o (.slice f G.length O) G (fun W k=>Sy (dL E.o k D.o)) y5.o y6.o (by rw[Y.o];have:=y0.o;omega) (by rw[Y.o];exact x9.o));rw[Y.o,qN.o] at Z;refine fd 12 fun K y7 v=>?_;go_simp;refine Z.o.mono ?_;rintro e w5 ⟨rfl,y2,x2,h1,L⟩;have rV:Hid (∃g,Gr w F g/\Bk w5 b n (gE σ dom X (i+1)) g):=Zz ⟨y2,J.o.then x2 (cL p.o.size r.o.size),h1⟩;have ax:=Zz ((p.o.then r.o fun _ _ h=>h.elim).then L fun q y hf=>J.o q y hf);refine v _ _ (oW (oW oN)) ?_;clear v K L x2 h1;refine fp 13 ?_;refine fe ?_;clear B E h0 M D Z p r C c x4 x3 J;go_wp2;go_roundw
    case rel=>exact ⟨i+1,o_,by go_num,rV,ax⟩
    case measure=>simp[intOf];omega
   rw[show vD U dom i=none from if_neg l] at s;replace s:(Instr.lookup 161 (.map (some m1)) (.int .i64 i) true).run prog wr=.ok (.tuple #[.slice none 0 0,.bool false]) wr:=s;have x7:Hid (∃g,Gr w F g/\Bk wr b n (gE σ dom X (i+1)) g):=Zz (by rw[x8.o i l];exact t.o);clear t A V;go_wp2;go_roundw
   case rel=>exact ⟨i+1,o_,by go_num,x7,m⟩
   case measure=>simp[intOf];omega
  obtain rfl:i=S.mem.length:=o_
  have dE:Hid (∃g,Gr w F g/\Bk wr b n (gE σ dom X n) g/\Kp F w wr):=Zz (by
   obtain ⟨u,Q,d⟩:=t.o;rw[show gE σ dom X S.mem.length=gE σ dom X n by rw[H0.o]] at d
   exact ⟨u,Q,d,m.o⟩)
  clear t m;go_wp2;go_ret;exact ⟨rfl,dE.o⟩
end
section
variable {S4:cj} 
def Qi (l:ab w B2 61 #[.pointer (some ⟨st,0,none⟩)]) (m:ab w B6 155 #[.pointer (some ⟨wk,0,none⟩)]) (j Am i:Option Addr) (cs cm n k:Nat) (g:ab w B3 97 (i_ S (.slice j (S.data+2) cs) (.slice Am S.mem.length cm) (.slice i n k)))
  (h:Cl 70 #[.pointer (some ⟨st,0,none⟩),.pointer (some ⟨wk,0,none⟩),.agg (i_ S (.slice j (S.data+2) cs) (.slice Am S.mem.length cm) (.slice i n k))] w fun e w'=>e=.returned (.int .i64 0)/\R w') :
  Cl 69 #[.pointer (some ⟨B2,0,none⟩),.pointer (some ⟨B6,0,none⟩),.pointer (some ⟨B3,0,none⟩)] w fun e w'=>e=.returned (.int .i64 0)/\R w':=by
 have o:=Zz h;have t2:=l.c0;have t6:=m.c0;have q:=g.c0;have r:=g.c1;have s:=g.c2;have t:=g.c3;have u:=g.c4;have v:=g.c5;have x:=g.c6;have y:=g.c7;have z:=g.c8;have a:=g.c9;have b:=g.c10;clear h l m g;go_enter func69,ntmps69;go_wp2_with fail;refine o.o.mono ?_;rintro e c ⟨rfl,p⟩;go_wp2;go_ret;exact ⟨rfl,p⟩
def Qu (g:ab w B2 61 #[.pointer (some ⟨st,0,none⟩)]) (i:ab w B6 155 #[.pointer (some ⟨wk,0,none⟩)])
  (h:Cl 72 #[.pointer (some ⟨st,0,none⟩),.pointer (some ⟨wk,0,none⟩)] w fun e w'=>e=.returned (.int .i64 0)/\R w') :
  Cl 71 #[.pointer (some ⟨B2,0,none⟩),.pointer (some ⟨B6,0,none⟩)] w fun e w'=>e=.returned (.int .i64 0)/\R w':=by
 have j:=Zz h;have t2:=g.c0;have t6:=i.c0;clear h g i;go_enter func71,ntmps71;go_wp2_with fail;refine j.o.mono ?_;rintro e l ⟨rfl,k⟩;go_wp2;go_ret;exact ⟨rfl,k⟩
end
section
variable {P:Program} {ah:Array Oper} {R:Act->W_->Prop} {H:l7} {fuel:Nat} {listed:Array Bool} {a:Act} 
def zV (i:Nat) {o:Oper} (p:ah[i]?=some o) (hg:o.guard=none) (q:Region.ready .any ah listed=[i]) (j:TypeId) (x y:Operand) (k:o.op=.store j x y) (g e:Nat) (cells:Array Value) (s:a.eval x=.pointer (some ⟨g,e,none⟩)) (t:a.eval y=.agg cells)
  (r:w.there g e cells.size) (n:(P.info? j).map (·.size)=some cells.size) (l:cells.all (·.oneCell')=true)
  (h:l0 .any ah H i w (w.setCells g e cells.toList)/\Fr P ah R H fuel (listed.setIfInBounds i true) (a.put o.dst undef) (w.setCells g e cells.toList)):Fr P ah R H (fuel+1) listed a w :=
 Md i p q fun K u m=>by
  rw[if_pos (by unfold Region.wanted;rw[hg])];exact wp_store_mid j x y k g e cells s t r n l (m _ _ h.1 h.2)
end
def ab.setCells {t:Nat}:∀(vs:List Value) (o:Nat) (cs:Array Value) (w:W_),ab w g t cs->∃cs',ab (w.setCells g o vs) g t cs'/\Kp (fun q=>q=g) w (w.setCells g o vs):=fun vs=>by
 induction vs with
 | nil=>intro o cs w h;exact ⟨cs,h,Kp.refl _ _⟩
 | cons v vs j =>
  intro o cs w h;obtain ⟨cs',e,i⟩:=j (o+1) _ _ (h.set_ o v);exact ⟨cs',e,((Kp.refl (fun q=>q=g) w).setCell ⟨g,o,none⟩ v (.inl rfl)).trans i⟩
def setL (cs:Array Value):Nat->List Value->Array Value
 | _,[]=>cs
 | o,v::vs=>setL (cs.setIfInBounds o v) (o+1) vs
def ab.setCellsL {t:Nat}:∀(vs:List Value) (o:Nat) (cs:Array Value) (w:W_),ab w g t cs->ab (w.setCells g o vs) g t (setL cs o vs):=fun vs=>by
 induction vs with
 | nil=>intro o cs w h;exact h
 | cons v vs e=>intro o cs w h;exact e (o+1) _ _ (h.set_ o v)
def setL_st (b an:Nat) (key:List UInt8) (S0 S:cj) (rr rt vs vm:Value) (sp:Nat):setL (gU b an key S0 rr rt sp) 3 [.int .u64 S.count,.int .u64 S.epoch,.int .i64 S.data,.int .i64 S.slots,.int .i64 0,.int .i64 0,.bool false,vs,vm]=gU b an key S vs vm sp:=by
 simp[setL,gU]
section
variable {S4:cj} 
def QB (p:ab w B2 61 #[.pointer (some ⟨st,0,none⟩)]) (q:ab w B6 155 #[.pointer (some ⟨wk,0,none⟩)]) (k:ab w st 116 (gU b an key S0 rr rt sp)) (i Am:Option Addr) (cs cm:Nat) (o:ab w wk 163 (Af S (.slice i (S.data+2) cs) (.slice Am S.mem.length cm) m1 m2))
  (h:∀W,Kp ac w W->Cl 74 #[.agg (aT b an key),.agg (dK S (.slice i (S.data+2) cs) (.slice Am S.mem.length cm))] W fun e w'=>e=.returned (.int .i64 0)/\R w') :
  Cl 73 #[.pointer (some ⟨B2,0,none⟩),.pointer (some ⟨B6,0,none⟩)] w fun e w'=>e=.returned (.int .i64 0)/\R w':=by
 have E:=Zz (h w.drew (Kp.refl ac w).drew);have d:=Zz p.drew;have f:=Zz q.drew;have j:=Zz k.drew;have g:=Zz o.drew;clear h p q k o;go_enter func73,ntmps73
 go_upto_region 1 with fail
 refine fs ?_;generalize w.drew=J at *;have t2:=d.o.c0;have t6:=f.o.c0;have l:=j.o.c0;have m:=j.o.c1;have n:=j.o.c2;have s:=g.o.c0;have t:=g.o.c1;have u:=g.o.c2;have v:=g.o.c3;have x:=g.o.c4;have y:=g.o.c5;have z:=g.o.c6;have a:=g.o.c7;have c:=g.o.c8;refine cw 0 t2 ?_;refine fp 1 ?_;refine fp 2 ?_;refine fq 3 (fun W=>W.cell? ⟨st,0,none⟩=some (.pointer (some ⟨b,0,none⟩))/\W.cell? ⟨st,1,none⟩=some (.pointer (some ⟨an,0,none⟩))/\W.cell? ⟨st,2,none⟩=some (.string (bs key))) ⟨l,m,n⟩ ?_;refine cw 4 t6 ?_;refine fp 5 ?_;refine fp 6 ?_;refine fq 7 (fun W=>W.cell? ⟨wk,0,none⟩=some (.int .u64 S.count)/\W.cell? ⟨wk,1,none⟩=some (.int .u64 S.epoch)/\W.cell? ⟨wk,2,none⟩=some (.int .i64 S.data)/\W.cell? ⟨wk,3,none⟩=some (.int .i64 S.slots)/\W.cell? ⟨wk,4,none⟩=some (.int .i64 0)/\W.cell? ⟨wk,5,none⟩=some (.int .i64 0)/\W.cell? ⟨wk,6,none⟩=some (.bool false)/\W.cell? ⟨wk,7,none⟩=some (.slice i (S.data+2) cs)/\W.cell? ⟨wk,8,none⟩=some (.slice Am S.mem.length cm)) ⟨s,t,u,v,x,y,z,a,c⟩ ?_;refine fd 8 fun K I r=>?_;go_simp;refine E.o.mono ?_;rintro e M ⟨rfl,G⟩;refine r _ _ (oW (oW (oW (oW oN)))) ?_;clear r K t2 t6 l m n s t u v x y z a c;refine fp 9 ?_;refine fe ?_;go_wp2;go_ret;exact ⟨rfl,G⟩
def QC (y:ab w B2 61 #[.pointer (some ⟨st,0,none⟩)]) (z:ab w B6 155 #[.pointer (some ⟨wk,0,none⟩)]) (t:ab w st 116 (gU b an key S0 rr rt sp)) (g Am:Option Addr) (cs cm:Nat) (u:ab w wk 163 (Af S (.slice g (S.data+2) cs) (.slice Am S.mem.length cm) m1 m2))
  (h:∀W,Kp (fun q=>q=st) w W->ab W st 116 (gU b an key S (.slice g (S.data+2) cs) (.slice Am S.mem.length cm) sp)->Cl 76 #[.pointer (some ⟨st,0,none⟩),.pointer (some ⟨wk,0,none⟩)] W fun e w'=>e=.returned (.int .i64 0)/\R w') :
  Cl 75 #[.pointer (some ⟨B6,0,none⟩),.pointer (some ⟨B2,0,none⟩)] w fun e w'=>e=.returned (.int .i64 0)/\R w':=by
 have P:=Zz (fun W k=>h W ((Kp.refl (fun q=>q=st) w).drew.trans k));have n:=Zz y.drew;have o:=Zz z.drew;have l:=Zz t.drew;have i:=Zz u.drew;clear h y z t u;go_enter func75,ntmps75
 go_upto_region 1 with fail
 refine fs ?_;generalize w.drew=m at *;have t2:=n.o.c0;have t6:=o.o.c0;have c:=i.o.c0;have d:=i.o.c1;have f:=i.o.c2;have E:=i.o.c3;have G:=i.o.c4;have I:=i.o.c5;have J:=i.o.c6;have M:=i.o.c7;have N:=i.o.c8
 have s:Hid (m.there st 3 9):=Zz (fun j a=>by
  refine ⟨?_,l.o.frozen _⟩;rw[l.o.cell (3+j)];unfold gU;have a:j<9:=a
  rcases j with _|_|_|_|_|_|_|_|_|j<;>first|rfl|omega)
 have Q:Hid (ab (m.setCells st 3 [.int .u64 S.count,.int .u64 S.epoch,.int .i64 S.data,.int .i64 S.slots,.int .i64 0,.int .i64 0,.bool false,.slice g (S.data+2) cs,.slice Am S.mem.length cm]) st 116 (gU b an key S (.slice g (S.data+2) cs) (.slice Am S.mem.length cm) sp)):=Zz (by
  have x:=ab.setCellsL [.int .u64 S.count,.int .u64 S.epoch,.int .i64 S.data,.int .i64 S.slots,.int .i64 0,.int .i64 0,.bool false,.slice g (S.data+2) cs,.slice Am S.mem.length cm] 3 _ m l.o;rw[setL_st] at x
  exact x)
 have v:=Zz (ab.setCells [.int .u64 S.count,.int .u64 S.epoch,.int .i64 S.data,.int .i64 S.slots,.int .i64 0,.int .i64 0,.bool false,.slice g (S.data+2) cs,.slice Am S.mem.length cm] 3 _ m l.o);refine cw 0 t2 ?_;refine cw 1 t6 ?_;refine fp 2 ?_;refine fp 3 ?_;refine fq 4 (fun W=>W.cell? ⟨wk,0,none⟩=some (.int .u64 S.count)/\W.cell? ⟨wk,1,none⟩=some (.int .u64 S.epoch)/\W.cell? ⟨wk,2,none⟩=some (.int .i64 S.data)/\W.cell? ⟨wk,3,none⟩=some (.int .i64 S.slots)/\W.cell? ⟨wk,4,none⟩=some (.int .i64 0)/\W.cell? ⟨wk,5,none⟩=some (.int .i64 0)/\W.cell? ⟨wk,6,none⟩=some (.bool false)/\W.cell? ⟨wk,7,none⟩=some (.slice g (S.data+2) cs)/\W.cell? ⟨wk,8,none⟩=some (.slice Am S.mem.length cm)) ⟨c,d,f,E,G,I,J,M,N⟩ ?_;refine fp 5 ?_;refine fp 6 ?_;refine zV 7 rfl rfl k_ 60 _ _ rfl st 3 #[.int .u64 S.count,.int .u64 S.epoch,.int .i64 S.data,.int .i64 S.slots,.int .i64 0,.int .i64 0,.bool false,.slice g (S.data+2) cs,.slice Am S.mem.length cm] rfl rfl s.o k_ (by simp[Value.oneCell']) ?_;refine ⟨oW (oW (oW oN)),?_⟩;clear c d f E G I J M N t2 t6;refine fe ?_;obtain ⟨cs',T,O⟩:=v.o;have p:=Zz O;clear T O v s;generalize m.setCells st 3 [.int .u64 S.count,.int .u64 S.epoch,.int .i64 S.data,.int .i64 S.slots,.int .i64 0,.int .i64 0,.bool false,.slice g (S.data+2) cs,.slice Am S.mem.length cm]=r at *;have Y:Hid (ab r B2 61 #[.pointer (some ⟨st,0,none⟩)]):=Zz (n.o.kp p.o fun e=>ab.ne_ n.o l.o d_ e);have V:Hid (ab r B6 155 #[.pointer (some ⟨wk,0,none⟩)]):=Zz (o.o.kp p.o fun e=>ab.ne_ o.o l.o d_ e);have t2:=Y.o.c0;have t6:=V.o.c0;have X:=Zz (P.o r p.o Q.o);go_wp2_with fail;refine X.o.mono ?_;rintro e w3 ⟨rfl,U⟩;go_wp2;go_ret;exact ⟨rfl,U⟩
end
def Dt (l:List Wr):∀(e:Nat->B_),(∀t,(e t).size<=2032)->(∀x∈l,x.cell.size<=2032)->∀t,(dp e l t).size<=2032:=by
 induction l with
 | nil=>intro e h _ t;exact h t
 | cons x l j =>
  intro e h g t;refine j (nP e x.at' x.cell) (fun q=>?_) (fun y i=>g y (List.mem_cons_of_mem _ i)) t;unfold nP;split
  ·exact g x List.mem_cons_self
  exact h q
def Kl {s:Nat} (hs:sl s) (g:Nat->B_) (l:List Wr) (k:∀t,(g t).size<=2032) (h:∀x∈l,x.at'<s/\x.cell.size<=2032):∀x∈gj s g l,x.ok:=by
 intro x e
 have p:s<=4:=by rcases hs with rfl|rfl<;>decide
 have i:∀x∈l,x.at'<s:=fun x e=>(h x e).1;unfold gj at e;rcases List.mem_append.1 e with e|e
 ·obtain ⟨q,m,rfl⟩:=List.mem_map.1 e
  obtain ⟨j,o⟩:=zu hs l i q ((Kq _ _).1 m);refine ⟨by show 100<=100+q;omega,by show 100+q<140;omega,?_⟩;show (dD s (dp g l) q).size<=2032;rw[w_8];decide
 obtain ⟨t,n,rfl⟩:=List.mem_map.1 e;have j:=Gq l i t ((Kq _ _).1 n);refine ⟨by show 100<=120+t;omega,by show 120+t<140;omega,?_⟩;exact Dt l g k (fun x e=>(h x e).2) t
def MA (s:Nat) (e:Nat->B_) (l:List Wr) (hl:l.length<=20):(gj s e l).length<96:=by
 unfold gj;rw[cd,fW,fW,w_6,w_6];have:=L_ s l;have:=N0 l;omega
def wM (s:Nat) (e:Nat->Nat->B_) (l:List fu) (j:Nat):List Wr:=gj s (e j) (lC l j)
def cmT (s:Nat) (e:Nat->Nat->B_) (l:List fu) (j:Nat):B_:=e9 s (dp (e j) (lC l j))
def dZ (S:cj) (σ:Nat->ao) (n:Nat) (e:Nat->Nat->B_) (l:List fu):cj:=nL (f_ (e7 S) σ n) (lL (cZ (e7 S) σ n) (cmT S.slots e l) (wM S.slots e l)) n
def Fy (S:cj) (σ:Nat->ao) (n:Nat) (e:Nat->Nat->B_) (l:List fu):Nat->ao:=gE σ (cZ (e7 S) σ n) (fun j=>fD (bm (wM S.slots e l j))) n
def JQ (S:cj) (σ:Nat->ao) (n:Nat) (e:Nat->Nat->B_) (l:List fu):Nat->ao:=eY (Fy S σ n e l) ((dZ S σ n e l).count % 2) (bs (bh (dZ S σ n e l))) n
def l1 (S:cj) (σ:Nat->ao) (n:Nat) (e:Nat->Nat->B_) (l:List fu):Nat->ao:=gE (JQ S σ n e l) (cZ (e7 S) σ n) (wM S.slots e l) n
def DS (σ:Nat->ao) (dom:List Nat) (T:Nat->List Wr) (k j:Nat) (e:j∈dom->(σ j).dead=false) (h:(σ j).wait<=500):(gE σ dom T k j).wait<=500:=by
 unfold gE;split
 ·rename_i g
  unfold ao.flush;rw[ao.wrs_dead,e g.2];simp
 exact h
def kW (σ:Nat->ao) (dom:List Nat) (T:Nat->List Wr) (k j:Nat):(gE σ dom T k j).dead=(σ j).dead:=by
 unfold gE;split
 ·unfold ao.flush
  split
  ·rw[ao.wrs_dead]
  exact ao.wrs_dead _ _
 rfl
def w_x (σ:Nat->ao) (c:Nat) (x:B_) (k j:Nat):(eY σ c x k j).dead=(σ j).dead:=by
 unfold eY;split
 ·unfold ao.flush
  split
  ·rw[ao.write_dead]
  exact ao.write_dead _ _ _
 rfl
def Q5 (σ:Nat->ao) (c:Nat) (x:B_) (k j:Nat) (h:(σ j).wait<=500):(eY σ c x k j).wait<=500:=by
 unfold eY;split
 ·unfold ao.flush
  split
  ·rename_i e
   unfold ao.write;rw[ao.write_dead] at e;rw[e];exact h
  simp
 exact h
section
variable {ad:List UInt8}
def HH (h5:a_ w) (hb:Bk w b n σ F) (hw:10<=w.heap.size) (hk:key.length=32) (Q:ab w st 116 (gU b an key S rr rt sp)) (R:ab w wk 163 (Af (e7 S) vs vm m1 m2)) (hR:bg w base (e7 S) vs vm) (h6:a7 (e7 S)) (eH:S.mem.length=n)
  (H3:aS KI w m1 (fun _=>none) []) (H4:aS KI w m2 (fun _=>none) []) (iz:m1≠m2) (y4:10<=base) (wD:10<=m1) (wE:10<=m2)
  (v:ab w B2 61 #[.pointer (some ⟨st,0,none⟩)]) (s:ab w B6 155 #[.pointer (some ⟨wk,0,none⟩)]) (h0 Am L:Option Addr) (cs cm h3:Nat) (l:List fu) (H:ab w B3 97 (i_ S (.slice h0 (S.data+2) cs) (.slice Am S.mem.length cm) (.slice L l.length h3)))
  (bz:Nat) (dw:w.ownsRow bz 154 3 (.slice L l.length h3) l.length (pS l)) (hl:l.length<=100) (ha:ab w an 180 #[.int .u64 S.count,.string (bs ad)]) (I1:10<=an) (I2:10<=st)
  (m:Nat->Nat->B_) (jC:∀j t,(m j t).size<=2032) (T:∀i (h:i<S.mem.length),(S.mem[i]'h).st=1->0<(lC l i).length/\(lC l i).length<=20/\∀x∈lC l i,x.at'<S.slots/\x.cell.size<=2032)
  (htop:∀i (h:i<S.mem.length),(S.mem[i]'h).st=1->(σ i).dead=false->(S.mem[i]'h).top=e9 S.slots (m i)/\∀q,1<=q->q<S.slots->tl (σ i).now (100+q)=dD S.slots (m i) q)
  (y2:∀j,j<n->(σ j).wait<=500) (cJ:∃i,i<n/\(σ i).dead=false) (y5:pG (f_ (e7 S) σ n) (S.data+2)<=2) :
  ∃c:Nat->W_->Prop,c 0 w /\
   (∀W,c 0 W->Cl 69 #[.pointer (some ⟨B2,0,none⟩),.pointer (some ⟨B6,0,none⟩),.pointer (some ⟨B3,0,none⟩)] W fun e w'=>e=.returned (.int .i64 0)/\c 1 w') /\
   (∀W,c 1 W->Cl 71 #[.pointer (some ⟨B2,0,none⟩),.pointer (some ⟨B6,0,none⟩)] W fun e w'=>e=.returned (.int .i64 0)/\c 2 w') /\
   (∀W,c 2 W->Cl 73 #[.pointer (some ⟨B2,0,none⟩),.pointer (some ⟨B6,0,none⟩)] W fun e w'=>e=.returned (.int .i64 0)/\c 3 w') /\
   (∀W,c 3 W->Cl 75 #[.pointer (some ⟨B6,0,none⟩),.pointer (some ⟨B2,0,none⟩)] W fun e w'=>e=.returned (.int .i64 0)/\c 4 w') /\
   (∀W,c 4 W->ab W st 116 (gU b an key (dZ S σ n m l) vs vm sp)/\bg W base (dZ S σ n m l) vs vm/\ab W an 180 #[.int .u64 ((dZ S σ n m l).count:Int),.string (bs (dC (bh (dZ S σ n m l))))]/\∃g,vm.ownBlock=some g/\∃C,Gr w F C/\Bk W b n (l1 S σ n m l) C/\Kp (fun q=>F q\/q=an\/q=st\/S3 g m1 m2 q) w W):=by
 have hn:(e7 S).mem.length=n:=eH;have H5:sl S.slots:=h6.sl;obtain ⟨g,E,lE,M,bC⟩:=LF hR.mems (by have:=h6.n1;omega);subst lE;obtain ⟨yx,dQ⟩:=fj hR.mems (q:=g) rfl;have ri:=hR.reads.shape;obtain ⟨J,O,y7,mX,rfl,_⟩:=ri
 have ZL:∀q,S3 g m1 m2 q->¬F q:=fun q k=>by
  rcases k with rfl|rfl|rfl
  ·exact hb.offRow hR.mems (by unfold ci;decide) _ rfl
  ·exact hb.offMap H3
  exact hb.offMap H4
 have Y:∀q t cs,ab w q t cs->t≠108->¬S3 g m1 m2 q:=fun q t cs r V k=>by
  rcases k with rfl|rfl|rfl
  ·exact ab.ne_ r dQ V rfl
  ·exact H3.ne_blk r rfl
  exact H4.ne_blk r rfl
 have D:∀q t cs,ab w q t cs->t≠108->¬ci t->¬(F q\/S3 g m1 m2 q):=fun q t cs r V x0 k=>by
  rcases k with k|k
  ·exact hb.off r x0 k
  exact Y q t cs r V k
 have h2:∀q,q<6->¬(F q\/S3 g m1 m2 q):=fun q s k=>by
  rcases k with k|rfl|rfl|rfl
  ·have:=(hb.lt k).1;omega
  ·omega
  ·omega
  omega
 have y9:∀q t cs,ab w q t cs->t≠180->q≠an:=fun q t cs r V e=>by subst e;exact ab.ne_ r ha V rfl
 have o9:∀q,q<6->q≠an:=fun q s e=>by
  omega
 have y6:∀j∈cZ (e7 S) σ n,j<n/\(∃h:j<S.mem.length,(S.mem[j]'h).st=1)/\(σ j).dead=false:=fun j K=>by
  obtain ⟨P,v,H⟩:=(j1 _ _ _ _).1 K;have y1:j<S.mem.length:=o_;refine ⟨P,⟨y1,?_⟩,H⟩;rw[<-SH (S:=S) y1];exact v
 have y3:∀j∈cZ (e7 S) σ n,(wM S.slots m l j).length<96/\(∀x∈wM S.slots m l j,x.ok)/\(σ j).dead=false/\(σ j).wait<=500:=fun j K=>by
  obtain ⟨P,⟨v,H⟩,h4⟩:=y6 j K;obtain ⟨z1,x3,h9⟩:=T j v H;exact ⟨MA _ _ _ x3,Kl H5 _ _ (jC j) h9,h4,y2 j P⟩
 have y8:∀j∈cZ (e7 S) σ n,(cmT S.slots m l j).size=32:=fun j _=>v_9 H5 _;have x7:=JB h6 σ n
 have x8:a7 (dZ S σ n m l):=Gt x7 _ (fun j t d h=>by
  unfold lL at h;split at h
  ·injection h with h
   injection h with P v
   subst P v;exact ⟨v_9 H5 _,v_2 _⟩
  cases h) n
 let P1:W_->Prop:=fun W=>Kp (S3 g m1 m2) w W/\bg W base (f_ (e7 S) σ n) (.slice J ((e7 S).data+2) O) (.slice (some ⟨g,0,none⟩) (e7 S).mem.length E)/\(∃U,aS KI W m1 (vD U (cZ (e7 S) σ n)) (cZ (e7 S) σ n)/\Rows W w.heap.size U (cZ (e7 S) σ n) (wM S.slots m l))/\aS KI W m2 (dg (fc (cmT S.slots m l) (cZ (e7 S) σ n))) (cZ (e7 S) σ n);let P2:W_->Prop:=fun W=>(∃f,Gr w F f/\Bk W b n (Fy S σ n m l) f)/\Kp (fun q=>F q\/S3 g m1 m2 q) w W/\bg W base (dZ S σ n m l) (.slice J ((e7 S).data+2) O) (.slice (some ⟨g,0,none⟩) (e7 S).mem.length E)/\∃U,aS KI W m1 (vD U (cZ (e7 S) σ n)) (cZ (e7 S) σ n)/\Rows W w.heap.size U (cZ (e7 S) σ n) (wM S.slots m l);let P3:W_->Prop:=fun W=>(∃f,Gr w F f/\Bk W b n (JQ S σ n m l) f)/\Kp (fun q=>F q\/q=an\/S3 g m1 m2 q) w W/\bg W base (dZ S σ n m l) (.slice J ((e7 S).data+2) O) (.slice (some ⟨g,0,none⟩) (e7 S).mem.length E)/\ab W an 180 #[.int .u64 ((dZ S σ n m l).count:Int),.string (bs (dC (bh (dZ S σ n m l))))]/\∃U,aS KI W m1 (vD U (cZ (e7 S) σ n)) (cZ (e7 S) σ n)/\Rows W w.heap.size U (cZ (e7 S) σ n) (wM S.slots m l);let P4:W_->Prop:=fun W=>ab W st 116 (gU b an key (dZ S σ n m l) (.slice J ((e7 S).data+2) O) (.slice (some ⟨g,0,none⟩) (e7 S).mem.length E) sp)/\bg W base (dZ S σ n m l) (.slice J ((e7 S).data+2) O) (.slice (some ⟨g,0,none⟩) (e7 S).mem.length E)/\ab W an 180 #[.int .u64 ((dZ S σ n m l).count:Int),.string (bs (dC (bh (dZ S σ n m l))))]/\∃q,(Value.slice (some ⟨g,0,none⟩) (e7 S).mem.length E).ownBlock=some q/\∃C,Gr w F C/\Bk W b n (l1 S σ n m l) C/\Kp (fun z=>F z\/z=an\/z=st\/S3 q m1 m2 z) w W;refine ⟨fun i=>match i with|0=>fun W=>W=w|1=>P1|2=>P2|3=>P3|_=>P4,rfl,?_,?_,?_,?_,fun W h=>h⟩
 ·rintro W (rfl:W=w)
  refine Qi v s h0 Am L cs cm l.length h3 H ?_;have hp:=WU (S:=e7 S) h5 hb hw hk Q R hR h6 hn H3 H4 iz y4 wD wE (.slice h0 (S.data+2) cs) (.slice Am S.mem.length cm) (.slice L l.length h3) l bz dw hl S ⟨h0,cs,Am,cm,rfl,rfl⟩ m (fun i h P=>⟨(T i h P).1,(T i h P).2.2⟩) htop;refine hp.mono ?_;rintro e w' ⟨rfl,bj,ae,aw,ar,H6,x2,aE⟩
  obtain rfl:g=H6:=by injection x2
  have e0:(e7 S).data=S.data:=rfl;rw[e0,if_pos y5];exact ⟨rfl,aE,ae,aw,ar⟩
 ·rintro W ⟨o,N,⟨U,hm,B⟩,yh⟩
  have H1:=hb.kp o ZL;obtain ⟨ZM,x4⟩:=fj N.mems (q:=g) rfl;have y:=Q.kp o (Y st _ _ Q d_);have X:=R.kp o (Y wk _ _ R d_);refine Qu (v.kp o (Y _ _ _ v d_)) (s.kp o (Y _ _ _ s d_)) ?_;have hp:=Wn (S:=f_ (e7 S) σ n) (h5.kp o (fun g h hh=>h2 g h (.inr hh))) H1 (by have:=o.size;omega) y X N x7 (by rw[Tz];exact hn) y4 U (cZ (e7 S) σ n) (wM S.slots m l) (cmT S.slots m l) w.heap.size hm B yh y3 y8 y5;refine hp.mono ?_;rintro e w' ⟨rfl,kA,⟨f,M,Z⟩,H6,x2,u⟩
  obtain rfl:g=H6:=by injection x2
  refine ⟨rfl,⟨f,(Gr.refl w F).then M o.size,Z⟩,(o.mono fun q _ h=>Or.inr h).trans (u.mono fun q _ h=>h.elim .inl (fun e=>.inr (.inl e))),kA,U,hm.kp u (fun h=>h.elim (H1.offMap hm) fun e=>hm.ne_blk x4 e),B.kp u fun q k cs r=>?_⟩;rcases k with k|rfl
  ·exact H1.off r (by unfold ci;decide) k
  exact ab.ne_ r x4 d_ rfl
 ·rintro W ⟨⟨f,M,Z⟩,o,N,U,hm,B⟩
  have A:(dZ S σ n m l).mem.length=(e7 S).mem.length:=by unfold dZ;rw[w_7,Tz]
  have y:=Q.kp o (D st _ _ Q d_ (by unfold ci;decide));have X:=R.kp o (D wk _ _ R d_ (by unfold ci;decide));have x9:=ha.kp o (D an _ _ ha d_ (by unfold ci;decide));refine QB (S:=dZ S σ n m l) (v.kp o (D _ _ _ v d_ (by unfold ci;decide))) (s.kp o (D _ _ _ s d_ (by unfold ci;decide))) y J (some ⟨g,0,none⟩) O E (by rw[A];exact X) ?_;intro y0 p;have a:=Z.no p;have I:=N.no p;have hp:=z_ah (key:=key) (h5.kp o h2 |>.no p) a (by have:=o.size;have:=p.size;omega) S.count ad (x9.kp p fun h=>h) (dZ S σ n m l) (.slice J ((e7 S).data+2) O) (.slice (some ⟨g,0,none⟩) (e7 S).mem.length E) x8 I.reads (by show S.count<S.count+1;omega) (fun i H8=>by have:=DS σ (cZ (e7 S) σ n) (fun j=>fD (bm (wM S.slots m l j))) n i (fun h=>(y6 i h).2.2) (y2 i H8);exact cL this d_) (by obtain ⟨i,H8,hd⟩:=cJ;exact ⟨i,H8,by unfold Fy;rw[kW];exact hd⟩);rw[<-A] at hp;refine hp.mono ?_;rintro e w' ⟨rfl,Ql,H0,x1,H2,u⟩;have h8:=x9.kp p fun h=>h;refine ⟨rfl,⟨H0,M.then x1 (cL o.size p.size),H2⟩,((o.mono fun q _ h=>h.elim .inl (fun e=>.inr (.inr e))).then p fun _ _ h=>h.elim).then u (fun q k H7=>H7.elim (fun h=>.inl (M q k h)) (fun e=>.inr (.inl e))),I.kp u (fun q k h=>?_) (fun q k h=>?_),Ql,U,(hm.no p).kp u (fun h=>h.elim (a.offMap (hm.no p)) fun e=>(hm.no p).ne_blk h8 e),(B.no p).kp u fun q k cs r=>?_⟩
  ·obtain ⟨H9,G⟩:=fj I.seats k
   rcases h with h|rfl
   ·exact a.off G (by unfold ci;decide) h
   exact ab.ne_ G h8 d_ rfl
  ·obtain ⟨H9,G⟩:=fj I.mems k
   rcases h with h|rfl
   ·exact a.off G (by unfold ci;decide) h
   exact ab.ne_ G h8 d_ rfl
  rcases k with h|rfl
  ·exact a.off r (by unfold ci;decide) h
  exact ab.ne_ r h8 d_ rfl
 rintro W ⟨⟨f,M,Z⟩,o,N,x6,U,hm,B⟩
 have A:(dZ S σ n m l).mem.length=(e7 S).mem.length:=by unfold dZ;rw[w_7,Tz]
 have h1:∀q t cs,ab w q t cs->t≠108->t≠180->¬ci t->¬(F q\/q=an\/S3 g m1 m2 q):=fun q t cs r V xp x0 k=>by
  rcases k with k|k|k
  ·exact hb.off r x0 k
  ·exact y9 q t cs r xp k
  exact Y q t cs r V k
 have y:=Q.kp o (h1 st _ _ Q d_ d_ (by unfold ci;decide));have X:=R.kp o (h1 wk _ _ R d_ d_ (by unfold ci;decide));refine QC (S:=dZ S σ n m l) (v.kp o (h1 _ _ _ v d_ d_ (by unfold ci;decide))) (s.kp o (h1 _ _ _ s d_ d_ (by unfold ci;decide))) y J (some ⟨g,0,none⟩) O E (by rw[A];exact X) ?_;intro y0 p h7;rw[A] at h7
 have a:=Z.kp p (fun q k H7=>by
  have e:q=st:=k;subst e
  exact Z.off y (by unfold ci;decide) H7)
 have I:=N.kp p (fun q k h=>by
  obtain ⟨H9,G⟩:=fj N.seats k;have e:q=st:=h;subst e
  exact ab.ne_ G y d_ rfl) (fun q k h=>by
  obtain ⟨H9,G⟩:=fj N.mems k;have e:q=st:=h;subst e
  exact ab.ne_ G y d_ rfl)
 have Qm:=X.kp p (fun e=>ab.ne_ X y d_ e);have lU:=hm.kp p (fun e=>hm.ne_blk y e)
 have Qn:=B.kp p (fun q k cs r=>by
  have e:q=st:=k;subst e
  exact ab.ne_ r y d_ rfl)
 have x5:=x6.kp p (fun e=>ab.ne_ x6 y d_ e)
 have xf:a_ y0:=(h5.kp o (fun q s k=>by
  rcases k with k|k|k
  ·exact h2 q s (.inl k)
  ·exact o9 q s k
  ·exact h2 q s (.inr k))).kp p (fun q s k=>by
  have e:q=st:=k;subst e
  omega)
 have hp:=Kc (S:=dZ S σ n m l) xf a (by have:=o.size;have:=p.size;omega) hk h7 Qm I x8 (by rw[A];exact hn) U (cZ (e7 S) σ n) (wM S.slots m l) w.heap.size lU Qn (fun j K=>by
  obtain ⟨z1,x3,h9,z4⟩:=y3 j K;refine ⟨o_,x3,?_,?_⟩
  ·unfold JQ Fy;rw[w_x,kW];exact h9
  exact Q5 _ _ _ _ _ (DS _ _ _ _ _ (fun _=>h9) z4))
 refine hp.mono ?_;rintro e w' ⟨rfl,H0,x1,H2,u⟩;refine ⟨rfl,h7.kp u (fun h=>a.off h7 (by unfold ci;decide) h),I.kp u (fun q k h=>a.offRow I.seats (by unfold ci;decide) q k h) (fun q k h=>a.offRow I.mems (by unfold ci;decide) q k h),x5.kp u (fun h=>a.off x5 (by unfold ci;decide) h),g,rfl,H0,M.then x1 (cL o.size p.size),H2,?_⟩;exact ((o.mono fun q _ h=>h.elim .inl (fun h=>h.elim (fun e=>.inr (.inl e)) (fun h=>.inr (.inr (.inr h))))).then p fun q _ e=>.inr (.inr (.inl e))).then u fun q k h=>.inl (M q k h)
end
def DZ (e:a7 S) (g:S.count<1000):a7 (e7 S):=⟨e.d2,e.d8,e.sl,e.n1,e.n12,e.mem,g,e.e⟩
def idxF0 (P B:Nat) (W:W_):(Instr.index 164 (.agg #[.func (.func 69) #[] #[.pointer (some ⟨P,0,none⟩),.pointer (some ⟨B,0,none⟩),.pointer (some ⟨P+1,0,none⟩)],.func (.func 71) #[] #[.pointer (some ⟨P,0,none⟩),.pointer (some ⟨B,0,none⟩)],.func (.func 73) #[] #[.pointer (some ⟨P,0,none⟩),.pointer (some ⟨B,0,none⟩)],.func (.func 75) #[] #[.pointer (some ⟨B,0,none⟩),.pointer (some ⟨P,0,none⟩)]]) (.int .i64 0)).run prog W=.ok (.func (.func 69) #[] #[.pointer (some ⟨P,0,none⟩),.pointer (some ⟨B,0,none⟩),.pointer (some ⟨P+1,0,none⟩)]) W:=k_
def idxF1 (P B:Nat) (W:W_):(Instr.index 164 (.agg #[.func (.func 69) #[] #[.pointer (some ⟨P,0,none⟩),.pointer (some ⟨B,0,none⟩),.pointer (some ⟨P+1,0,none⟩)],.func (.func 71) #[] #[.pointer (some ⟨P,0,none⟩),.pointer (some ⟨B,0,none⟩)],.func (.func 73) #[] #[.pointer (some ⟨P,0,none⟩),.pointer (some ⟨B,0,none⟩)],.func (.func 75) #[] #[.pointer (some ⟨B,0,none⟩),.pointer (some ⟨P,0,none⟩)]]) (.int .i64 1)).run prog W=.ok (.func (.func 71) #[] #[.pointer (some ⟨P,0,none⟩),.pointer (some ⟨B,0,none⟩)]) W:=k_
def idxF2 (P B:Nat) (W:W_):(Instr.index 164 (.agg #[.func (.func 69) #[] #[.pointer (some ⟨P,0,none⟩),.pointer (some ⟨B,0,none⟩),.pointer (some ⟨P+1,0,none⟩)],.func (.func 71) #[] #[.pointer (some ⟨P,0,none⟩),.pointer (some ⟨B,0,none⟩)],.func (.func 73) #[] #[.pointer (some ⟨P,0,none⟩),.pointer (some ⟨B,0,none⟩)],.func (.func 75) #[] #[.pointer (some ⟨B,0,none⟩),.pointer (some ⟨P,0,none⟩)]]) (.int .i64 2)).run prog W=.ok (.func (.func 73) #[] #[.pointer (some ⟨P,0,none⟩),.pointer (some ⟨B,0,none⟩)]) W:=k_
def idxF3 (P B:Nat) (W:W_):(Instr.index 164 (.agg #[.func (.func 69) #[] #[.pointer (some ⟨P,0,none⟩),.pointer (some ⟨B,0,none⟩),.pointer (some ⟨P+1,0,none⟩)],.func (.func 71) #[] #[.pointer (some ⟨P,0,none⟩),.pointer (some ⟨B,0,none⟩)],.func (.func 73) #[] #[.pointer (some ⟨P,0,none⟩),.pointer (some ⟨B,0,none⟩)],.func (.func 75) #[] #[.pointer (some ⟨B,0,none⟩),.pointer (some ⟨P,0,none⟩)]]) (.int .i64 3)).run prog W=.ok (.func (.func 75) #[] #[.pointer (some ⟨B,0,none⟩),.pointer (some ⟨P,0,none⟩)]) W:=k_
section
variable {ad:List UInt8}
def JK (H0:a_ w) (hb:Bk w b n σ F) (H1:10<=w.heap.size) (hk:key.length=32) (J:ab w st 116 (gU b an key S vs vm sp)) (hR:ja w S vs vm) (T:a7 S) (B:S.count<1000) (Z:S.mem.length=n)
  (H7 H6 cv:Value) (A:ja w S H7 H6) (l:List fu) (bz:Nat) (O:w.ownsRow bz 154 3 cv l.length (pS l)) (hl:l.length<=100) (G:∀x∈l,x.disk<n) (ha:ab w an 180 #[.int .u64 S.count,.string (bs ad)]) (x5:10<=an) (x6:10<=st)
  (v:Nat->Nat->B_) (H3:∀j t,(v j t).size<=2032) (E:∀i (h:i<S.mem.length),(S.mem[i]'h).st=1->0<(lC l i).length/\(lC l i).length<=20/\∀x∈lC l i,x.at'<S.slots/\x.cell.size<=2032)
  (htop:∀i (h:i<S.mem.length),(S.mem[i]'h).st=1->(σ i).dead=false->(S.mem[i]'h).top=e9 S.slots (v i)/\∀q,1<=q->q<S.slots->tl (σ i).now (100+q)=dD S.slots (v i) q)
  (h9:∀j,j<n->(σ j).wait<=500) (h7:∃i,i<n/\(σ i).dead=false) (H8:pG (f_ (e7 S) σ n) (S.data+2)<=2) :
  Cl 41 #[.pointer (some ⟨st,0,none⟩),.agg (i_ S H7 H6 cv)] w fun e w'=>e=.returned (.int .i64 0)/\∃y z,ab w' st 116 (gU b an key (dZ S σ n v l) y z sp)/\bg w' w.heap.size (dZ S σ n v l) y z/\ab w' an 180 #[.int .u64 ((dZ S σ n v l).count:Int),.string (bs (dC (bh (dZ S σ n v l))))]/\∃I,Gr w F I/\Bk w' b n (l1 S σ n v l) I/\Kp (fun q=>F q\/q=an\/q=st) w w':=by
 have h4:=DZ T B;have gV:Hid (0<S.mem.length):=Zz (by have:=T.n1;omega);obtain ⟨r,cs,Am,cm,y5,y3⟩:=A.shape;subst y5 y3;obtain ⟨p,u,oe⟩:=lM O;subst oe;have x1:=Zz (fun W (k:Kp ac w W)=>SO (J.kp k fun h=>h) (hR.no k) (A.no k) T B l (Sy (dL O k fun _ _ h=>h)) o_ (by rw[Z];exact G));have h8:=Zz (fun W (k:Kp ac w W)=>tQ (J.kp k fun h=>h));have H4:=Zz (fun W (k:Kp ac w W) wk m1 m2 B2 B3 B6 base y z Q y1 M R U qM wD wE h2 h6 h3=>HH (w:=W) (wk:=wk) (m1:=m1) (m2:=m2) (B2:=B2) (B3:=B3) (B6:=B6) (base:=base) (vs:=y) (vm:=z) (H0.no k) (hb.no k) (by have:=k.size;omega) hk (J.kp k fun h=>h) Q y1 h4 Z M R U qM wD wE h2 h6 r Am p cs cm u l h3 bz (dL O k fun _ _ h=>h) hl (ha.kp k fun h=>h) x5 x6 v H3 E htop h9 h7 H8);have N:=Zz H1;have X:=Zz ((ab.new w 61 #[.pointer (some ⟨st,0,none⟩)]).alloc (.cells (i_ S (.slice r (S.data+2) cs) (.slice Am S.mem.length cm) (.slice p l.length u)) 97));have m:=Zz (ab.new (w.alloc (.cells #[.pointer (some ⟨st,0,none⟩)] 61)) 97 (i_ S (.slice r (S.data+2) cs) (.slice Am S.mem.length cm) (.slice p l.length u)));have c:=Zz (((Kp.refl ac w).alloc (.cells #[.pointer (some ⟨st,0,none⟩)] 61)).alloc (.cells (i_ S (.slice r (S.data+2) cs) (.slice Am S.mem.length cm) (.slice p l.length u)) 97));rw[World.size_alloc] at m;have mc:Hid (i_ S (.slice r (S.data+2) cs) (.slice Am S.mem.length cm) (.slice p l.length u)=#[.int .u64 S.count,.int .u64 S.epoch,.int .i64 S.data,.int .i64 S.slots,.int .i64 0,.int .i64 0,.bool false,.slice r (S.data+2) cs,.slice Am S.mem.length cm,.slice none 0 0,.slice p l.length u]):=Zz rfl;clear H0 hb J hR A O ha E htop h9 h7 H8 H3 G H1 Z T h4 B hl;change Cl 41 #[.pointer (some ⟨st,0,none⟩),.agg #[.int .u64 S.count,.int .u64 S.epoch,.int .i64 S.data,.int .i64 S.slots,.int .i64 0,.int .i64 0,.bool false,.slice r (S.data+2) cs,.slice Am S.mem.length cm,.slice none 0 0,.slice p l.length u]] w _;go_enter func41,ntmps41
 go_upto_region 1 with fail
 change Code.wp _ _ _ _ ((w.alloc (.cells #[.pointer (some ⟨st,0,none⟩)] 61)).alloc (.cells (i_ S (.slice r (S.data+2) cs) (.slice Am S.mem.length cm) (.slice p l.length u)) 97));generalize (w.alloc (.cells #[.pointer (some ⟨st,0,none⟩)] 61)).alloc (.cells (i_ S (.slice r (S.data+2) cs) (.slice Am S.mem.length cm) (.slice p l.length u)) 97)=w1 at *;obtain ⟨P,H⟩:∃P,w.heap.size=P:=⟨_,rfl⟩;rw[H] at X m N ⊢;have x8:=Zz H;clear H;have t2:=X.o.c0;have p0:=m.o.c0;have p1:=m.o.c1;have p2:=m.o.c2;have p3:=m.o.c3;have p4:=m.o.c4;have p5:=m.o.c5;have p6:=m.o.c6;have p7:=m.o.c7;have p8:=m.o.c8;have p9:=m.o.c9;have rp:=m.o.c10;go_wp2_with fail;refine (h8.o w1 c.o).mono ?_;rintro e K ⟨rfl,rfl⟩;have C:=Zz (x1.o K c.o);rw[mc.o] at C;go_wp2_with fail;refine C.o.mono ?_;rintro e w3 ⟨wk,m1,m2,y,z,rfl,y4,y2,fa,U,Q,Y,M,R,f⟩;have x7:=c.o.size;have y6:=m.o.lt;have s:=(Kp.refl ac w3).alloc (.cells #[.pointer (some ⟨wk,0,none⟩)] 155);have h5:=Zz ((c.o.trans f).trans s);have y7:=H4.o _ ((c.o.trans f).trans s) wk m1 m2 P (P+1) w3.heap.size K.heap.size y z (Q.kp s fun h=>h) (Y.no s) (M.no s) (R.no s) U (by have:=N.o;omega) (by have:=N.o;omega) (by have:=N.o;omega) ((X.o.kp f fun h=>h).kp s fun h=>h) (ab.new w3 155 #[.pointer (some ⟨wk,0,none⟩)]) ((m.o.kp f fun h=>h).kp s fun h=>h);obtain ⟨x9,x2,H9,h1,x0,H2,h0⟩:=y7;have H5:=Zz x2;have qT:=Zz H9;have y8:=Zz h1;have y9:=Zz x0;have jI:=Zz H2;have zr:=Zz h0;have x3:=Zz (LF Y.mems gV.o);have y0:Hid (w.heap.size<=K.heap.size/\w.heap.size<=m1/\w.heap.size<=m2):=Zz (by have:=x8.o;omega);clear x2 H9 h1 x0 H2 h0 M R Q Y f s y4 y2 fa t2 p0 p1 p2 p3 p4 p5 p6 p7 p8 p9 rp C x1 h8 H4 U x7 y6
 go_upto_region 8 with fail
 generalize w3.alloc (.cells #[.pointer (some ⟨wk,0,none⟩)] 155)=w4 at *;generalize w3.heap.size=B6 at *
 go_loopw [9,10,30] (fun _ _ D wr=>∃i:Nat,i<=4/\D=.int .i64 i/\Hid (x9 i wr)) (fun _ _ D _=>4-(intOf D).toNat)
 case atStart=>exact ⟨0,o_,rfl,H5⟩
 case round =>
  clear H5;obtain ⟨i,hi,rfl,d⟩:=hrel;rcases i with _|_|_|_|_|i
  ·have V:=idxF0 P B6
   go_wp2_with fail;refine (qT.o wr d.o).mono ?_;rintro e L ⟨rfl,o⟩;have a:=Zz o;clear o;go_wp2;go_roundw
   case rel=>exact ⟨1,o_,by go_num,a⟩
   case measure=>simp[intOf]
  ·have V:=idxF1 P B6
   go_wp2_with fail;refine (y8.o wr d.o).mono ?_;rintro e L ⟨rfl,o⟩;have a:=Zz o;clear o;go_wp2;go_roundw
   case rel=>exact ⟨2,o_,by go_num,a⟩
   case measure=>simp[intOf]
  ·have V:=idxF2 P B6
   go_wp2_with fail;refine (y9.o wr d.o).mono ?_;rintro e L ⟨rfl,o⟩;have a:=Zz o;clear o;go_wp2;go_roundw
   case rel=>exact ⟨3,o_,by go_num,a⟩
   case measure=>simp[intOf]
  ·have V:=idxF3 P B6
   go_wp2_with fail;refine (jI.o wr d.o).mono ?_;rintro e L ⟨rfl,o⟩;have a:=Zz o;clear o;go_wp2;go_roundw
   case rel=>exact ⟨4,o_,by go_num,a⟩
   case measure=>simp[intOf]
  ·have x4:=Zz (zr.o wr d.o)
   go_wp2;go_ret;obtain ⟨f1,f2,f3,g,hg,I,f4,f5,f6⟩:=x4.o;obtain ⟨g2,c2,sy,aq,_⟩:=x3.o;obtain ⟨z1,z2,z3⟩:=y0.o;rw[sy] at hg
   obtain rfl:g2=g:=by injection hg
   refine ⟨rfl,y,z,f1,f2.more z1,f3,I,(Gr.refl w F).then f4 h5.o.size,f5,(h5.o.mono fun _ _ h=>h.elim).then f6 fun q hq h=>?_⟩;rcases h with h|h|h|h|h|h
   ·exact .inl h
   ·exact .inr (.inl h)
   ·exact .inr (.inr h)
   ·omega
   ·omega
   omega
  omega
end
def i3 (b an:Nat) (key:List UInt8) (s:Option Addr) (m:Option Nat):Array Value:=#[.pointer (some ⟨b,0,none⟩),.pointer (some ⟨an,0,none⟩),.string (bs key),.pointer s,.map m]
section
variable {s:Option Addr} {m:Option Nat}
def Vy (w:W_) (b an:Nat) (key:List UInt8) :
  Cl 52 #[.pointer (some ⟨b,0,none⟩),.pointer (some ⟨an,0,none⟩),.string (bs key)] w fun e w'=>e=.returned (.pointer (some ⟨w.heap.size,0,none⟩))/\ab w' w.heap.size 88 (i3 b an key none none)/\Kp ac w w':=by
 have g:=Zz (ab.new w 88 (i3 b an key none none));have h:=Zz ((Kp.refl ac w).alloc (.cells (i3 b an key none none) 88));go_enter func52,ntmps52;go_wp2;go_ret;exact ⟨rfl,g.o,h.o⟩
def IB (h:ab w v 88 (i3 b an key s m)) :
  Cl 17 #[.pointer (some ⟨v,0,none⟩)] w fun e w'=>e=.returned (.pointer s)/\w'=w:=by
 have g:=h.c3;clear h;go_enter func17,ntmps17;go_wp2;go_ret;exact ⟨rfl,rfl⟩
def v_k (h:ab w v 88 (i3 b an key (some ⟨st,0,none⟩) m)) (hs:ab w st 116 (gU b an key S vs vm sp)) :
  Cl 33 #[.pointer (some ⟨v,0,none⟩)] w fun e w'=>e=.returned (.int .i64 0)/\w'=w:=by
 have i:=h.c3;have g:=Zz (ma hs);clear h hs;go_enter func33,ntmps33;go_wp2_with fail;refine g.o.mono ?_;rintro e j ⟨rfl,rfl⟩;go_wp2;go_ret;exact ⟨rfl,rfl⟩
def oE (h:ab w v 88 (i3 b an key (some ⟨st,0,none⟩) m)) :
  Cl 19 #[.pointer (some ⟨v,0,none⟩)] w fun e w'=>e=.returned (.int .i64 0)/\ab w' v 88 (i3 b an key none none)/\Kp (·=v) w w':=by
 have k:=h.c3;have f3:=h.frozen 3;have g:=h.set_ 3 (.pointer none);have l:(w.setCell ⟨v,3,none⟩ (.pointer none)).cell? ⟨v,4,none⟩=some (.map m):=g.cell 4;have f4:=g.frozen 4;have i:Hid (ab ((w.setCell ⟨v,3,none⟩ (.pointer none)).setCell ⟨v,4,none⟩ (.map none)) v 88 (i3 b an key none none)):=Zz (g.set_ 4 (.map none));have j:=Zz (((Kp.refl (·=v) w).setCell ⟨v,3,none⟩ (.pointer none) (.inl rfl)).setCell ⟨v,4,none⟩ (.map none) (.inl rfl));clear h g;go_enter func19,ntmps19;go_wp2;go_ret;exact ⟨rfl,i.o,j.o⟩
end
section
variable {m:Option Nat}
def FI (h:ab w v 88 (i3 b an key none m)) (d s:Nat)
  (n:∀W,Kp ac w W->Cl 54 #[.pointer (some ⟨b,0,none⟩),.pointer (some ⟨an,0,none⟩),.string (bs key),.int .i64 d,.int .i64 s] W fun e w'=>e=.returned (.int .i64 0)/\R w') :
  Cl 27 #[.pointer (some ⟨v,0,none⟩),.int .i64 d,.int .i64 s] w fun e w'=>e=.returned (.int .i64 0)/\R w':=by
 have p:=h.c3;have g:=Zz h.drew;have o:=Zz (n w.drew (Kp.refl ac w).drew);clear h n;go_enter func27,ntmps27
 go_upto_region 5 with fail
 clear p;refine fs ?_;generalize w.drew=t at *;have i:=g.o.c0;have j:=g.o.c1;have k:=g.o.c2;refine fp 0 ?_;refine fp 1 ?_;refine fp 2 ?_;refine cw 3 i ?_;refine fp 4 ?_;refine fp 5 ?_;refine fp 6 ?_;refine cw 7 j ?_;refine fp 8 ?_;refine fp 9 ?_;refine fp 10 ?_;refine cw 11 k ?_;refine fp 12 ?_;refine fp 13 ?_;refine fd 14 fun K r l=>?_;go_simp;refine o.o.mono ?_;rintro e u ⟨rfl,q⟩;refine l _ _ (oW (oW (oW oN))) ?_;clear l K i j k;refine fp 15 ?_;refine fe ?_;go_wp2;go_ret;exact ⟨rfl,q⟩
def Kf {R:Nat->W_->Prop} (h:ab w v 88 (i3 b an key none m))
  (x:∀W,Kp ac w W->Cl 50 #[.pointer (some ⟨b,0,none⟩),.pointer (some ⟨an,0,none⟩),.string (bs key)] W fun e w'=>∃st,e=.returned (.tuple #[.pointer (some ⟨st,0,none⟩),.int .i64 0])/\ab w' v 88 (i3 b an key none m)/\R st w') :
  Cl 23 #[.pointer (some ⟨v,0,none⟩)] w fun e w'=>e=.returned (.int .i64 0)/\∃st g W,R st W/\ab w' v 88 (i3 b an key (some ⟨st,0,none⟩) (some g))/\W.heap.size<=g/\aS KI w' g (fun _=>none) []/\Kp (·=v) W w':=by
 have t:=h.c3;have l:=Zz h.drew;have c:=Zz (x w.drew (Kp.refl ac w).drew);have J:=@run_makeMap prog;clear h x;go_enter func23,ntmps23
 go_upto_region 5 with fail
 clear t;refine fs ?_;generalize w.drew=N at *;have q:=l.o.c0;have r:=l.o.c1;have s:=l.o.c2;refine fp 0 ?_;refine fp 1 ?_;refine fp 2 ?_;refine cw 3 q ?_;refine fp 4 ?_;refine fp 5 ?_;refine fp 6 ?_;refine cw 7 r ?_;refine fp 8 ?_;refine fp 9 ?_;refine fp 10 ?_;refine cw 11 s ?_;refine fd 12 fun K G u=>?_;go_simp;refine c.o.mono ?_;rintro e i ⟨st,rfl,o,y⟩;refine u _ _ (oW (oW (oW oN))) ?_;clear u K q r s;refine fp 13 ?_;refine fp 14 ?_;refine fp 15 ?_;refine fp 16 ?_;refine fp 17 ?_;refine fe ?_;have HR:=Zz y;have p:=(Kp.refl (·=v) i).alloc (.map #[] 0);have j:=o.alloc (.map #[] 0);have z:=aS.made (M:=KI) i;have E:Hid (i.heap.size≠v):=Zz (by have:=o.lt;omega);have t:(i.alloc (.map #[] 0)).cell? ⟨v,3,none⟩=some (.pointer none):=j.cell 3;have f3:=j.frozen 3;have k:=j.set_ 3 (.pointer (some ⟨st,0,none⟩));have I:((i.alloc (.map #[] 0)).setCell ⟨v,3,none⟩ (.pointer (some ⟨st,0,none⟩))).cell? ⟨v,4,none⟩=some (.map m):=k.cell 4;have f4:=k.frozen 4;have a:Hid (ab (((i.alloc (.map #[] 0)).setCell ⟨v,3,none⟩ (.pointer (some ⟨st,0,none⟩))).setCell ⟨v,4,none⟩ (.map (some i.heap.size))) v 88 (i3 b an key (some ⟨st,0,none⟩) (some i.heap.size))):=Zz (k.set_ 4 (.map (some i.heap.size)));have n:Kp (·=v) (i.alloc (.map #[] 0)) (((i.alloc (.map #[] 0)).setCell ⟨v,3,none⟩ (.pointer (some ⟨st,0,none⟩))).setCell ⟨v,4,none⟩ (.map (some i.heap.size))):=((Kp.refl (·=v) _).setCell ⟨v,3,none⟩ (.pointer (some ⟨st,0,none⟩)) (.inl rfl)).setCell ⟨v,4,none⟩ (.map (some i.heap.size)) (.inl rfl);have f:=Zz (z.kp n E.o);have d:=Zz (p.trans n);clear p j z k n o y;go_wp2;go_ret;exact ⟨rfl,st,i.heap.size,i,HR.o,a.o,bS _,f.o,d.o⟩
end
section
variable {f:Nat->Option Value} {dom:List Nat}
def Km (u:a_ w) (hv:ab w v 88 (i3 b an key (some ⟨st,0,none⟩) (some g))) (hs:ab w st 116 (gU b an key S vs vm sp)) (hM:aS KI w g f dom) (y:dom.length<1000) (m:pJ S.data S.slots) (k:Nat) (hk:k<S.slots*S.data) (x:B_) (z:x.size=32) :
  Cl 28 #[.pointer (some ⟨v,0,none⟩),.int .i64 k,.string x] w fun e w'=>e=.returned (.int .i64 0)/\aS KI w' g (lu f k (.string x)) (e8 dom k)/\Kp (·=g) w w':=by
 have G:=Zz (v_k hv hs);have O:=Zz (x_b hs);have o:=Zz (fun W (Q:Kp ac w W)=>z_as W (u.no Q) S.data S.slots m k hk);have I:=Zz hv;have E:=Zz hM
 have i:k<=100000:=by
  obtain ⟨Y,P,Z⟩:=m;have:S.slots*S.data<=4*8:=Nat.mul_le_mul o_ P;omega
 have M:=Zz i;have d:=Zz y;have N:=hv.c3
 have X:((x.size:Int) != 32)=false:=by rw[z];rfl
 have V:¬((x.size:Int)≠32):=by rw[z];decide
 clear u hv hs hM m hk i y;obtain ⟨A,c⟩:∃q,k / S.data=q:=⟨_,rfl⟩;obtain ⟨B,t⟩:∃q,k % S.data=q:=⟨_,rfl⟩;rw[c,t] at o;clear c t;go_enter func28,ntmps28;go_wp2_with fail;refine G.o.mono ?_;rintro e C ⟨rfl,rfl⟩;go_wp2_with fail;refine O.o.mono ?_;rintro e w3 ⟨rfl,j⟩;have J:=Zz j;go_wp2_with fail;refine (o.o w3 j).mono ?_;rintro e R ⟨rfl,i⟩;have l:=Zz (J.o.trans i);have p:=I.o.kp l.o fun h=>h;have U:=p.c4;obtain ⟨T,s,n,r⟩:=(E.o.no l.o).put sY Bq (by have:=d.o;simp only[maxLen];omega) (a:=k) (show k<=100000 from M.o) (.string x);replace s:(Instr.mapUpdate 86 (.map (some g)) (.int .i64 k) (.string x)).run prog R=.ok () T:=s;have HR:=Zz (And.intro n ((l.o.mono fun _ _ h=>h.elim:Kp (·=g) _ _).trans r));clear j i p n r N;go_wp2;go_ret;exact ⟨rfl,HR.o⟩
end
section
variable {f:Nat->Option B_} {dom:List Nat}
def R7 (s:a_ w) (hv:ab w v 88 (i3 b an key (some ⟨st,0,none⟩) (some g))) (hs:ab w st 116 (gU b an key S vs vm sp)) (hR:ja w S vs vm) (R:a7 S) (hM:aS KI w g (dg f) dom) (t:pJ S.data S.slots) (k:Nat) (hk:k<S.slots*S.data) (y:B_) (r:Int)
  (T:∀z,f k=some z->y=z/\r=0)
  (Q:f k=none->∀W u,Kp ac w W->iB W u 6 (S.data+2) (i5 b S.slots key (iV S (k / S.data)))->Cl 36 #[u,.int .i64 (k / S.data:Nat),.int .i64 (k % S.data:Nat)] W fun e w'=>e=.returned (.tuple #[.string y,.int .i64 r])/\Kp ac W w') :
  Cl 11 #[.pointer (some ⟨v,0,none⟩),.int .i64 k] w fun e w'=>e=.returned (.tuple #[.string y,.int .i64 r])/\Kp ac w w':=by
 have X:=Zz (v_k hv hs);have D:=Zz (x_b hs);have c:=Zz (fun W (o:Kp ac w W)=>z_as W (s.no o) S.data S.slots t k hk);have U:k / S.data<S.slots:=Nat.div_lt_of_lt_mul (by rw[Nat.mul_comm];exact hk);have O:=Zz (fun W (o:Kp ac w W)=>z_ak (s.no o) (hs.kp o fun h=>h) (hR.no o) R U);have Y:=Zz hv;have V:=Zz hM
 have m:k<=100000:=by
  obtain ⟨h1,F,h3⟩:=t;have:S.slots*S.data<=4*8:=Nat.mul_le_mul o_ F;omega
 have B:=Zz m;have d:=Zz Q;have K:=Zz T;have N:=hv.c3;clear s hv hs hM t hk m hR R Q T U;obtain ⟨h2,x⟩:∃q,k / S.data=q:=⟨_,rfl⟩;obtain ⟨h4,P⟩:∃q,k % S.data=q:=⟨_,rfl⟩;rw[x,P] at c d;rw[x] at O;clear x P;go_enter func11,ntmps11;go_wp2_with fail;refine X.o.mono ?_;rintro e h5 ⟨rfl,rfl⟩;go_wp2_with fail;refine D.o.mono ?_;rintro e w3 ⟨rfl,p⟩;have A:=Zz p;go_wp2_with fail;refine (c.o w3 p).mono ?_;rintro e l ⟨rfl,m⟩;have n:=Zz (A.o.trans m);have G:=Zz (Y.o.kp n.o fun h=>h);have h0:=G.o.c4;have i:=((V.o.no n.o).look sY Bq (jW l) (a:=k) (show k<=100000 from B.o)).2;clear p m N
 cases j:f k with
 | some z =>
  obtain ⟨rfl,rfl⟩:=K.o z j;rw[show dg f k=some (.string y) by unfold dg;rw[j];rfl] at i;replace i:(Instr.lookup 86 (.map (some g)) (.int .i64 k) true).run prog l=.ok (.tuple #[.string y,.bool true]) l:=i;clear j;go_wp2;go_ret2
  exact ⟨rfl,n.o⟩
 | none =>
  rw[show dg f k=none by unfold dg;rw[j];rfl] at i;replace i:(Instr.lookup 86 (.map (some g)) (.int .i64 k) true).run prog l=.ok (.tuple #[.string ⟨#[]⟩,.bool false]) l:=i;have Z:=Zz (d.o j);clear j;have N:=G.o.c3;go_wp2_with fail;refine (O.o l n.o).mono ?_;rintro e L ⟨u5,rfl,E,J⟩;have I:=Zz (n.o.trans J);have H:=Zz (Z.o L u5 I.o (Sy E));clear J E;go_wp2_with fail;refine H.o.mono ?_;rintro e h6 ⟨rfl,M⟩;have C:=Zz (I.o.trans M);clear M;go_wp2;go_ret2;exact ⟨rfl,C.o⟩
end
end Go.Proofs.YtdkheklakfbeeaaGreatDoor
