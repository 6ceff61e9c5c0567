/- Part 35 of the proof. -/
import Derived.Test.YtdkheklakfbeeaaGreatDoorM34
set_option linter.all false
set_option maxRecDepth 100000
set_option maxHeartbeats 16000000
namespace Go.Proofs.YtdkheklakfbeeaaGreatDoor
open Go.RowKit Go.Proofs.Tryz
theorem chW_size (l:List Wr):∀(ch:Nat->ByteArray),(∀t,(ch t).size<=2032)->(∀x∈l,x.cell.size<=2032)->∀t,(chW ch l t).size<=2032:=by
 induction l with
 | nil=>intro ch h _ t;exact h t
 | cons x l ih =>
  intro ch h hx t;refine ih (y_I ch x.at' x.cell) (fun q=>?_) (fun y hy=>hx y (List.mem_cons_of_mem _ hy)) t;unfold y_I;split
  ·exact hx x List.mem_cons_self
  ·exact h q
theorem prW_ok {s:Nat} (hs:sl s) (ch:Nat->ByteArray) (l:List Wr) (hc:∀t,(ch t).size<=2032) (bI:∀x∈l,x.at'<s/\x.cell.size<=2032):∀x∈prW s ch l,x.ok:=by
 intro x hx
 have jw:s<=4:=by rcases hs with rfl|rfl<;>decide
 have kj:∀x∈l,x.at'<s:=fun x hx=>(bI x hx).1;unfold prW at hx;rcases List.mem_append.1 hx with hx|hx
 ·obtain ⟨q,hq,rfl⟩:=List.mem_map.1 hx
  obtain ⟨h1,h2⟩:=doP_lt hs l kj q ((x_A _ _).1 hq);refine ⟨by show 100<=100+q;omega,by show 100+q<140;omega,?_⟩;show (prT s (chW ch l) q).size<=2032;rw[w_H];decide
 ·obtain ⟨t,ht,rfl⟩:=List.mem_map.1 hx
  have h1:=doC_lt l kj t ((x_A _ _).1 ht);refine ⟨by show 100<=120+t;omega,by show 120+t<140;omega,?_⟩;exact chW_size l ch hc (fun x hx=>(bI x hx).2) t
theorem prW_len (s:Nat) (ch:Nat->ByteArray) (l:List Wr) (hl:l.length<=20):(prW s ch l).length<96:=by
 unfold prW;rw[q_b,q_i,q_i,w_P,w_P];have:=doP_len s l;have:=doC_len l;omega
def cmX (s:Nat) (ch:Nat->Nat->ByteArray) (l:List Cgd) (j:Nat):List Wr:=prW s (ch j) (lC l j)
def cmT (s:Nat) (ch:Nat->Nat->ByteArray) (l:List Cgd) (j:Nat):ByteArray:=z_L s (chW (ch j) (lC l j))
def cmS (S:Sup) (σ:Nat->DkS) (n:Nat) (ch:Nat->Nat->ByteArray) (l:List Cgd):Sup:=lgS (prS (z_y S) σ n) (lgG (prD (z_y S) σ n) (cmT S.slots ch l) (cmX S.slots ch l)) n
def cmD1 (S:Sup) (σ:Nat->DkS) (n:Nat) (ch:Nat->Nat->ByteArray) (l:List Cgd):Nat->DkS:=lgD σ (prD (z_y S) σ n) (fun j=>lgW (z_o (cmX S.slots ch l j))) n
def cmD2 (S:Sup) (σ:Nat->DkS) (n:Nat) (ch:Nat->Nat->ByteArray) (l:List Cgd):Nat->DkS:=z_R (cmD1 S σ n ch l) ((cmS S σ n ch l).count % 2) (bs (z_t (cmS S σ n ch l))) n
def y_U (S:Sup) (σ:Nat->DkS) (n:Nat) (ch:Nat->Nat->ByteArray) (l:List Cgd):Nat->DkS:=lgD (cmD2 S σ n ch l) (prD (z_y S) σ n) (cmX S.slots ch l) n
theorem lgD_wait (σ:Nat->DkS) (dom:List Nat) (T:Nat->List Wr) (k j:Nat) (hd:j∈dom->(σ j).dead=false) (h:(σ j).wait<=500):(lgD σ dom T k j).wait<=500:=by
 unfold lgD;split
 ·rename_i hh
  unfold DkS.flush;rw[DkS.wrs_dead,hd hh.2];simp
 ·exact h
theorem lgD_dead (σ:Nat->DkS) (dom:List Nat) (T:Nat->List Wr) (k j:Nat):(lgD σ dom T k j).dead=(σ j).dead:=by
 unfold lgD;split
 ·unfold DkS.flush
  split
  ·rw[DkS.wrs_dead]
  ·exact DkS.wrs_dead _ _
 ·rfl
theorem w_l (σ:Nat->DkS) (c:Nat) (x:ByteArray) (k j:Nat):(z_R σ c x k j).dead=(σ j).dead:=by
 unfold z_R;split
 ·unfold DkS.flush
  split
  ·rw[DkS.write_dead]
  ·exact DkS.write_dead _ _ _
 ·rfl
theorem pubD_wait (σ:Nat->DkS) (c:Nat) (x:ByteArray) (k j:Nat) (h:(σ j).wait<=500):(z_R σ c x k j).wait<=500:=by
 unfold z_R;split
 ·unfold DkS.flush
  split
  ·rename_i hd
   unfold DkS.write;rw[DkS.write_dead] at hd;rw[hd];exact h
  ·simp
 ·exact h
section
variable {w:World} {wk m1 m2 base st b n an sp B2 B3 B6:Nat} {key:List UInt8} {σ:Nat->DkS} {F:Nat->Prop} {S:Sup} {vs vm pz pA:Value} {ad:List UInt8}
theorem csteps_any (hL:Lay w) (hb:Bk w b n σ F) (hw:10<=w.heap.size) (hk:key.length=32) (aH:Blk w st 116 (stC b an key S pz pA sp)) (dJ:Blk w wk 163 (wkC (z_y S) vs vm m1 m2)) (hR:SupO w base (z_y S) vs vm) (hS:SupOk (z_y S)) (gi:S.mem.length=n)
  (cZ:MapA KI w m1 (fun _=>none) []) (ez:MapA KI w m2 (fun _=>none) []) (gJ:m1≠m2) (oP:10<=base) (ul:10<=m1) (um:10<=m2)
  (h2:Blk w B2 61 #[.pointer (some ⟨st,0,none⟩)]) (h6:Blk w B6 155 #[.pointer (some ⟨wk,0,none⟩)]) (As Am Ac:Option Addr) (cs cm cc:Nat) (l:List Cgd) (h3:Blk w B3 97 (plC S (.slice As (S.data+2) cs) (.slice Am S.mem.length cm) (.slice Ac l.length cc)))
  (bz:Nat) (eq:w.ownsRow bz 154 3 (.slice Ac l.length cc) l.length (cgC l)) (hl:l.length<=100) (ha:Blk w an 180 #[.int .u64 S.count,.string (bs ad)]) (GV:10<=an) (GW:10<=st)
  (ch:Nat->Nat->ByteArray) (iH:∀j t,(ch j t).size<=2032) (hlc:∀i (h:i<S.mem.length),(S.mem[i]'h).st=1->0<(lC l i).length/\(lC l i).length<=20/\∀x∈lC l i,x.at'<S.slots/\x.cell.size<=2032)
  (htop:∀i (h:i<S.mem.length),(S.mem[i]'h).st=1->(σ i).dead=false->(S.mem[i]'h).top=z_L S.slots (ch i)/\∀q,1<=q->q<S.slots->tl (σ i).now (100+q)=prT S.slots (ch i) q)
  (fy:∀j,j<n->(σ j).wait<=500) (jb:∃i,i<n/\(σ i).dead=false) (pD:y_l (prS (z_y S) σ n) (S.data+2)<=2) :
  ∃PP:Nat->World->Prop,PP 0 w /\
   (∀W,PP 0 W->Cl 69 #[.pointer (some ⟨B2,0,none⟩),.pointer (some ⟨B6,0,none⟩),.pointer (some ⟨B3,0,none⟩)] W fun e w'=>e=.returned (.int .i64 0)/\PP 1 w') /\
   (∀W,PP 1 W->Cl 71 #[.pointer (some ⟨B2,0,none⟩),.pointer (some ⟨B6,0,none⟩)] W fun e w'=>e=.returned (.int .i64 0)/\PP 2 w') /\
   (∀W,PP 2 W->Cl 73 #[.pointer (some ⟨B2,0,none⟩),.pointer (some ⟨B6,0,none⟩)] W fun e w'=>e=.returned (.int .i64 0)/\PP 3 w') /\
   (∀W,PP 3 W->Cl 75 #[.pointer (some ⟨B6,0,none⟩),.pointer (some ⟨B2,0,none⟩)] W fun e w'=>e=.returned (.int .i64 0)/\PP 4 w') /\
   (∀W,PP 4 W->Blk W st 116 (stC b an key (cmS S σ n ch l) vs vm sp)/\SupO W base (cmS S σ n ch l) vs vm/\Blk W an 180 #[.int .u64 ((cmS S σ n ch l).count:Int),.string (bs (z_Z (z_t (cmS S σ n ch l))))]/\∃g,vm.ownBlock=some g/\∃F',Gr w F F'/\Bk W b n (y_U S σ n ch l) F'/\Kp (fun q=>F q\/q=an\/q=st\/S3 g m1 m2 q) w W):=by
 have hn:(z_y S).mem.length=n:=gi;have eP:sl S.slots:=hS.sl;obtain ⟨g,cg,mP,bu,bJ⟩:=y_u hR.mems (by have:=hS.n1;omega);subst mP;obtain ⟨zA,dW⟩:=z_i hR.mems (q:=g) rfl;have se:=hR.reads.shape;obtain ⟨Aw,cw,Am',lJ,rfl,_⟩:=se
 have Zx:∀q,S3 g m1 m2 q->¬F q:=fun q hq=>by
  rcases hq with rfl|rfl|rfl
  ·exact hb.offRow hR.mems (by unfold tyB;decide) _ rfl
  ·exact hb.offMap cZ
  ·exact hb.offMap ez
 have Cb:∀q t cs,Blk w q t cs->t≠108->¬S3 g m1 m2 q:=fun q t cs hB ht hq=>by
  rcases hq with rfl|rfl|rfl
  ·exact Blk.ne_ hB dW ht rfl
  ·exact cZ.ne_blk hB rfl
  ·exact ez.ne_blk hB rfl
 have GX:∀q t cs,Blk w q t cs->t≠108->¬tyB t->¬(F q\/S3 g m1 m2 q):=fun q t cs hB ht iN hq=>by
  rcases hq with hq|hq
  ·exact hb.off hB iN hq
  ·exact Cb q t cs hB ht hq
 have Ea:∀q,q<6->¬(F q\/S3 g m1 m2 q):=fun q h6 hq=>by
  rcases hq with hq|rfl|rfl|rfl
  ·have:=(hb.lt hq).1;omega
  ·omega
  ·omega
  ·omega
 have Jx:∀q t cs,Blk w q t cs->t≠180->q≠an:=fun q t cs hB ht e=>by subst e;exact Blk.ne_ hB ha ht rfl
 have qm:∀q,q<6->q≠an:=fun q h6 e=>by
  omega
 have wV:∀j∈prD (z_y S) σ n,j<n/\(∃h:j<S.mem.length,(S.mem[j]'h).st=1)/\(σ j).dead=false:=fun j hj=>by
  obtain ⟨h1,h2,h3⟩:=(prD_mem _ _ _ _).1 hj
  have cF:j<S.mem.length:=by omega
  refine ⟨h1,⟨cF,?_⟩,h3⟩;rw[<-x_6 (S:=S) cF];exact h2
 have hX:∀j∈prD (z_y S) σ n,(cmX S.slots ch l j).length<96/\(∀x∈cmX S.slots ch l j,x.ok)/\(σ j).dead=false/\(σ j).wait<=500:=fun j hj=>by
  obtain ⟨h1,⟨h2,h3⟩,h4⟩:=wV j hj;obtain ⟨z1,z2,z3⟩:=hlc j h2 h3;exact ⟨prW_len _ _ _ z2,prW_ok eP _ _ (iH j) z3,h4,fy j h1⟩
 have Jw:∀j∈prD (z_y S) σ n,(cmT S.slots ch l j).size=32:=fun j _=>v_Q eP _;have Tq:=prS_ok hS σ n
 have Tr:SupOk (cmS S σ n ch l):=lgS_ok Tq _ (fun j t d h=>by
  unfold lgG at h;split at h
  ·injection h with h
   injection h with h1 h2
   subst h1 h2;exact ⟨v_Q eP _,v_P _⟩
  ·cases h) n
 let P1:World->Prop:=fun W=>Kp (S3 g m1 m2) w W/\SupO W base (prS (z_y S) σ n) (.slice Aw ((z_y S).data+2) cw) (.slice (some ⟨g,0,none⟩) (z_y S).mem.length cg)/\(∃U,MapA KI W m1 (vD U (prD (z_y S) σ n)) (prD (z_y S) σ n)/\Rows W w.heap.size U (prD (z_y S) σ n) (cmX S.slots ch l))/\MapA KI W m2 (txM (atD (cmT S.slots ch l) (prD (z_y S) σ n))) (prD (z_y S) σ n);let P2:World->Prop:=fun W=>(∃F1,Gr w F F1/\Bk W b n (cmD1 S σ n ch l) F1)/\Kp (fun q=>F q\/S3 g m1 m2 q) w W/\SupO W base (cmS S σ n ch l) (.slice Aw ((z_y S).data+2) cw) (.slice (some ⟨g,0,none⟩) (z_y S).mem.length cg)/\∃U,MapA KI W m1 (vD U (prD (z_y S) σ n)) (prD (z_y S) σ n)/\Rows W w.heap.size U (prD (z_y S) σ n) (cmX S.slots ch l);let P3:World->Prop:=fun W=>(∃F1,Gr w F F1/\Bk W b n (cmD2 S σ n ch l) F1)/\Kp (fun q=>F q\/q=an\/S3 g m1 m2 q) w W/\SupO W base (cmS S σ n ch l) (.slice Aw ((z_y S).data+2) cw) (.slice (some ⟨g,0,none⟩) (z_y S).mem.length cg)/\Blk W an 180 #[.int .u64 ((cmS S σ n ch l).count:Int),.string (bs (z_Z (z_t (cmS S σ n ch l))))]/\∃U,MapA KI W m1 (vD U (prD (z_y S) σ n)) (prD (z_y S) σ n)/\Rows W w.heap.size U (prD (z_y S) σ n) (cmX S.slots ch l);let P4:World->Prop:=fun W=>Blk W st 116 (stC b an key (cmS S σ n ch l) (.slice Aw ((z_y S).data+2) cw) (.slice (some ⟨g,0,none⟩) (z_y S).mem.length cg) sp)/\SupO W base (cmS S σ n ch l) (.slice Aw ((z_y S).data+2) cw) (.slice (some ⟨g,0,none⟩) (z_y S).mem.length cg)/\Blk W an 180 #[.int .u64 ((cmS S σ n ch l).count:Int),.string (bs (z_Z (z_t (cmS S σ n ch l))))]/\∃q,(Value.slice (some ⟨g,0,none⟩) (z_y S).mem.length cg).ownBlock=some q/\∃F',Gr w F F'/\Bk W b n (y_U S σ n ch l) F'/\Kp (fun z=>F z\/z=an\/z=st\/S3 q m1 m2 z) w W;refine ⟨fun i=>match i with|0=>fun W=>W=w|1=>P1|2=>P2|3=>P3|_=>P4,rfl,?_,?_,?_,?_,fun W h=>h⟩
 ·rintro W (rfl:W=w)
  refine cm1_any h2 h6 As Am Ac cs cm l.length cc h3 ?_;have hp:=prep_any (S:=z_y S) hL hb hw hk aH dJ hR hS hn cZ ez gJ oP ul um (.slice As (S.data+2) cs) (.slice Am S.mem.length cm) (.slice Ac l.length cc) l bz eq hl S ⟨As,cs,Am,cm,rfl,rfl⟩ ch (fun i h h1=>⟨(hlc i h h1).1,(hlc i h h1).2.2⟩) htop;refine hp.mono ?_;rintro e w' ⟨rfl,aX,ag,au,aw,g',Ae,aG⟩
  obtain rfl:g=g':=by injection Ae
  have e0:(z_y S).data=S.data:=rfl;rw[e0,if_pos pD];exact ⟨rfl,aG,ag,au,aw⟩
 ·rintro W ⟨a8,cP,⟨U,hm,pB⟩,wj⟩
  have O9:=hb.kp a8 Zx;obtain ⟨Zy,GY⟩:=z_i cP.mems (q:=g) rfl;have gL:=aH.kp a8 (Cb st _ _ aH (by decide));have m6:=dJ.kp a8 (Cb wk _ _ dJ (by decide));refine cm2_any (h2.kp a8 (Cb _ _ _ h2 (by decide))) (h6.kp a8 (Cb _ _ _ h6 (by decide))) ?_;have hp:=logs_any (S:=prS (z_y S) σ n) (hL.kp a8 (fun g h hh=>Ea g h (.inr hh))) O9 (by have:=a8.size;omega) gL m6 cP Tq (by rw[x_n];exact hn) oP U (prD (z_y S) σ n) (cmX S.slots ch l) (cmT S.slots ch l) w.heap.size hm pB wj hX Jw pD;refine hp.mono ?_;rintro e w' ⟨rfl,jw,⟨F1,bu,ay⟩,g',Ae,dN⟩
  obtain rfl:g=g':=by injection Ae
  refine ⟨rfl,⟨F1,(Gr.refl w F).then bu a8.size,ay⟩,(a8.mono fun q _ h=>Or.inr h).trans (dN.mono fun q _ h=>h.elim .inl (fun e=>.inr (.inl e))),jw,U,hm.kp dN (fun h=>h.elim (O9.offMap hm) fun e=>hm.ne_blk GY e),pB.kp dN fun q hq cs hB=>?_⟩;rcases hq with hq|rfl
  ·exact O9.off hB (by unfold tyB;decide) hq
  ·exact Blk.ne_ hB GY (by decide) rfl
 ·rintro W ⟨⟨F1,bu,ay⟩,a8,cP,U,hm,pB⟩
  have co:(cmS S σ n ch l).mem.length=(z_y S).mem.length:=by unfold cmS;rw[w_R,x_n]
  have gL:=aH.kp a8 (GX st _ _ aH (by decide) (by unfold tyB;decide));have m6:=dJ.kp a8 (GX wk _ _ dJ (by decide) (by unfold tyB;decide));have Ts:=ha.kp a8 (GX an _ _ ha (by decide) (by unfold tyB;decide));refine cm3_any (S:=cmS S σ n ch l) (h2.kp a8 (GX _ _ _ h2 (by decide) (by unfold tyB;decide))) (h6.kp a8 (GX _ _ _ h6 (by decide) (by unfold tyB;decide))) gL Aw (some ⟨g,0,none⟩) cw cg (by rw[co];exact m6) ?_;intro W2 k2;have am:=ay.no k2;have kq:=cP.no k2;have hp:=v_V (key:=key) (hL.kp a8 Ea |>.no k2) am (by have:=a8.size;have:=k2.size;omega) S.count ad (Ts.kp k2 fun h=>h) (cmS S σ n ch l) (.slice Aw ((z_y S).data+2) cw) (.slice (some ⟨g,0,none⟩) (z_y S).mem.length cg) Tr kq.reads (by show S.count<S.count+1;omega) (fun i hi=>by have:=lgD_wait σ (prD (z_y S) σ n) (fun j=>lgW (z_o (cmX S.slots ch l j))) n i (fun h=>(wV i h).2.2) (fy i hi);exact q_g this (by decide)) (by obtain ⟨i,hi,hd⟩:=jb;exact ⟨i,hi,by unfold cmD1;rw[lgD_dead];exact hd⟩);rw[<-co] at hp;refine hp.mono ?_;rintro e w' ⟨rfl,Pa,F2,ko,bW,dN⟩;have uy:=Ts.kp k2 fun h=>h;refine ⟨rfl,⟨F2,bu.then ko (q_g a8.size k2.size),bW⟩,((a8.mono fun q _ h=>h.elim .inl (fun e=>.inr (.inr e))).then k2 fun _ _ h=>h.elim).then dN (fun q hq hf=>hf.elim (fun h=>.inl (bu q hq h)) (fun e=>.inr (.inl e))),kq.kp dN (fun q hq h=>?_) (fun q hq h=>?_),Pa,U,(hm.no k2).kp dN (fun h=>h.elim (am.offMap (hm.no k2)) fun e=>(hm.no k2).ne_blk uy e),(pB.no k2).kp dN fun q hq cs hB=>?_⟩
  ·obtain ⟨iz,fH⟩:=z_i kq.seats hq
   rcases h with h|rfl
   ·exact am.off fH (by unfold tyB;decide) h
   ·exact Blk.ne_ fH uy (by decide) rfl
  ·obtain ⟨iz,fH⟩:=z_i kq.mems hq
   rcases h with h|rfl
   ·exact am.off fH (by unfold tyB;decide) h
   ·exact Blk.ne_ fH uy (by decide) rfl
  ·rcases hq with h|rfl
   ·exact am.off hB (by unfold tyB;decide) h
   ·exact Blk.ne_ hB uy (by decide) rfl
 ·rintro W ⟨⟨F1,bu,ay⟩,a8,cP,Tt,U,hm,pB⟩
  have co:(cmS S σ n ch l).mem.length=(z_y S).mem.length:=by unfold cmS;rw[w_R,x_n]
  have DC:∀q t cs,Blk w q t cs->t≠108->t≠180->¬tyB t->¬(F q\/q=an\/S3 g m1 m2 q):=fun q t cs hB ht uY iN hq=>by
   rcases hq with hq|hq|hq
   ·exact hb.off hB iN hq
   ·exact Jx q t cs hB uY hq
   ·exact Cb q t cs hB ht hq
  have gL:=aH.kp a8 (DC st _ _ aH (by decide) (by decide) (by unfold tyB;decide));have m6:=dJ.kp a8 (DC wk _ _ dJ (by decide) (by decide) (by unfold tyB;decide));refine cm4_any (S:=cmS S σ n ch l) (h2.kp a8 (DC _ _ _ h2 (by decide) (by decide) (by unfold tyB;decide))) (h6.kp a8 (DC _ _ _ h6 (by decide) (by decide) (by unfold tyB;decide))) gL Aw (some ⟨g,0,none⟩) cw cg (by rw[co];exact m6) ?_;intro W2 k2 lO;rw[co] at lO
  have am:=ay.kp k2 (fun q hq hf=>by
   have e:q=st:=hq;subst e
   exact ay.off gL (by unfold tyB;decide) hf)
  have kq:=cP.kp k2 (fun q hq h=>by
   obtain ⟨iz,fH⟩:=z_i cP.seats hq;have e:q=st:=h;subst e
   exact Blk.ne_ fH gL (by decide) rfl) (fun q hq h=>by
   obtain ⟨iz,fH⟩:=z_i cP.mems hq;have e:q=st:=h;subst e
   exact Blk.ne_ fH gL (by decide) rfl)
  have Pb:=m6.kp k2 (fun e=>Blk.ne_ m6 gL (by decide) e);have lu:=hm.kp k2 (fun e=>hm.ne_blk gL e)
  have Pc:=pB.kp k2 (fun q hq cs hB=>by
   have e:q=st:=hq;subst e
   exact Blk.ne_ hB gL (by decide) rfl)
  have GZ:=Tt.kp k2 (fun e=>Blk.ne_ Tt gL (by decide) e)
  have uN:Lay W2:=(hL.kp a8 (fun q h6 hq=>by
   rcases hq with hq|hq|hq
   ·exact Ea q h6 (.inl hq)
   ·exact qm q h6 hq
   ·exact Ea q h6 (.inr hq))).kp k2 (fun q h6 hq=>by
   have e:q=st:=hq;subst e
   omega)
  have hp:=capply_any (S:=cmS S σ n ch l) uN am (by have:=a8.size;have:=k2.size;omega) hk lO Pb kq Tr (by rw[co];exact hn) U (prD (z_y S) σ n) (cmX S.slots ch l) w.heap.size lu Pc (fun j hj=>by
   obtain ⟨z1,z2,z3,z4⟩:=hX j hj;refine ⟨by omega,z2,?_,?_⟩
   ·unfold cmD2 cmD1;rw[w_l,lgD_dead];exact z3
   ·exact pubD_wait _ _ _ _ _ (lgD_wait _ _ _ _ _ (fun _=>z3) z4))
  refine hp.mono ?_;rintro e w' ⟨rfl,F2,ko,bW,dN⟩;refine ⟨rfl,lO.kp dN (fun h=>am.off lO (by unfold tyB;decide) h),kq.kp dN (fun q hq h=>am.offRow kq.seats (by unfold tyB;decide) q hq h) (fun q hq h=>am.offRow kq.mems (by unfold tyB;decide) q hq h),GZ.kp dN (fun h=>am.off GZ (by unfold tyB;decide) h),g,rfl,F2,bu.then ko (q_g a8.size k2.size),bW,?_⟩;exact ((a8.mono fun q _ h=>h.elim .inl (fun h=>h.elim (fun e=>.inr (.inl e)) (fun h=>.inr (.inr (.inr h))))).then k2 fun q _ e=>.inr (.inr (.inl e))).then dN fun q hq h=>.inl (bu q hq h)
end
theorem bumpS_ok {S:Sup} (hS:SupOk S) (hc:S.count<1000):SupOk (z_y S):=⟨hS.d2,hS.d8,hS.sl,hS.n1,hS.n12,hS.mem,hc,hS.e⟩
theorem idxF0 (P B:Nat) (W:World):(Instr.index 164 (.agg #[.func (.func 69) #[] #[.pointer (some ⟨P,0,none⟩),.pointer (some ⟨B,0,none⟩),.pointer (some ⟨P+1,0,none⟩)],.func (.func 71) #[] #[.pointer (some ⟨P,0,none⟩),.pointer (some ⟨B,0,none⟩)],.func (.func 73) #[] #[.pointer (some ⟨P,0,none⟩),.pointer (some ⟨B,0,none⟩)],.func (.func 75) #[] #[.pointer (some ⟨B,0,none⟩),.pointer (some ⟨P,0,none⟩)]]) (.int .i64 0)).run prog W=.ok (.func (.func 69) #[] #[.pointer (some ⟨P,0,none⟩),.pointer (some ⟨B,0,none⟩),.pointer (some ⟨P+1,0,none⟩)]) W:=by kernel_rfl
theorem idxF1 (P B:Nat) (W:World):(Instr.index 164 (.agg #[.func (.func 69) #[] #[.pointer (some ⟨P,0,none⟩),.pointer (some ⟨B,0,none⟩),.pointer (some ⟨P+1,0,none⟩)],.func (.func 71) #[] #[.pointer (some ⟨P,0,none⟩),.pointer (some ⟨B,0,none⟩)],.func (.func 73) #[] #[.pointer (some ⟨P,0,none⟩),.pointer (some ⟨B,0,none⟩)],.func (.func 75) #[] #[.pointer (some ⟨B,0,none⟩),.pointer (some ⟨P,0,none⟩)]]) (.int .i64 1)).run prog W=.ok (.func (.func 71) #[] #[.pointer (some ⟨P,0,none⟩),.pointer (some ⟨B,0,none⟩)]) W:=by kernel_rfl
theorem idxF2 (P B:Nat) (W:World):(Instr.index 164 (.agg #[.func (.func 69) #[] #[.pointer (some ⟨P,0,none⟩),.pointer (some ⟨B,0,none⟩),.pointer (some ⟨P+1,0,none⟩)],.func (.func 71) #[] #[.pointer (some ⟨P,0,none⟩),.pointer (some ⟨B,0,none⟩)],.func (.func 73) #[] #[.pointer (some ⟨P,0,none⟩),.pointer (some ⟨B,0,none⟩)],.func (.func 75) #[] #[.pointer (some ⟨B,0,none⟩),.pointer (some ⟨P,0,none⟩)]]) (.int .i64 2)).run prog W=.ok (.func (.func 73) #[] #[.pointer (some ⟨P,0,none⟩),.pointer (some ⟨B,0,none⟩)]) W:=by kernel_rfl
theorem idxF3 (P B:Nat) (W:World):(Instr.index 164 (.agg #[.func (.func 69) #[] #[.pointer (some ⟨P,0,none⟩),.pointer (some ⟨B,0,none⟩),.pointer (some ⟨P+1,0,none⟩)],.func (.func 71) #[] #[.pointer (some ⟨P,0,none⟩),.pointer (some ⟨B,0,none⟩)],.func (.func 73) #[] #[.pointer (some ⟨P,0,none⟩),.pointer (some ⟨B,0,none⟩)],.func (.func 75) #[] #[.pointer (some ⟨B,0,none⟩),.pointer (some ⟨P,0,none⟩)]]) (.int .i64 3)).run prog W=.ok (.func (.func 75) #[] #[.pointer (some ⟨B,0,none⟩),.pointer (some ⟨P,0,none⟩)]) W:=by kernel_rfl
section
variable {w:World} {st b n an sp:Nat} {key:List UInt8} {σ:Nat->DkS} {F:Nat->Prop} {S:Sup} {vs vm:Value} {ad:List UInt8}
theorem commit_any (hL:Lay w) (hb:Bk w b n σ F) (hw:10<=w.heap.size) (hk:key.length=32) (aH:Blk w st 116 (stC b an key S vs vm sp)) (hR:y_P w S vs vm) (hS:SupOk S) (hc:S.count<1000) (gi:S.mem.length=n)
  (nD nE cv:Value) (hP:y_P w S nD nE) (l:List Cgd) (bz:Nat) (eq:w.ownsRow bz 154 3 cv l.length (cgC l)) (hl:l.length<=100) (hld:∀x∈l,x.disk<n) (ha:Blk w an 180 #[.int .u64 S.count,.string (bs ad)]) (GV:10<=an) (GW:10<=st)
  (ch:Nat->Nat->ByteArray) (iH:∀j t,(ch j t).size<=2032) (hlc:∀i (h:i<S.mem.length),(S.mem[i]'h).st=1->0<(lC l i).length/\(lC l i).length<=20/\∀x∈lC l i,x.at'<S.slots/\x.cell.size<=2032)
  (htop:∀i (h:i<S.mem.length),(S.mem[i]'h).st=1->(σ i).dead=false->(S.mem[i]'h).top=z_L S.slots (ch i)/\∀q,1<=q->q<S.slots->tl (σ i).now (100+q)=prT S.slots (ch i) q)
  (fy:∀j,j<n->(σ j).wait<=500) (jb:∃i,i<n/\(σ i).dead=false) (pD:y_l (prS (z_y S) σ n) (S.data+2)<=2) :
  Cl 41 #[.pointer (some ⟨st,0,none⟩),.agg (plC S nD nE cv)] w fun e w'=>e=.returned (.int .i64 0)/\∃bU ct,Blk w' st 116 (stC b an key (cmS S σ n ch l) bU ct sp)/\SupO w' w.heap.size (cmS S σ n ch l) bU ct/\Blk w' an 180 #[.int .u64 ((cmS S σ n ch l).count:Int),.string (bs (z_Z (z_t (cmS S σ n ch l))))]/\∃F',Gr w F F'/\Bk w' b n (y_U S σ n ch l) F'/\Kp (fun q=>F q\/q=an\/q=st) w w':=by
 have Tu:=bumpS_ok hS hc;have fV:Hid (0<S.mem.length):=Zz (by have:=hS.n1;omega);obtain ⟨As,cs,Am,cm,cQ,cq⟩:=hP.shape;subst cQ cq;obtain ⟨Ac,cc,mI⟩:=z_r eq;subst mI;have wW:=Zz (fun W (k:Kp NoB w W)=>made_any (aH.kp k fun h=>h) (hR.no k) (hP.no k) hS hc l (y_x (z_e eq k fun _ _ h=>h)) (by omega) (by rw[gi];exact hld));have eC:=Zz (fun W (k:Kp NoB w W)=>salive_any (aH.kp k fun h=>h));have nl:=Zz (fun W (k:Kp NoB w W) wk m1 m2 B2 B3 B6 base bU ct dJ ZA cZ ez gJ oP ul um h2 h6 h3=>csteps_any (w:=W) (wk:=wk) (m1:=m1) (m2:=m2) (B2:=B2) (B3:=B3) (B6:=B6) (base:=base) (vs:=bU) (vm:=ct) (hL.no k) (hb.no k) (by have:=k.size;omega) hk (aH.kp k fun h=>h) dJ ZA Tu gi cZ ez gJ oP ul um h2 h6 As Am Ac cs cm cc l h3 bz (z_e eq k fun _ _ h=>h) hl (ha.kp k fun h=>h) GV GW ch iH hlc htop fy jb pD);have fM:=Zz hw;have ak:=Zz ((Blk.new w 61 #[.pointer (some ⟨st,0,none⟩)]).alloc (.cells (plC S (.slice As (S.data+2) cs) (.slice Am S.mem.length cm) (.slice Ac l.length cc)) 97));have aJ:=Zz (Blk.new (w.alloc (.cells #[.pointer (some ⟨st,0,none⟩)] 61)) 97 (plC S (.slice As (S.data+2) cs) (.slice Am S.mem.length cm) (.slice Ac l.length cc)));have HK:=Zz (((Kp.refl NoB w).alloc (.cells #[.pointer (some ⟨st,0,none⟩)] 61)).alloc (.cells (plC S (.slice As (S.data+2) cs) (.slice Am S.mem.length cm) (.slice Ac l.length cc)) 97));rw[World.size_alloc] at aJ;have kI:Hid (plC S (.slice As (S.data+2) cs) (.slice Am S.mem.length cm) (.slice Ac l.length cc)=#[.int .u64 S.count,.int .u64 S.epoch,.int .i64 S.data,.int .i64 S.slots,.int .i64 0,.int .i64 0,.bool false,.slice As (S.data+2) cs,.slice Am S.mem.length cm,.slice none 0 0,.slice Ac l.length cc]):=Zz rfl;clear hL hb aH hR hP eq ha hlc htop fy jb pD iH hld hw gi hS Tu hc hl;change Cl 41 #[.pointer (some ⟨st,0,none⟩),.agg #[.int .u64 S.count,.int .u64 S.epoch,.int .i64 S.data,.int .i64 S.slots,.int .i64 0,.int .i64 0,.bool false,.slice As (S.data+2) cs,.slice Am S.mem.length cm,.slice none 0 0,.slice Ac l.length cc]] w _;go_enter func41,ntmps41
 go_upto_region 1 with fail
 change Code.wp _ _ _ _ ((w.alloc (.cells #[.pointer (some ⟨st,0,none⟩)] 61)).alloc (.cells (plC S (.slice As (S.data+2) cs) (.slice Am S.mem.length cm) (.slice Ac l.length cc)) 97));generalize (w.alloc (.cells #[.pointer (some ⟨st,0,none⟩)] 61)).alloc (.cells (plC S (.slice As (S.data+2) cs) (.slice Am S.mem.length cm) (.slice Ac l.length cc)) 97)=w1 at *;obtain ⟨P,rf⟩:∃P,w.heap.size=P:=⟨_,rfl⟩;rw[rf] at ak aJ fM ⊢;have GD:=Zz rf;clear rf;have t2:=ak.o.c0;have p0:=aJ.o.c0;have p1:=aJ.o.c1;have p2:=aJ.o.c2;have p3:=aJ.o.c3;have p4:=aJ.o.c4;have p5:=aJ.o.c5;have p6:=aJ.o.c6;have p7:=aJ.o.c7;have p8:=aJ.o.c8;have p9:=aJ.o.c9;have px:=aJ.o.c10;go_wp2_with fail;refine (eC.o w1 HK.o).mono ?_;rintro e w2 ⟨rfl,rfl⟩;have jg:=Zz (wW.o w2 HK.o);rw[kI.o] at jg;go_wp2_with fail;refine jg.o.mono ?_;rintro e w3 ⟨wk,m1,m2,bU,ct,rfl,bu,bJ,eW,gJ,dJ,cP,cZ,ez,au⟩;have Jy:=HK.o.size;have bQ:=aJ.o.lt;have aE:=(Kp.refl NoB w3).alloc (.cells #[.pointer (some ⟨wk,0,none⟩)] 155);have az:=Zz ((HK.o.trans au).trans aE);have dw:=nl.o _ ((HK.o.trans au).trans aE) wk m1 m2 P (P+1) w3.heap.size w2.heap.size bU ct (dJ.kp aE fun h=>h) (cP.no aE) (cZ.no aE) (ez.no aE) gJ (by have:=fM.o;omega) (by have:=fM.o;omega) (by have:=fM.o;omega) ((ak.o.kp au fun h=>h).kp aE fun h=>h) (Blk.new w3 155 #[.pointer (some ⟨wk,0,none⟩)]) ((aJ.o.kp au fun h=>h).kp aE fun h=>h);obtain ⟨PP,tm,sL,Cx,sM,gh,CZ⟩:=dw;have pU:=Zz tm;have oU:=Zz sL;have ee:=Zz Cx;have eZ:=Zz sM;have iL:=Zz gh;have C3:=Zz CZ;have DP:=Zz (y_u cP.mems fV.o);have Sb:Hid (w.heap.size<=w2.heap.size/\w.heap.size<=m1/\w.heap.size<=m2):=Zz (by have:=GD.o;omega);clear tm sL Cx sM gh CZ cZ ez dJ cP au aE bu bJ eW t2 p0 p1 p2 p3 p4 p5 p6 p7 p8 p9 px jg wW eC nl gJ Jy bQ
 go_upto_region 8 with fail
 generalize w3.alloc (.cells #[.pointer (some ⟨wk,0,none⟩)] 155)=w4 at *;generalize w3.heap.size=B6 at *
 go_loopw [9,10,30] (fun _ _ s30 wr=>∃i:Nat,i<=4/\s30=.int .i64 i/\Hid (PP i wr)) (fun _ _ s30 _=>4-(intOf s30).toNat)
 case atStart=>exact ⟨0,by omega,rfl,pU⟩
 case round =>
  clear pU;obtain ⟨i,hi,rfl,HP⟩:=hrel;rcases i with _|_|_|_|_|i
  ·have wX:=idxF0 P B6
   go_wp2_with fail;refine (oU.o wr HP.o).mono ?_;rintro e w8 ⟨rfl,lU⟩;have cM:=Zz lU;clear lU;go_wp2;go_roundw
   case rel=>exact ⟨1,by omega,by go_num,cM⟩
   case measure=>simp[intOf]
  ·have wX:=idxF1 P B6
   go_wp2_with fail;refine (ee.o wr HP.o).mono ?_;rintro e w8 ⟨rfl,lU⟩;have cM:=Zz lU;clear lU;go_wp2;go_roundw
   case rel=>exact ⟨2,by omega,by go_num,cM⟩
   case measure=>simp[intOf]
  ·have wX:=idxF2 P B6
   go_wp2_with fail;refine (eZ.o wr HP.o).mono ?_;rintro e w8 ⟨rfl,lU⟩;have cM:=Zz lU;clear lU;go_wp2;go_roundw
   case rel=>exact ⟨3,by omega,by go_num,cM⟩
   case measure=>simp[intOf]
  ·have wX:=idxF3 P B6
   go_wp2_with fail;refine (iL.o wr HP.o).mono ?_;rintro e w8 ⟨rfl,lU⟩;have cM:=Zz lU;clear lU;go_wp2;go_roundw
   case rel=>exact ⟨4,by omega,by go_num,cM⟩
   case measure=>simp[intOf]
  ·have HF:=Zz (C3.o wr HP.o)
   go_wp2;go_ret;obtain ⟨f1,f2,f3,g,hg,F',f4,f5,f6⟩:=HF.o;obtain ⟨g2,c2,qI,am,_⟩:=DP.o;obtain ⟨z1,z2,z3⟩:=Sb.o;rw[qI] at hg
   obtain rfl:g2=g:=by injection hg
   refine ⟨rfl,bU,ct,f1,f2.more z1,f3,F',(Gr.refl w F).then f4 az.o.size,f5,(az.o.mono fun _ _ h=>h.elim).then f6 fun q hq h=>?_⟩;rcases h with h|h|h|h|h|h
   ·exact .inl h
   ·exact .inr (.inl h)
   ·exact .inr (.inr h)
   ·omega
   ·omega
   ·omega
  ·omega
end
def vlC (b an:Nat) (key:List UInt8) (s:Option Addr) (m:Option Nat):Array Value:=#[.pointer (some ⟨b,0,none⟩),.pointer (some ⟨an,0,none⟩),.string (bs key),.pointer s,.map m]
section
variable {w:World} {v b n an st sp:Nat} {key:List UInt8} {S:Sup} {vs vm:Value} {s:Option Addr} {m:Option Nat}
theorem vnew_any (w:World) (b an:Nat) (key:List UInt8) :
  Cl 52 #[.pointer (some ⟨b,0,none⟩),.pointer (some ⟨an,0,none⟩),.string (bs key)] w fun e w'=>e=.returned (.pointer (some ⟨w.heap.size,0,none⟩))/\Blk w' w.heap.size 88 (vlC b an key none none)/\Kp NoB w w':=by
 have HB:=Zz (Blk.new w 88 (vlC b an key none none));have HK:=Zz ((Kp.refl NoB w).alloc (.cells (vlC b an key none none) 88));go_enter func52,ntmps52;go_wp2;go_ret;exact ⟨rfl,HB.o,HK.o⟩
theorem w_T (h:Blk w v 88 (vlC b an key (some ⟨st,0,none⟩) m)) (hs:Blk w st 116 (stC b an key S vs vm sp)) :
  Cl 33 #[.pointer (some ⟨v,0,none⟩)] w fun e w'=>e=.returned (.int .i64 0)/\w'=w:=by
 have c3:=h.c3;have HD:=Zz (sdead_any hs);clear h hs;go_enter func33,ntmps33;go_wp2_with fail;refine HD.o.mono ?_;rintro e w2 ⟨rfl,rfl⟩;go_wp2;go_ret;exact ⟨rfl,rfl⟩
theorem unmount_any (h:Blk w v 88 (vlC b an key (some ⟨st,0,none⟩) m)) :
  Cl 19 #[.pointer (some ⟨v,0,none⟩)] w fun e w'=>e=.returned (.int .i64 0)/\Blk w' v 88 (vlC b an key none none)/\Kp (·=v) w w':=by
 have c3:=h.c3;have f3:=h.frozen 3;have h1:=h.set_ 3 (.pointer none);have c4:(w.setCell ⟨v,3,none⟩ (.pointer none)).cell? ⟨v,4,none⟩=some (.map m):=h1.cell 4;have f4:=h1.frozen 4;have HB:Hid (Blk ((w.setCell ⟨v,3,none⟩ (.pointer none)).setCell ⟨v,4,none⟩ (.map none)) v 88 (vlC b an key none none)):=Zz (h1.set_ 4 (.map none));have HK:=Zz (((Kp.refl (·=v) w).setCell ⟨v,3,none⟩ (.pointer none) (.inl rfl)).setCell ⟨v,4,none⟩ (.map none) (.inl rfl));clear h h1;go_enter func19,ntmps19;go_wp2;go_ret;exact ⟨rfl,HB.o,HK.o⟩
end
section
variable {w:World} {v b n an:Nat} {key:List UInt8} {m:Option Nat}
theorem vformat_any {R:World->Prop} (h:Blk w v 88 (vlC b an key none m)) (d s:Nat)
  (hf:∀W,Kp NoB w W->Cl 54 #[.pointer (some ⟨b,0,none⟩),.pointer (some ⟨an,0,none⟩),.string (bs key),.int .i64 d,.int .i64 s] W fun e w'=>e=.returned (.int .i64 0)/\R w') :
  Cl 27 #[.pointer (some ⟨v,0,none⟩),.int .i64 d,.int .i64 s] w fun e w'=>e=.returned (.int .i64 0)/\R w':=by
 have c3:=h.c3;have HV:=Zz h.drew;have HH:=Zz (hf w.drew (Kp.refl NoB w).drew);clear h hf;go_enter func27,ntmps27
 go_upto_region 5 with fail
 clear c3;refine fs ?_;generalize w.drew=w1 at *;have c0:=HV.o.c0;have c1:=HV.o.c1;have c2:=HV.o.c2;refine fp 0 ?_;refine fp 1 ?_;refine fp 2 ?_;refine f_c 3 c0 ?_;refine fp 4 ?_;refine fp 5 ?_;refine fp 6 ?_;refine f_c 7 c1 ?_;refine fp 8 ?_;refine fp 9 ?_;refine fp 10 ?_;refine f_c 11 c2 ?_;refine fp 12 ?_;refine fp 13 ?_;refine fd 14 fun K Qx hK=>?_;go_simp;refine HH.o.mono ?_;rintro e w2 ⟨rfl,hr⟩;refine hK _ _ (oW (oW (oW oN))) ?_;clear hK K c0 c1 c2;refine fp 15 ?_;refine fe ?_;go_wp2;go_ret;exact ⟨rfl,hr⟩
theorem vmount_any {R:Nat->World->Prop} (h:Blk w v 88 (vlC b an key none m))
  (hf:∀W,Kp NoB w W->Cl 50 #[.pointer (some ⟨b,0,none⟩),.pointer (some ⟨an,0,none⟩),.string (bs key)] W fun e w'=>∃st,e=.returned (.tuple #[.pointer (some ⟨st,0,none⟩),.int .i64 0])/\Blk w' v 88 (vlC b an key none m)/\R st w') :
  Cl 23 #[.pointer (some ⟨v,0,none⟩)] w fun e w'=>e=.returned (.int .i64 0)/\∃st g W,R st W/\Blk w' v 88 (vlC b an key (some ⟨st,0,none⟩) (some g))/\W.heap.size<=g/\MapA KI w' g (fun _=>none) []/\Kp (·=v) W w':=by
 have c3:=h.c3;have HV:=Zz h.drew;have HH:=Zz (hf w.drew (Kp.refl NoB w).drew);have lB:=@run_makeMap prog;clear h hf;go_enter func23,ntmps23
 go_upto_region 5 with fail
 clear c3;refine fs ?_;generalize w.drew=w1 at *;have c0:=HV.o.c0;have c1:=HV.o.c1;have c2:=HV.o.c2;refine fp 0 ?_;refine fp 1 ?_;refine fp 2 ?_;refine f_c 3 c0 ?_;refine fp 4 ?_;refine fp 5 ?_;refine fp 6 ?_;refine f_c 7 c1 ?_;refine fp 8 ?_;refine fp 9 ?_;refine fp 10 ?_;refine f_c 11 c2 ?_;refine fd 12 fun K Qx hK=>?_;go_simp;refine HH.o.mono ?_;rintro e w2 ⟨st,rfl,qI,hr⟩;refine hK _ _ (oW (oW (oW oN))) ?_;clear hK K c0 c1 c2;refine fp 13 ?_;refine fp 14 ?_;refine fp 15 ?_;refine fp 16 ?_;refine fp 17 ?_;refine fe ?_;have HR:=Zz hr;have Ay:=(Kp.refl (·=v) w2).alloc (.map #[] 0)
 have Bh:=qI.alloc (.map #[] 0);have ut:=MapA.made (M:=KI) w2;have ZC:Hid (w2.heap.size≠v):=Zz (by have:=qI.lt;omega);have c3:(w2.alloc (.map #[] 0)).cell? ⟨v,3,none⟩=some (.pointer none):=Bh.cell 3;have f3:=Bh.frozen 3;have Cc:=Bh.set_ 3 (.pointer (some ⟨st,0,none⟩));have c4:((w2.alloc (.map #[] 0)).setCell ⟨v,3,none⟩ (.pointer (some ⟨st,0,none⟩))).cell? ⟨v,4,none⟩=some (.map m):=Cc.cell 4;have f4:=Cc.frozen 4;have HB:Hid (Blk (((w2.alloc (.map #[] 0)).setCell ⟨v,3,none⟩ (.pointer (some ⟨st,0,none⟩))).setCell ⟨v,4,none⟩ (.map (some w2.heap.size))) v 88 (vlC b an key (some ⟨st,0,none⟩) (some w2.heap.size))):=Zz (Cc.set_ 4 (.map (some w2.heap.size)));have aX:Kp (·=v) (w2.alloc (.map #[] 0)) (((w2.alloc (.map #[] 0)).setCell ⟨v,3,none⟩ (.pointer (some ⟨st,0,none⟩))).setCell ⟨v,4,none⟩ (.map (some w2.heap.size))):=((Kp.refl (·=v) _).setCell ⟨v,3,none⟩ (.pointer (some ⟨st,0,none⟩)) (.inl rfl)).setCell ⟨v,4,none⟩ (.map (some w2.heap.size)) (.inl rfl);have HM:=Zz (ut.kp aX ZC.o);have HK:=Zz (Ay.trans aX);clear Ay Bh ut Cc aX qI hr;go_wp2;go_ret;exact ⟨rfl,st,w2.heap.size,w2,HR.o,HB.o,q_e _,HM.o,HK.o⟩
end
section
variable {w:World} {v b n an st sp g:Nat} {key:List UInt8} {S:Sup} {vs vm:Value} {f:Nat->Option Value} {dom:List Nat}
theorem vwrite_any (hL:Lay w) (hv:Blk w v 88 (vlC b an key (some ⟨st,0,none⟩) (some g))) (hs:Blk w st 116 (stC b an key S vs vm sp)) (hM:MapA KI w g f dom) (hd:dom.length<1000) (fP:lyOk S.data S.slots) (k:Nat) (hk:k<S.slots*S.data) (x:ByteArray) (hx:x.size=32) :
  Cl 28 #[.pointer (some ⟨v,0,none⟩),.int .i64 k,.string x] w fun e w'=>e=.returned (.int .i64 0)/\MapA KI w' g (y_Q f k (.string x)) (z_J dom k)/\Kp (·=g) w w':=by
 have HU:=Zz (w_T hv hs);have fX:=Zz (y_Y hs);have HF:=Zz (fun W (k':Kp NoB w W)=>v_5 W (hL.no k') S.data S.slots fP k hk);have HV:=Zz hv;have HM:=Zz hM
 have aw:k<=100000:=by
  obtain ⟨h1,h2,h3⟩:=fP;have:S.slots*S.data<=4*8:=Nat.mul_le_mul (by omega) h2;omega
 have az:=Zz aw;have HD:=Zz hd;have c3:=hv.c3
 have ew:((x.size:Int) != 32)=false:=by rw[hx];rfl
 have eN:¬((x.size:Int)≠32):=by rw[hx];decide
 clear hL hv hs hM fP hk aw hd;obtain ⟨q1,js⟩:∃q,k / S.data=q:=⟨_,rfl⟩;obtain ⟨q2,jt⟩:∃q,k % S.data=q:=⟨_,rfl⟩;rw[js,jt] at HF;clear js jt;go_enter func28,ntmps28;go_wp2_with fail;refine HU.o.mono ?_;rintro e w2 ⟨rfl,rfl⟩;go_wp2_with fail;refine fX.o.mono ?_;rintro e w3 ⟨rfl,au⟩;have ar:=Zz au;go_wp2_with fail;refine (HF.o w3 au).mono ?_;rintro e w4 ⟨rfl,aw⟩;have ax:=Zz (ar.o.trans aw);have Jz:=HV.o.kp ax.o fun h=>h;have c4:=Jz.c4;obtain ⟨w5,gS,yp,aG⟩:=(HM.o.no ax.o).put kd3 y_7 (by have:=HD.o;simp only[maxLen];omega) (a:=k) (show k<=100000 from az.o) (.string x);replace gS:(Instr.mapUpdate 86 (.map (some g)) (.int .i64 k) (.string x)).run prog w4=.ok () w5:=gS;have HR:=Zz (And.intro yp ((ax.o.mono fun _ _ h=>h.elim:Kp (·=g) _ _).trans aG));clear au aw Jz yp aG c3;go_wp2;go_ret;exact ⟨rfl,HR.o⟩
end
section
variable {w:World} {v b n an st sp g:Nat} {key:List UInt8} {S:Sup} {vs vm:Value} {f:Nat->Option ByteArray} {dom:List Nat}
theorem vread_any (hL:Lay w) (hv:Blk w v 88 (vlC b an key (some ⟨st,0,none⟩) (some g))) (hs:Blk w st 116 (stC b an key S vs vm sp)) (hR:y_P w S vs vm) (hS:SupOk S) (hM:MapA KI w g (txM f) dom) (fP:lyOk S.data S.slots) (k:Nat) (hk:k<S.slots*S.data) (y:ByteArray) (e0:Int)
  (hf:∀z,f k=some z->y=z/\e0=0)
  (hO:f k=none->∀W u,Kp NoB w W->z_Q W u 6 (S.data+2) (shL b S.slots key (y_j S (k / S.data)))->Cl 36 #[u,.int .i64 (k / S.data:Nat),.int .i64 (k % S.data:Nat)] W fun e w'=>e=.returned (.tuple #[.string y,.int .i64 e0])/\Kp NoB W w') :
  Cl 11 #[.pointer (some ⟨v,0,none⟩),.int .i64 k] w fun e w'=>e=.returned (.tuple #[.string y,.int .i64 e0])/\Kp NoB w w':=by
 have HU:=Zz (w_T hv hs);have fX:=Zz (y_Y hs);have HF:=Zz (fun W (k':Kp NoB w W)=>v_5 W (hL.no k') S.data S.slots fP k hk);have hq:k / S.data<S.slots:=Nat.div_lt_of_lt_mul (by rw[Nat.mul_comm];exact hk);have iC:=Zz (fun W (k':Kp NoB w W)=>v_T (hL.no k') (hs.kp k' fun h=>h) (hR.no k') hS hq);have HV:=Zz hv;have HM:=Zz hM
 have aw:k<=100000:=by
  obtain ⟨h1,h2,h3⟩:=fP;have:S.slots*S.data<=4*8:=Nat.mul_le_mul (by omega) h2;omega
 have az:=Zz aw;have HO:=Zz hO;have sV:=Zz hf;have c3:=hv.c3;clear hL hv hs hM fP hk aw hR hS hO hf hq;obtain ⟨q1,js⟩:∃q,k / S.data=q:=⟨_,rfl⟩;obtain ⟨q2,jt⟩:∃q,k % S.data=q:=⟨_,rfl⟩;rw[js,jt] at HF HO;rw[js] at iC;clear js jt;go_enter func11,ntmps11;go_wp2_with fail;refine HU.o.mono ?_;rintro e w2 ⟨rfl,rfl⟩;go_wp2_with fail;refine fX.o.mono ?_;rintro e w3 ⟨rfl,au⟩;have ar:=Zz au;go_wp2_with fail;refine (HF.o w3 au).mono ?_;rintro e w4 ⟨rfl,aw⟩;have ax:=Zz (ar.o.trans aw);have Tv:=Zz (HV.o.kp ax.o fun h=>h);have c4:=Tv.o.c4;have bo:=((HM.o.no ax.o).look kd3 y_7 (zero9 w4) (a:=k) (show k<=100000 from az.o)).2;clear au aw c3
 cases gT:f k with
 | some z =>
  obtain ⟨rfl,rfl⟩:=sV.o z gT;rw[show txM f k=some (.string y) by unfold txM;rw[gT];rfl] at bo;replace bo:(Instr.lookup 86 (.map (some g)) (.int .i64 k) true).run prog w4=.ok (.tuple #[.string y,.bool true]) w4:=bo;clear gT;go_wp2;go_ret2
  exact ⟨rfl,ax.o⟩
 | none =>
  rw[show txM f k=none by unfold txM;rw[gT];rfl] at bo;replace bo:(Instr.lookup 86 (.map (some g)) (.int .i64 k) true).run prog w4=.ok (.tuple #[.string ⟨#[]⟩,.bool false]) w4:=bo;have ZD:=Zz (HO.o gT);clear gT;have c3:=Tv.o.c3;go_wp2_with fail;refine (iC.o w4 ax.o).mono ?_;rintro e w5 ⟨u5,rfl,G3,aG⟩;have aB:=Zz (ax.o.trans aG);have nL:=Zz (ZD.o w5 u5 aB.o (y_x G3));clear aG G3;go_wp2_with fail;refine nL.o.mono ?_;rintro e w6 ⟨rfl,ap⟩;have bC:=Zz (aB.o.trans ap);clear ap;go_wp2;go_ret2;exact ⟨rfl,bC.o⟩
end
end Go.Proofs.YtdkheklakfbeeaaGreatDoor
