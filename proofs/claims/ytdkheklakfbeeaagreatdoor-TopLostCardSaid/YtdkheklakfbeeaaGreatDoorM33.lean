/- Part 33 of the proof. -/
import Derived.Test.YtdkheklakfbeeaaGreatDoorM32
set_option linter.all false
set_option maxRecDepth 100000
set_option maxHeartbeats 16000000
namespace Go.Proofs.YtdkheklakfbeeaaGreatDoor
open Go.RowKit Go.Proofs.Tryz
def lC (l:List Cgd) (i:Nat):List Wr:=(l.filter fun x=>x.disk==i).map fun x=>⟨x.slot,x.cell⟩
theorem lC_take (l:List Cgd) (i j:Nat) (h:j<l.length):lC (l.take (j+1)) i=if (l[j]'h).disk=i then lC (l.take j) i++[⟨(l[j]'h).slot,(l[j]'h).cell⟩] else lC (l.take j) i:=by
 unfold lC;rw[q_h h,List.filter_append,List.map_append];by_cases e:(l[j]'h).disk=i
 ·simp[List.filter,e]
 ·have e2:((l[j]'h).disk==i)=false:=by rw[q_o];exact e
  simp[List.filter,e,e2]
theorem lC_len (l:List Cgd) (i:Nat):(lC l i).length<=l.length:=by
 unfold lC;rw[q_i];exact List.length_filter_le _ _
def prM (L:List Mem) (σ:Nat->DkS) (k:Nat):List Mem:=L.mapIdx fun j m=>if j<k/\m.st=1/\(σ j).dead=true then { m with st:=2 } else m
def prS (S:Sup) (σ:Nat->DkS) (k:Nat):Sup:={ S with mem:=prM S.mem σ k }
def prD (S:Sup) (σ:Nat->DkS) (k:Nat):List Nat:=(List.range k).filter fun j=>stA S j==1 && !(σ j).dead
section
variable (S:Sup) (σ:Nat->DkS)
theorem prM_len (L:List Mem) (k:Nat):(prM L σ k).length=L.length:=by simp[prM]
theorem x_n (k:Nat):(prS S σ k).mem.length=S.mem.length:=prM_len σ _ _
theorem prM_zero (L:List Mem):prM L σ 0=L:=by
 unfold prM;apply q_G;intro i;simp
theorem prS_zero:prS S σ 0=S:=by unfold prS;rw[prM_zero]
theorem prM_at (L:List Mem) (k i:Nat) (hk:k<=i) (h:i<L.length):(prM L σ k)[i]'(by rw[prM_len];exact h)=L[i]'h:=by
 unfold prM;rw[List.getElem_mapIdx,if_neg (by omega)]
theorem prS_dead (k:Nat) (h:k<S.mem.length) (h1:(S.mem[k]'h).st=1) (hd:(σ k).dead=true):failS (prS S σ k) k=prS S σ (k+1):=by
 unfold failS prS failM prM;congr 1;apply q_G;intro i;rw[List.getElem?_modify,List.getElem?_mapIdx,List.getElem?_mapIdx];by_cases e:k=i
 ·subst e
  rw[q_d h];simp[h1,hd]
 ·have e2:i<k+1↔i<k:=by omega
  simp only[e2];simp[e]
theorem prS_same (k:Nat) (h1:∀h:k<S.mem.length,¬((S.mem[k]'h).st=1/\(σ k).dead=true)):prS S σ (k+1)=prS S σ k:=by
 unfold prS prM;congr 1;apply q_G;intro i;rw[List.getElem?_mapIdx,List.getElem?_mapIdx]
 cases hc:S.mem[i]? with
 | none=>rfl
 | some m =>
  obtain ⟨hi,hm⟩:=q_J.1 hc;by_cases e:k=i
  ·subst e
   have:=h1 hi;rw[hm] at this;simp[this]
  ·have e2:i<k+1↔i<k:=by omega
   simp only[e2]
theorem prD_in (k:Nat) (h1:stA S k=1) (hd:(σ k).dead=false):prD S σ (k+1)=prD S σ k++[k]:=by
 unfold prD;rw[List.range_succ,List.filter_append];simp[h1,hd]
theorem prD_out (k:Nat) (h1:¬(stA S k=1/\(σ k).dead=false)):prD S σ (k+1)=prD S σ k:=by
 unfold prD;rw[List.range_succ,List.filter_append]
 have:(stA S k==1 && !(σ k).dead)=false:=by
  rw[Bool.eq_false_iff];intro h;simp at h;exact h1 h
 simp[List.filter,this]
theorem prD_mem (k j:Nat):j∈prD S σ k↔j<k/\stA S j=1/\(σ j).dead=false:=by
 unfold prD;simp
theorem prD_add (k:Nat):z_J (prD S σ k) k=prD S σ k++[k]:=by
 unfold z_J;rw[if_neg];rw[prD_mem];omega
theorem prD_len (k:Nat):(prD S σ k).length<=k:=by
 unfold prD;have:=List.length_filter_le (fun j=>stA S j==1 && !(σ j).dead) (List.range k);rw[q_H] at this;exact this
end
def vD (U:Nat->Value) (dom:List Nat):Nat->Option Value:=fun j=>if j∈dom then some (U j) else none
theorem vD_put (U:Nat->Value) (dom:List Nat) (a:Nat) (u:Value) (ha:a∉dom):y_Q (vD U dom) a u=vD (fun j=>if j=a then u else U j) (dom++[a]):=by
 funext x;unfold y_Q vD;by_cases e:x=a
 ·simp[e]
 ·simp[e]
theorem vD_del (U:Nat->Value) (dom:List Nat) (a:Nat) (ha:a∉dom):delK (vD U dom) a=vD U dom:=by
 funext x;unfold delK vD;by_cases e:x=a
 ·subst e;simp[ha]
 ·simp[e]
theorem erase_not {dom:List Nat} {a:Nat} (h:a∉dom):dom.erase a=dom:=List.erase_of_not_mem h
theorem infoSC:(prog.info? 152).map (fun i=>(i.zero,i.size,i.bytes))=some (some (.agg #[.int .i64 0,.string ⟨#[]⟩]),2,24):=by kernel_rfl
theorem infoLW:(prog.info? 182).map (fun i=>(i.zero,i.size,i.bytes))=some (some (.slice none 0 0),1,24):=by kernel_rfl
theorem zeroWS (W:World):(zeroValue 182).run prog W=.ok (.slice none 0 0) W:=by
 obtain ⟨i0,hi,dB,dv,cX⟩:=info_parts infoLW;simp[zeroValue,typeInfo,hi,dB]
def Rows (w:World) (B:Nat) (U:Nat->Value) (dom:List Nat) (X:Nat->List Wr):Prop:=∀j∈dom,w.ownsRow B 240 2 (U j) (X j).length (wrC (X j))
theorem Rows.kp {S:Nat->Prop} {w w':World} {B:Nat} {U:Nat->Value} {dom:List Nat} {X:Nat->List Wr} (h:Rows w B U dom X) (k:Kp S w w') (hS:∀q,S q->∀cs,¬Blk w q 240 cs):Rows w' B U dom X:=fun j hj=>z_e (h j hj) k fun q hq hs=>by
 obtain ⟨cs,hb⟩:=z_i (h j hj) hq;exact hS q hs cs hb
theorem Rows.no {w w':World} {B:Nat} {U:Nat->Value} {dom:List Nat} {X:Nat->List Wr} (h:Rows w B U dom X) (k:Kp NoB w w'):Rows w' B U dom X:=h.kp k fun _ h=>h.elim
theorem Rows.add {w:World} {B:Nat} {U:Nat->Value} {dom:List Nat} {X:Nat->List Wr} (h:Rows w B U dom X) (a:Nat) (u:Value) (ha:a∉dom) (hu:w.ownsRow B 240 2 u (X a).length (wrC (X a))):Rows w B (fun j=>if j=a then u else U j) (dom++[a]) X:=fun j hj=>by
 by_cases e:j=a
 ·subst e;simp only[if_true];exact hu
 ·show w.ownsRow B 240 2 (if j=a then u else U j) (X j).length (wrC (X j))
  rw[if_neg e];rcases List.mem_append.1 hj with hj|hj
  ·exact h j hj
  ·exact absurd (List.mem_singleton.1 hj) e
theorem prS_ok {S:Sup} (hS:SupOk S) (σ:Nat->DkS) (k:Nat):SupOk (prS S σ k) where
 d2:=hS.d2
 d8:=hS.d8
 sl:=hS.sl
 n1:=by rw[x_n];exact hS.n1
 n12:=by rw[x_n];exact hS.n12
 mem i h:=by
  have hi:i<S.mem.length:=by rwa [x_n] at h
  obtain ⟨h1,h2,h3,h4⟩:=hS.mem i hi
  have e:(prS S σ k).mem[i]'h=if i<k/\(S.mem[i]'hi).st=1/\(σ i).dead=true then { S.mem[i]'hi with st:=2 } else S.mem[i]'hi:=by
   have e2:(prS S σ k).mem[i]'h=(prM S.mem σ k)[i]'h:=rfl;rw[e2];simp only[prM,List.getElem_mapIdx]
  rw[e];by_cases hc:i<k/\(S.mem[i]'hi).st=1/\(σ i).dead=true
  ·rw[if_pos hc]
   exact ⟨h1,h2,fun _=>.inr rfl,fun hh=>by have:=h4 hh;omega⟩
  ·rw[if_neg hc]
   exact ⟨h1,h2,h3,h4⟩
 c:=hS.c
 e:=hS.e
def S3 (g m1 m2:Nat):Nat->Prop:=fun q=>q=g\/q=m1\/q=m2
section
variable {w:World} {wk m1 m2 base st b n an sp:Nat} {key:List UInt8} {σ:Nat->DkS} {F:Nat->Prop} {S S0:Sup} {vs vm pz pA:Value}
theorem prep1_any {i s:Nat} (hL:Lay w) (h:Bk w b n σ F) (hw:10<=w.heap.size) (hi:i<n) (hs:sl s) (hk:key.length=32) (ch:Nat->ByteArray) (ue:ByteArray) (v:Value) (l:List Wr) (hv:z_Q w v 2 l.length (wrC l)) (h0:0<l.length) (hl:l.length<=100) (bI:∀x∈l,x.at'<s/\x.cell.size<=2032)
  (wE:(σ i).dead=false->ue=z_L s ch/\∀q,1<=q->q<s->tl (σ i).now (100+q)=prT s ch q) :
  Cl 114 #[.agg (slC b i s key),.string ue,v] w fun e w'=>∃u tx er,e=.returned (.tuple #[u,.string tx,.int .i64 er])/\Kp NoB w w'/\((σ i).dead=true/\er=20\/(σ i).dead=false/\er=0/\tx=z_L s (chW ch l)/\w'.ownsRow w.heap.size 240 2 u (prW s ch l).length (wrC (prW s ch l))):=by
 cases hd:(σ i).dead with
 | true =>
  refine (prepdead_any hL h hw hi hs hk hd ue v l hv h0 hl bI).mono ?_;rintro e w' ⟨rfl,mW⟩
  exact ⟨_,_,_,rfl,mW,.inl ⟨rfl,rfl⟩⟩
 | false =>
  obtain ⟨rfl,h2⟩:=wE hd;refine (prepare_any hL h hw hi hs hk hd ch v l hv hl bI h2).mono ?_;rintro e w' ⟨u,rfl,hu,mW⟩;exact ⟨_,_,_,rfl,mW,.inr ⟨rfl,rfl,rfl,hu⟩⟩
theorem prep_any (hL:Lay w) (hb:Bk w b n σ F) (hw:10<=w.heap.size) (hk:key.length=32) (aH:Blk w st 116 (stC b an key S0 pz pA sp)) (dJ:Blk w wk 163 (wkC S vs vm m1 m2)) (hR:SupO w base S vs vm) (hS:SupOk S) (gi:S.mem.length=n)
  (cZ:MapA KI w m1 (fun _=>none) []) (ez:MapA KI w m2 (fun _=>none) []) (gJ:m1≠m2) (oP:10<=base) (ul:10<=m1) (um:10<=m2)
  (nD nE cv:Value) (l:List Cgd) (bz:Nat) (eq:w.ownsRow bz 154 3 cv l.length (cgC l)) (hl:l.length<=100) (Sp:Sup) (hsp:∃As cs Am cm,nD=.slice As (Sp.data+2) cs/\nE=.slice Am Sp.mem.length cm)
  (ch:Nat->Nat->ByteArray) (hlc:∀i (h:i<S.mem.length),(S.mem[i]'h).st=1->0<(lC l i).length/\∀x∈lC l i,x.at'<S.slots/\x.cell.size<=2032)
  (htop:∀i (h:i<S.mem.length),(S.mem[i]'h).st=1->(σ i).dead=false->(S.mem[i]'h).top=z_L S.slots (ch i)/\∀q,1<=q->q<S.slots->tl (σ i).now (100+q)=prT S.slots (ch i) q) :
  Cl 70 #[.pointer (some ⟨st,0,none⟩),.pointer (some ⟨wk,0,none⟩),.agg (plC Sp nD nE cv)] w fun e w'=>e=.returned (.int .i64 (if y_l (prS S σ n) (S.data+2)<=2 then 0 else 24))/\Blk w' wk 163 (wkC (prS S σ n) vs vm m1 m2)/\SupO w' base (prS S σ n) vs vm /\
   (∃U,MapA KI w' m1 (vD U (prD S σ n)) (prD S σ n)/\Rows w' w.heap.size U (prD S σ n) fun j=>prW S.slots (ch j) (lC l j))/\MapA KI w' m2 (txM (atD (fun j=>z_L S.slots (chW (ch j) (lC l j))) (prD S σ n))) (prD S σ n)/\∃g,vm.ownBlock=some g/\Kp (S3 g m1 m2) w w':=by
 have iJ:=hS.n1;have dy:=hS.n12;have zG:=hS.d8;have eP:=hS.sl;obtain ⟨As,cs,Am,cm,rfl,rfl⟩:=hsp;obtain ⟨g,cg,mP,bu,bJ⟩:=y_u hR.mems (by omega);subst mP;obtain ⟨Ac,cc,mI⟩:=z_r eq;subst mI;obtain ⟨zA,dW⟩:=z_i hR.mems (q:=g) rfl
 have Gz:Hid (∀q,S3 g m1 m2 q->¬F q):=Zz fun q hq=>by
  rcases hq with rfl|rfl|rfl
  ·exact hb.offRow hR.mems (by unfold tyB;decide) _ rfl
  ·exact hb.offMap cZ
  ·exact hb.offMap ez
 have uV:Hid (∀q t cs,Blk w q t cs->t≠108->¬S3 g m1 m2 q):=Zz fun q t cs hB ht hq=>by
  rcases hq with rfl|rfl|rfl
  ·exact Blk.ne_ hB dW ht rfl
  ·exact cZ.ne_blk hB rfl
  ·exact ez.ne_blk hB rfl
 have nr:Hid (∀q,q<6->¬S3 g m1 m2 q):=Zz fun q h6 hq=>by
  rcases hq with rfl|rfl|rfl
  ·omega
  ·omega
  ·omega
 have kO:=Zz (Blk.new w 97 (plC Sp (.slice As (Sp.data+2) cs) (.slice Am Sp.mem.length cm) (.slice Ac l.length cc)));have aE:Kp NoB w (w.alloc (.cells (plC Sp (.slice As (Sp.data+2) cs) (.slice Am Sp.mem.length cm) (.slice Ac l.length cc)) 97)):=(Kp.refl NoB w).alloc _;have dK:=Zz aE
 have mi:Hid (∀q,q<w.heap.size+1->S3 g m1 m2 q->q<w.heap.size):=Zz fun q _ hq=>by
  rcases hq with rfl|rfl|rfl
  ·exact bJ
  ·exact cZ.lt
  ·exact ez.lt
 have bj:=Zz (hL.no aE);have iB:=Zz (hb.no aE);have aR:=Zz (aH.kp aE fun h=>h);have jH:=Zz (dJ.kp aE fun h=>h);have kn:=Zz (uV.o st _ _ aH (by decide));have eu:=Zz (uV.o wk _ _ dJ (by decide));have GA:Hid (SupO (w.alloc (.cells (plC Sp (.slice As (Sp.data+2) cs) (.slice Am Sp.mem.length cm) (.slice Ac l.length cc)) 97)) base (prS S σ 0) vs (.slice (some ⟨g,0,none⟩) S.mem.length cg)):=Zz (by rw[prS_zero];exact hR.no aE);have zZ:Hid (∃U,MapA KI (w.alloc (.cells (plC Sp (.slice As (Sp.data+2) cs) (.slice Am Sp.mem.length cm) (.slice Ac l.length cc)) 97)) m1 (vD U (prD S σ 0)) (prD S σ 0)/\Rows (w.alloc (.cells (plC Sp (.slice As (Sp.data+2) cs) (.slice Am Sp.mem.length cm) (.slice Ac l.length cc)) 97)) w.heap.size U (prD S σ 0) fun j=>prW S.slots (ch j) (lC l j)):=Zz ⟨fun _=>.nilFunc,cZ.no aE,fun j hj=>by cases hj⟩;have GB:Hid (MapA KI (w.alloc (.cells (plC Sp (.slice As (Sp.data+2) cs) (.slice Am Sp.mem.length cm) (.slice Ac l.length cc)) 97)) m2 (txM (atD (fun j=>z_L S.slots (chW (ch j) (lC l j))) (prD S σ 0))) (prD S σ 0)):=Zz (ez.no aE);have B5:=Zz (z_e eq aE fun _ _ h=>h)
 have Jb:Hid (∀q,(Value.slice Ac l.length cc).ownBlock=some q->¬S3 g m1 m2 q):=Zz fun q hq=>by
  obtain ⟨iz,ay⟩:=z_i eq hq;exact uV.o q _ _ ay (by decide)
 have Zk:=Zz (cgC_at l);have pg:=Zz (lC_take l)
 have tI:Hid (∀j i,(lC (l.take j) i).length<=100):=Zz fun j i=>by have:=lC_len (l.take j) i;have:=q_l (i:=j) (l:=l);omega
 have mc:Hid (l.take l.length=l):=Zz List.take_length;have OJ:=Zz hlc;have IB:=Zz htop;have tU:=Zz (fun i (h:i<S.mem.length)=>x_6 h);have ug:=Zz hS.st2;have ej:=Zz (fun i (h:i<S.mem.length)=>x_p (prS S σ i).mem i (by rw[x_n];exact h));have Tf:Hid (∀i (h:i<S.mem.length),(prS S σ i).mem[i]'(by rw[x_n];exact h)=S.mem[i]'h):=Zz fun i h=>prM_at σ S.mem i i (q_e _) h;have fS:=Zz (prS_dead S σ);have Zl:=Zz (prS_same S σ);have vT:=Zz (prD_in S σ);have zj:=Zz (prD_out S σ);have mt:=Zz (prD_mem S σ);have B7:=Zz (prD_add S σ);have oV:=Zz (prD_len S σ);have ff:=Zz (x_n S σ);have OO:=Zz hk;have fx:=Zz eP;have fM:=Zz hw;have fF:=Zz bJ;have dD:=Zz gi;have tO:=Zz gJ;have ir:=Zz hS;clear hL hb hk aH dJ hR hS cZ ez eq hlc htop dW aE eP;obtain ⟨m,hm⟩:∃m,l.length=m:=⟨_,rfl⟩;have GC:=Zz hm;rw[hm] at hl mc;clear hm;obtain ⟨Tg,z7⟩:∃Tg:Int,(if y_l (prS S σ n) (S.data+2)<=2 then (0:Int) else 24)=Tg:=⟨_,rfl⟩;rw[z7];have Th:=Zz z7;clear z7;change Cl 70 #[.pointer (some ⟨st,0,none⟩),.pointer (some ⟨wk,0,none⟩),.agg #[.int .u64 Sp.count,.int .u64 Sp.epoch,.int .i64 Sp.data,.int .i64 Sp.slots,.int .i64 0,.int .i64 0,.bool false,.slice As (Sp.data+2) cs,.slice Am Sp.mem.length cm,.slice none 0 0,.slice Ac l.length cc]] w _;have k8:(w.alloc (.cells (plC Sp (.slice As (Sp.data+2) cs) (.slice Am Sp.mem.length cm) (.slice Ac l.length cc)) 97)).cell? ⟨wk,8,none⟩=some (.slice (some ⟨g,0,none⟩) S.mem.length cg):=jH.o.cell 8;go_enter func70,ntmps70
 go_upto_region 1 with fail
 change Code.wp _ _ _ _ (w.alloc (.cells (plC Sp (.slice As (Sp.data+2) cs) (.slice Am Sp.mem.length cm) (.slice Ac l.length cc)) 97));generalize w.alloc (.cells (plC Sp (.slice As (Sp.data+2) cs) (.slice Am Sp.mem.length cm) (.slice Ac l.length cc)) 97)=w1 at *;obtain ⟨P,rf⟩:∃P,w.heap.size=P:=⟨_,rfl⟩;rw[rf] at kO mi zZ fM ⊢;have GD:=Zz rf;clear rf bJ;have fV:Hid (¬S3 g m1 m2 P):=Zz fun h=>absurd (mi.o P (by omega) h) (by omega);rw[GC.o] at kO B5 Jb
 go_upto_region 2 with fail
 clear k8;have Ti:S.mem.length<=12:=dy;have bZ:=Zz (Kp.refl (S3 g m1 m2) w1)
 go_loopw [7,8,9,11,12,13,14,21] (fun _ _ _ _ _ _ _ s21 wr=>∃i:Nat,i<=S.mem.length/\s21=.int .i64 i/\Hid (SupO wr base (prS S σ i) vs (.slice (some ⟨g,0,none⟩) S.mem.length cg))/\Hid (∃U,MapA KI wr m1 (vD U (prD S σ i)) (prD S σ i)/\Rows wr P U (prD S σ i) fun j=>prW S.slots (ch j) (lC l j))/\Hid (MapA KI wr m2 (txM (atD (fun j=>z_L S.slots (chW (ch j) (lC l j))) (prD S σ i))) (prD S σ i))/\Hid (Kp (S3 g m1 m2) w1 wr)) (fun _ _ _ _ _ _ _ s21 _=>S.mem.length-(intOf s21).toNat)
 case atStart=>exact ⟨0,by omega,rfl,GA,zZ,GB,bZ⟩
 case round =>
  clear GA zZ GB bZ;obtain ⟨i,hi,rfl,HR,HA,HB,HK⟩:=hrel;by_cases af:i<S.mem.length
  ·have bV:(i:Int)<(S.mem.length:Int):=by omega
   obtain ⟨q0,q1,q2⟩:=ej.o i af;rw[Tf.o i af] at q0 q1 q2;have un:=HR.o.mems;rw[ff.o] at un
   have k0:wr.cell? ⟨g,i*3,none⟩=some (.int .i64 ((S.mem[i]'af).st:Int)):=by rw[z_O un _ (by omega)];exact q0
   have k1:wr.cell? ⟨g,i*3+1,none⟩=some (.string (S.mem[i]'af).top):=by rw[z_O un _ (by omega)];exact q1
   have k2:wr.cell? ⟨g,i*3+2,none⟩=some (.string (S.mem[i]'af).log):=by rw[z_O un _ (by omega)];exact q2
   clear q0 q1 q2 un;have lO:=ug.o i af;have hlc:=OJ.o i af;have Du:=IB.o i af;have BZ:=fS.o i af;have tD:=Zl.o i;have wS:=vT.o i;have wT:=zj.o i;rw[tU.o i af] at wS wT;have ur:Hid (¬((S.mem[i]'af).st=1/\(σ i).dead=true)->prS S σ (i+1)=prS S σ i):=Zz fun h=>tD fun _=>h;have wJ:Hid ((prS S σ i).mem[i]'(by rw[ff.o];exact af)=S.mem[i]'af):=Tf.o i af |> Zz;obtain ⟨⟨kg,tp,lg⟩,hx⟩:∃x,S.mem[i]'af=x:=⟨_,rfl⟩;rw[hx] at k0 k1 k2 lO hlc Du BZ wS wT ur wJ
   dsimp only at k0 k1 k2 lO hlc Du BZ wS wT ur
   have OP:=Zz hlc;have OQ:=Zz Du;have OR:=Zz BZ;have oQ:=Zz wS;have z8:=Zz wT;clear hx hlc Du BZ tD wS wT;have eF:=Zz (Blk.new wr 108 #[.int .i64 kg,.string tp,.string lg]);have aE:=(Kp.refl NoB wr).alloc (.cells #[.int .i64 kg,.string tp,.string lg] 108);have oe:=Zz (HR.o.no aE);have oZ:Hid (∃U,MapA KI (wr.alloc (.cells #[.int .i64 kg,.string tp,.string lg] 108)) m1 (vD U (prD S σ i)) (prD S σ i)/\Rows (wr.alloc (.cells #[.int .i64 kg,.string tp,.string lg] 108)) P U (prD S σ i) fun j=>prW S.slots (ch j) (lC l j)):=Zz (by obtain ⟨U,h1,h2⟩:=HA.o;exact ⟨U,h1.no aE,h2.no aE⟩);have aY:=Zz (HB.o.no aE);have ax:=Zz (HK.o.then aE fun _ _ h=>h.elim)
   have nA:Hid (g≠wr.heap.size/\m1≠wr.heap.size/\m2≠wr.heap.size):=Zz (by
    have h1:=(z_u HR.o.mems (q:=g) rfl).2;obtain ⟨U,h2,_⟩:=HA.o;have h2:=h2.lt;have h3:=HB.o.lt
    exact ⟨by omega,by omega,by omega⟩)
   clear aE HR HA HB HK
   go_upto_region 4 with fail
   clear k0 k1 k2;generalize wr.alloc (.cells #[.int .i64 kg,.string tp,.string lg] 108)=w5 at *;obtain ⟨D,hD⟩:∃D,wr.heap.size=D:=⟨_,rfl⟩;rw[hD] at eF nA ⊢;clear hD;have B8:=Zz (works_any w5 ⟨kg,tp,lg⟩ lO);have d0:=eF.o.c0;have d1:=eF.o.c1;have d2:=eF.o.c2;by_cases h1:kg=1
   ·subst h1
    have OS:=OP.o rfl;have GE:=Zz OS.1;have OT:=Zz OS.2;clear OS;have BV:decide ((1:Nat)=1)=true:=rfl
    dsimp only at B8
    rw[BV] at B8;go_wp2_with fail;refine B8.o.mono ?_;rintro e w6 ⟨rfl,ap⟩;have ns:=Zz (oe.o.no ap);have mf:Hid (∃U,MapA KI w6 m1 (vD U (prD S σ i)) (prD S σ i)/\Rows w6 P U (prD S σ i) fun j=>prW S.slots (ch j) (lC l j)):=Zz (by obtain ⟨U,h1,h2⟩:=oZ.o;exact ⟨U,h1.no ap,h2.no ap⟩);have bk:=Zz (aY.o.no ap);have aB:=Zz (ax.o.then ap fun _ _ h=>h.elim);have jZ:=Zz (eF.o.kp ap fun h=>h);have kR:=Zz (kO.o.kp aB.o fV.o);have Fk:=Zz (z_e B5.o aB.o Jb.o);clear ap d0 d1 d2 oe oZ aY ax eF;have p2:=kR.o.c10;have kL:Hid (w6.ownsRow w6.heap.size 152 2 (.slice none 0 0) (lC (l.take 0) i).length (wrC (lC (l.take 0) i))):=Zz (World.ownsRow_nil _ _ _ _);have GF:=Zz (Kp.refl NoB w6)
    go_upto_region 7 with fail
    clear p2;have OU:m<=100:=hl
    go_loopw [9,11,32] (fun s9 _ s32 wr=>∃j:Nat,j<=m/\s32=.int .i64 j/\Hid (wr.ownsRow w6.heap.size 152 2 s9 (lC (l.take j) i).length (wrC (lC (l.take j) i)))/\Hid (Kp NoB w6 wr)) (fun _ _ s32 _=>m-(intOf s32).toNat)
    case atStart=>exact ⟨0,by omega,rfl,kL,GF⟩
    case round =>
     clear kL GF;obtain ⟨j,hj,rfl,HO,HX⟩:=hrel;by_cases Zm:j<m
     ·have cF:j<l.length:=by rw[GC.o];exact Zm
      have Zn:(j:Int)<(m:Int):=by omega
      obtain ⟨A,c,he,_,_,_,ae⟩:=y_x (z_e Fk.o HX.o fun _ _ h=>h);cases he;obtain ⟨pb,off,rfl,fT⟩:=ae (by omega);obtain ⟨q0,q1,q2⟩:=Zk.o j cF;have k0:=(fT (j*3) (by omega)).trans q0;have k1:=(fT (j*3+1) (by omega)).trans q1;have k2:=(fT (j*3+2) (by omega)).trans q2;rw[<-Nat.add_assoc] at k1 k2;have Ju:=pg.o i j cF;have cY:=tI.o j i;clear q0 q1 q2 ae fT;obtain ⟨⟨di,sw,ce⟩,hx⟩:∃x,l[j]'cF=x:=⟨_,rfl⟩;rw[hx] at k0 k1 k2 Ju
      dsimp only at k0 k1 k2 Ju
      have oI:=Zz Ju;have sh:=Zz cY;clear hx Ju cY;have DI:=Zz (Blk.new wr 154 #[.int .i64 di,.int .i64 sw,.string ce]);have aE:=(Kp.refl NoB wr).alloc (.cells #[.int .i64 di,.int .i64 sw,.string ce] 154);have iY:=Zz (z_e HO.o aE fun _ _ h=>h);have bn:=Zz (HX.o.trans aE);clear aE HO HX
      go_upto_region 9 with fail
      clear k0 k1 k2;generalize wr.alloc (.cells #[.int .i64 di,.int .i64 sw,.string ce] 154)=w7 at *;generalize wr.heap.size=E at *;have e0:=DI.o.c0;have e1:=DI.o.c1;have e2:=DI.o.c2;by_cases wS:di=i
      ·obtain rfl:i=di:=wS.symm
       have GG:Hid (wrC (lC (l.take (j+1)) i)=wrC (lC (l.take j) i)++[.int .i64 sw,.string ce]/\(lC (l.take (j+1)) i).length=(lC (l.take j) i).length+1):=Zz (by
        rw[oI.o,if_pos rfl]
        exact ⟨wr_snoc _ _ _,by simp⟩)
       have b9:=Zz (wr_ones sw ce);have ie:=bn.o.size;have gC:=Zz iY.o;have gD:=Zz (fun z (hz:u9.ownBlock=some z)=>(z_u iY.o hz).1);have cY:=sh.o;generalize lC (l.take j) i=L0 at *
       have Zo:((i:Int)==(i:Int))=true:=by rw[beq_iff_eq]
       go_wp2_with (at_builtin;refine y_v w6.heap.size rfl (.tmp 40) (.tmp 43) 202 152 (.agg #[.int .i64 0,.string ⟨#[]⟩]) 2 24 rfl underlying202 infoSC rfl (by decide) (by decide) u9 L0.length (wrC L0) [.int .i64 sw,.string ce] rfl rfl rfl b9.o gC.o ie (by have:=sh.o;omega) ?_;intro v1 w9 dL eR df;have cT:=Zz dL;have eE:=Zz eR;clear dL eR df)
       rw[<-GG.o.1,<-GG.o.2] at cT;have aC:Kp (fun z=>some z=u9.ownBlock) w7 w9:=Kp.of_grown eE.o fun _ h=>h;have aT:=Zz (bn.o.then aC fun z hz h=>by have:=gD.o z h.symm;omega);go_roundw
       case rel=>exact ⟨j+1,by omega,by go_num,cT,aT⟩
       case measure=>simp[intOf];omega
      ·have hdb:((di:Int)==(i:Int))=false:=by rw[q_o];omega
       have Zp:¬((di:Int)=(i:Int)):=by omega
       have kA:Hid (w7.ownsRow w6.heap.size 152 2 u9 (lC (l.take (j+1)) i).length (wrC (lC (l.take (j+1)) i))):=Zz (by rw[oI.o,if_neg wS];exact iY.o);go_wp2;go_roundw
       case rel=>exact ⟨j+1,by omega,by go_num,kA,bn⟩
       case measure=>simp[intOf];omega
     ·obtain rfl:j=m:=by omega
      have eM:=HO;rw[mc.o] at eM;obtain ⟨A9,c9,Zq⟩:=z_r eM.o;subst Zq;have ib:0<(lC l i).length:=GE.o
      have OV:(lC l i).length<=100:=by have:=tI.o j i;rwa [mc.o] at this
      have OW:=Zz OV;have Zr:decide ((0:Int)<((lC l i).length:Int))=true:=decide_eq_true (by omega);have iM:=Zz (jZ.o.kp HX.o fun h=>h);have gE:=Zz (kR.o.kp HX.o fun h=>h);have rX:=Zz (ns.o.no HX.o);have nu:Hid (∃U,MapA KI wr m1 (vD U (prD S σ i)) (prD S σ i)/\Rows wr P U (prD S σ i) fun j=>prW S.slots (ch j) (lC l j)):=Zz (by obtain ⟨U,h1,h2⟩:=mf.o;exact ⟨U,h1.no HX.o,h2.no HX.o⟩);have dM:=Zz (bk.o.no HX.o);have bC:=Zz (aB.o.then HX.o fun _ _ h=>h.elim);clear HO HX ns mf bk aB jZ kR Fk;have p1:=gE.o.c9;have GH:=Zz (Tryz.slices_Contains_int_empty none 0 (i:Int) wr);generalize zw:lC l i=Li at *;have Oc:=Zz zw;clear zw;go_wp2_with fail;refine GH.o.mono ?_;rintro e w8 ⟨rfl,rfl⟩
      go_upto_region 18 with fail
      have bY:Kp NoB w8 w8.drew:=(Kp.refl NoB w8).drew;have zV:=Zz (iM.o.kp bY fun h=>h);have qs:=Zz (rX.o.no bY);have lz:Hid (∃U,MapA KI w8.drew m1 (vD U (prD S σ i)) (prD S σ i)/\Rows w8.drew P U (prD S σ i) fun j=>prW S.slots (ch j) (lC l j)):=Zz (by obtain ⟨U,h1,h2⟩:=nu.o;exact ⟨U,h1.no bY,h2.no bY⟩);have ef:=Zz (dM.o.no bY);have bq:=Zz (bC.o.then bY fun _ _ h=>h.elim);have ia:=Zz (z_e eM.o bY fun _ _ h=>h);clear bY iM rX nu dM bC eM gE;refine fs ?_;generalize w8.drew=bO at *;have mH:=Zz (aR.o.kp bq.o kn.o);have jR:=Zz (jH.o.kp bq.o eu.o);have lI:=Zz (iB.o.kp bq.o Gz.o);have tN:=Zz (bj.o.kp bq.o nr.o);have tS:Hid (10<=bO.heap.size):=Zz (by have:=fM.o;have h1:=bq.o.size;have h2:=mH.o.lt;have h3:=GD.o;have h4:=dK.o.size;omega);have c0:=mH.o.c0;have c1:=mH.o.c1;have c2:=mH.o.c2;have k3:=jR.o.c3;have d1:=zV.o.c1;refine fp 0 ?_;refine fp 1 ?_;refine fp 2 ?_;refine fq 3 (fun W=>W.cell? ⟨st,0,none⟩=some (.pointer (some ⟨b,0,none⟩))/\W.cell? ⟨st,1,none⟩=some (.pointer (some ⟨an,0,none⟩))/\W.cell? ⟨st,2,none⟩=some (.string (bs key))) ⟨c0,c1,c2⟩ ?_;refine fp 4 ?_;refine fp 5 ?_;refine fp 6 ?_;refine fp 7 ?_;refine fp 8 ?_;refine f_c 9 k3 ?_;refine fp 11 ?_;refine f_c 12 d1 ?_;refine fp 13 ?_;refine fd 10 fun K Qx hK=>?_;go_simp;refine (w_j bO b an i S.slots key).mono ?_;rintro e fa ⟨rfl,bX⟩;have cW:=Zz bX;refine hK _ _ (oK ((zV.o.kp (S:=NoB) cW.o fun h=>h).cell 1) (oW (oW oN))) ?_;clear hK K bX c0 c1 c2 k3 d1;have nz:=Zz (prep1_any (tN.o.no cW.o) (lI.o.no cW.o) (by have:=tS.o;have:=cW.o.size;omega) (show i<n by rw[<-dD.o];exact af) fx.o OO.o (ch i) tp (.slice A9 Li.length c9) Li (y_x (z_e ia.o cW.o fun _ _ h=>h)) GE.o OW.o OT.o (fun hd=>OQ.o (by trivial) hd));refine fd 14 fun K Qx hK=>?_;go_simp;refine nz.o.mono ?_;rintro e fN ⟨u12,tx,er,rfl,bN,em⟩;have bp:=Zz (cW.o.trans bN);have lP:=Zz em;refine hK _ _ (oW (oW (oW oN))) ?_;clear hK K bN em;refine fp 15 ?_;refine fp 16 ?_;refine fp 17 ?_;refine fp 18 ?_;refine fp 19 ?_;refine fp 20 ?_;refine fp 21 ?_;refine fe ?_;have gG:=Zz (bq.o.then bp.o fun _ _ h=>h.elim);have lN:=Zz (qs.o.no bp.o);have rq:Hid (∃U,MapA KI fN m1 (vD U (prD S σ i)) (prD S σ i)/\Rows fN P U (prD S σ i) fun j=>prW S.slots (ch j) (lC l j)):=Zz (by obtain ⟨U,h1,h2⟩:=lz.o;exact ⟨U,h1.no bp.o,h2.no bp.o⟩);have rr:=Zz (ef.o.no bp.o);have gK:=Zz (jH.o.kp gG.o eu.o)
      have sA:Hid (i∉prD S σ i):=Zz fun hh=>by have:=(mt.o i i).1 hh;omega
      have Zs:Hid (P<=fa.heap.size):=Zz (by have h1:=bq.o.size;have h2:=cW.o.size;have h3:=kO.o.lt;omega);clear bq qs lz ef mH jR lI tN tS zV ia cW bp;rcases lP.o with ⟨cV,rfl⟩|⟨cV,rfl,Tk,hu⟩
      ·have OX:Hid (m2≠g/\True):=Zz ⟨fun h=>by
        obtain ⟨dq,am⟩:=z_i lN.o.mems (q:=g) rfl
        exact rr.o.ne_blk am h,trivial⟩
       have wU:Hid (failS (prS S σ i) i=prS S σ (i+1)):=Zz (OR.o (by trivial) cV);have mX:Hid (prD S σ (i+1)=prD S σ i):=Zz (z8.o fun h=>by rw[cV] at h;exact Bool.noConfusion h.2);obtain ⟨U,ut,pB⟩:=rq.o;have Ad:=Zz pB;have I5:=wJ.o;have HF:=Zz (fails_any (S:=prS S σ i) gK.o lN.o ut i (by rw[ff.o];exact af) (by omega) (by rw[I5];exact (by decide:(1:Nat)<=2)));clear ut pB cV I5
       have b1:((20:Int)==0)=false:=by decide
       have b2:((20:Int)==21)=false:=by decide
       go_wp2_with fail;refine HF.o.mono ?_;rintro e kQ ⟨rfl,dJ,cP,lB,g',Ae,Jv⟩
       obtain rfl:g=g':=by injection Ae
       rw[wU.o] at cP;rw[vD_del _ _ _ sA.o,erase_not sA.o,<-mX.o] at lB;have oR:=Zz cP
       have uu:Hid (∃U,MapA KI kQ m1 (vD U (prD S σ (i+1))) (prD S σ (i+1))/\Rows kQ P U (prD S σ (i+1)) fun j=>prW S.slots (ch j) (lC l j)):=Zz ⟨U,lB,by
        rw[mX.o];refine Ad.o.kp Jv fun q hq cs hB=>?_;rcases hq with rfl|rfl
        ·obtain ⟨dq,am⟩:=z_i lN.o.mems (q:=q) rfl
         exact Blk.ne_ hB am (by decide) rfl
        ·obtain ⟨U2,OY,_⟩:=rq.o
         exact OY.ne_blk hB rfl⟩
       have rt:Hid (MapA KI kQ m2 (txM (atD (fun j=>z_L S.slots (chW (ch j) (lC l j))) (prD S σ (i+1)))) (prD S σ (i+1))):=Zz (by
        rw[mX.o];refine rr.o.kp Jv fun hq=>?_;rcases hq with rfl|rfl
        ·exact OX.o.1 rfl
        ·exact tO.o rfl)
       have jY:=Zz (gG.o.trans (Jv.mono fun q _ hq=>hq.elim (fun h=>.inl h) (fun h=>.inr (.inl h))));clear dJ cP lB Jv lN rq rr gK gG;go_wp2;go_roundw
       case rel=>exact ⟨i+1,by omega,by go_num,oR,uu,rt,jY⟩
       case measure=>simp[intOf];omega
      ·have wU:Hid (prS S σ (i+1)=prS S σ i):=Zz (ur.o fun h=>by rw[cV] at h;exact Bool.noConfusion h.2)
       have mX:Hid (prD S σ (i+1)=prD S σ i++[i]):=Zz (oQ.o (by trivial) cV);have LL:=Zz Tk;have bY:Kp NoB fN fN.drew:=(Kp.refl NoB fN).drew;have oR:Hid (SupO fN.drew base (prS S σ (i+1)) vs (.slice (some ⟨g,0,none⟩) S.mem.length cg)):=Zz (by rw[wU.o];exact lN.o.no bY);have uu:Hid (∃U,MapA KI fN.drew m1 (vD U (prD S σ i)) (prD S σ i)/\Rows fN.drew P U (prD S σ i) fun j=>prW S.slots (ch j) (lC l j)):=Zz (by obtain ⟨U,h1,h2⟩:=rq.o;exact ⟨U,h1.no bY,h2.no bY⟩);have rt:=Zz (rr.o.no bY);have Af:=Zz (gK.o.kp bY fun h=>h);have jY:=Zz (gG.o.then bY fun _ _ h=>h.elim);have Ah:=Zz (z_e hu bY fun _ _ h=>h);clear bY hu Tk lN rq rr gK gG cV
       go_upto_region 22 with fail
       refine fs ?_;generalize fN.drew=nN at *;obtain ⟨U,ut,pB⟩:=uu.o;have Ad:=Zz pB;have iR:=oV.o i;obtain ⟨cA,x1,x2,nf,kV,cZ,OZ,_,aX⟩:=ut.entry kd3 mapWS (zeroWS _) (by simp only[maxLen];omega) (a:=i) (show i<=100000 by omega) (by unfold vD;rw[if_neg sA.o]) u12;replace nf:(Instr.mapEntry 161 (.map (some m1)) (.int .i64 i)).run prog nN=.ok (.tuple #[.slice none 0 0,.int .i64 cA]) x1:=nf;rw[vD_put _ _ _ _ sA.o,B7.o,<-mX.o] at cZ;obtain ⟨cB,x3,x4,O0,Zt,ez,O1,_,ag⟩:=(rt.o.kp aX fun e=>tO.o (Eq.symm e)).entry kd3 y_7 (zero9 _) (by simp only[maxLen];omega) (a:=i) (show i<=100000 by omega) (by unfold txM atD;rw[if_neg sA.o];rfl) (.string tx);replace O0:(Instr.mapEntry 86 (.map (some m2)) (.int .i64 i)).run prog x2=.ok (.tuple #[.string ⟨#[]⟩,.int .i64 cB]) x3:=O0;have eat:y_Q (txM (atD (fun j=>z_L S.slots (chW (ch j) (lC l j))) (prD S σ i))) i (.string (z_L S.slots (chW (ch i) (lC l i))))=txM (atD (fun j=>z_L S.slots (chW (ch j) (lC l j))) (z_J (prD S σ i) i)):=atD_put _ _ _;rw[LL.o,<-Oc.o,eat,B7.o,<-mX.o] at ez;have k9:=Af.o.c9;have GI:=Af.o.c10;have dj:=Zz (cZ.kp ag fun e=>tO.o e);have dV:=Zz ez;have bn:=Zz aX;have GJ:=Zz ag;have gB:=Zz ut;clear cZ ez aX ag OZ O1 eat ut pB;refine fp 0 ?_;refine fp 1 ?_;refine fp 2 ?_;refine f_c 3 k9 ?_;refine fp 4 ?_;refine fp 5 ?_;refine fp 6 ?_;refine fp 7 ?_;refine f_c 8 GI ?_;refine fp 9 ?_;refine fp 10 ?_;refine fp 11 ?_;refine fd 12 fun K Qx hK=>?_;go_simp;refine hK _ _ (oW (oW oN)) ?_;clear hK K nf;refine fp 13 ?_;refine fd 14 fun K Qx hK=>?_;go_simp;refine hK _ _ (oW (oW oN)) ?_;clear hK K kV;refine fd 15 fun K Qx hK=>?_;go_simp;refine hK _ _ (oW (oW oN)) ?_;clear hK K O0;refine fp 16 ?_;refine fd 17 fun K Qx hK=>?_;go_simp;refine hK _ _ (oW (oW oN)) ?_;clear hK K Zt;refine fe ?_;have pC:Hid (Kp (fun q=>q=m1\/q=m2) nN x4):=Zz ((bn.o.mono fun q _ h=>Or.inl h).trans (GJ.o.mono fun q _ h=>Or.inr h))
       have qG:Hid (∀q,(q=m1\/q=m2)->∀t cs,¬Blk nN q t cs):=Zz fun q hq t cs hB=>by
        rcases hq with rfl|rfl
        ·exact gB.o.ne_blk hB rfl
        ·exact rt.o.ne_blk hB rfl
       have O2:Hid (SupO x4 base (prS S σ (i+1)) vs (.slice (some ⟨g,0,none⟩) S.mem.length cg)):=Zz (oR.o.kp pC.o (fun q hq h=>by
        obtain ⟨iz,ay⟩:=z_i oR.o.seats hq
        exact qG.o q h _ _ ay) (fun q hq h=>by
        obtain ⟨iz,ay⟩:=z_i oR.o.mems hq
        exact qG.o q h _ _ ay))
       have O3:Hid (∃U,MapA KI x4 m1 (vD U (prD S σ (i+1))) (prD S σ (i+1))/\Rows x4 P U (prD S σ (i+1)) fun j=>prW S.slots (ch j) (lC l j)):=Zz ⟨_,dj.o,by
        rw[mX.o];refine Rows.add (Ad.o.kp pC.o fun q hq cs=>qG.o q hq _ cs) i u12 sA.o ?_;rw[Oc.o]
        exact w_s (z_e Ah.o pC.o fun q hq h=>by
         obtain ⟨iz,ay⟩:=z_i Ah.o hq
         exact qG.o q h _ _ ay) Zs.o⟩
       have O4:=Zz (jY.o.trans (pC.o.mono fun q _ h=>Or.inr h));clear pC qG oR uu rt Af jY Ah Ad dj bn GJ gB k9 GI;go_wp2;go_roundw
       case rel=>exact ⟨i+1,by omega,by go_num,O2,O3,dV,O4⟩
       case measure=>simp[intOf];omega
   ·have BV:decide (kg=1)=false:=q_v h1
    dsimp only at B8
    rw[BV] at B8;go_wp2_with fail;refine B8.o.mono ?_;rintro e w6 ⟨rfl,ap⟩;have ns:Hid (SupO w6 base (prS S σ (i+1)) vs (.slice (some ⟨g,0,none⟩) S.mem.length cg)):=Zz (by rw[ur.o fun h=>h1 h.1];exact oe.o.no ap);have mf:Hid (∃U,MapA KI w6 m1 (vD U (prD S σ (i+1))) (prD S σ (i+1))/\Rows w6 P U (prD S σ (i+1)) fun j=>prW S.slots (ch j) (lC l j)):=Zz (by rw[z8.o fun h=>h1 h.1];obtain ⟨U,h1,h2⟩:=oZ.o;exact ⟨U,h1.no ap,h2.no ap⟩);have bk:Hid (MapA KI w6 m2 (txM (atD (fun j=>z_L S.slots (chW (ch j) (lC l j))) (prD S σ (i+1)))) (prD S σ (i+1))):=Zz (by rw[z8.o fun h=>h1 h.1];exact aY.o.no ap);have aB:=Zz (ax.o.then ap fun _ _ h=>h.elim);clear ap d0 d1 d2;go_wp2;go_roundw
    case rel=>exact ⟨i+1,by omega,by go_num,ns,mf,bk,aB⟩
    case measure=>simp[intOf];omega
  ·obtain rfl:i=S.mem.length:=by omega
   have bm:Hid (Blk wr wk 163 (wkC (prS S σ S.mem.length) vs (.slice (some ⟨g,0,none⟩) S.mem.length cg) m1 m2)):=Zz (jH.o.kp HK.o eu.o);have Aj:Hid (SupOk (prS S σ S.mem.length)):=Zz (prS_ok ir.o σ _);have kF:=Zz (stands_any bm.o HR.o Aj.o);go_wp2_with fail;refine kF.o.mono ?_;rintro e w2 ⟨rfl,rfl⟩;have Ak:(prS S σ S.mem.length).data=S.data:=rfl;rw[Ak]
   have de:Hid (Blk w2 wk 163 (wkC (prS S σ n) vs (.slice (some ⟨g,0,none⟩) S.mem.length cg) m1 m2)/\SupO w2 base (prS S σ n) vs (.slice (some ⟨g,0,none⟩) S.mem.length cg) /\
   (∃U,MapA KI w2 m1 (vD U (prD S σ n)) (prD S σ n)/\Rows w2 P U (prD S σ n) fun j=>prW S.slots (ch j) (lC l j))/\MapA KI w2 m2 (txM (atD (fun j=>z_L S.slots (chW (ch j) (lC l j))) (prD S σ n))) (prD S σ n)/\∃q,(Value.slice (some ⟨g,0,none⟩) S.mem.length cg).ownBlock=some q/\Kp (S3 q m1 m2) w w2):=Zz (by
    rw[<-dD.o]
    exact ⟨bm.o,HR.o,HA.o,HB.o,g,rfl,(dK.o.mono fun _ _ h=>h.elim).trans HK.o⟩)
   by_cases pD:y_l (prS S σ S.mem.length) (S.data+2)<=2
   ·rw[decide_eq_true pD]
    have Fi:=Zz pD;clear pD kF bm HR HA HB HK;go_wp2;go_ret;exact ⟨by rw[<-Th.o,<-dD.o,if_pos Fi.o];rfl,by rw[GD.o];exact de.o⟩
   ·rw[q_v pD]
    have Fi:=Zz pD;clear pD kF bm HR HA HB HK;go_wp2;go_ret;exact ⟨by rw[<-Th.o,<-dD.o,if_neg Fi.o];rfl,by rw[GD.o];exact de.o⟩
end
def lgMem (m:Mem):Option (ByteArray × ByteArray)->Mem
 | some (t,d)=>{ m with top:=t,log:=d }
 | none=>{ m with log:=z_C }
def lgM (L:List Mem) (G:Nat->Option (ByteArray × ByteArray)) (k:Nat):List Mem:=L.mapIdx fun j m=>if j<k then lgMem m (G j) else m
def lgS (S:Sup) (G:Nat->Option (ByteArray × ByteArray)) (k:Nat):Sup:={ S with mem:=lgM S.mem G k }
def lgG (dom:List Nat) (tf:Nat->ByteArray) (X:Nat->List Wr):Nat->Option (ByteArray × ByteArray):=fun j=>if j∈dom then some (tf j,y_O (z_o (X j))) else none
def lgD (σ:Nat->DkS) (dom:List Nat) (T:Nat->List Wr) (k:Nat):Nat->DkS:=fun j=>if j<k/\j∈dom then ((σ j).wrs (T j)).flush else σ j
section
variable (L:List Mem) (G:Nat->Option (ByteArray × ByteArray))
theorem v_k (k:Nat):(lgM L G k).length=L.length:=by simp[lgM]
theorem lgM_zero:lgM L G 0=L:=by
 unfold lgM;apply q_G;intro i;simp
theorem lgM_at (k:Nat) (h:k<L.length):(lgM L G k)[k]'(by rw[v_k];exact h)=L[k]'h:=by
 simp[lgM]
theorem lgM_set (k:Nat) (h:k<L.length):(lgM L G k).set k (lgMem (L[k]'h) (G k))=lgM L G (k+1):=by
 unfold lgM;apply q_G;intro i;rw[q_C,List.getElem?_mapIdx,List.getElem?_mapIdx];by_cases e:k=i
 ·subst e
  simp[h]
 ·have e2:i<k+1↔i<k:=by omega
  simp only[e2];simp[e]
theorem lgM_none (k:Nat) (h:k<L.length) (hg:G k=none):z_x (lgM L G (k+1))=(z_x (lgM L G k)).set (k*3+2) (.string z_C):=by
 rw[v_H (lgM L G k) k (by rw[v_k];exact h) z_C,lgM_at L G k h,<-lgM_set L G k h,hg];rfl
theorem lgM_some (k:Nat) (h:k<L.length) (t d:ByteArray) (hg:G k=some (t,d)):z_x (lgM L G (k+1))=(((z_x (lgM L G k)).set (k*3+2) (.string z_C)).set (k*3+1) (.string t)).set (k*3+2) (.string d):=by
 have h1:k<(lgM L G k).length:=by rw[v_k];exact h
 rw[v_H (lgM L G k) k h1 z_C];rw[memC_top _ k (by rw[q_k];exact h1) t];rw[v_H _ k (by rw[q_k,q_k];exact h1) d];simp only[List.getElem_set_self,List.set_set];rw[lgM_at L G k h,<-lgM_set L G k h,hg];rfl
end
theorem w_R (S:Sup) (G:Nat->Option (ByteArray × ByteArray)) (k:Nat):(lgS S G k).mem.length=S.mem.length:=v_k _ _ _
theorem lgS_zero (S:Sup) (G:Nat->Option (ByteArray × ByteArray)):lgS S G 0=S:=by unfold lgS;rw[lgM_zero]
theorem lgMem_st (m:Mem) (o:Option (ByteArray × ByteArray)):(lgMem m o).st=m.st:=by
 cases o with
 | none=>rfl
 | some p=>rfl
theorem lgS_stA (S:Sup) (G:Nat->Option (ByteArray × ByteArray)) (k j:Nat):stA (lgS S G k) j=stA S j:=by
 unfold stA lgS lgM
 dsimp only
 rw[List.getElem?_mapIdx]
 cases S.mem[j]? with
 | none=>rfl
 | some m =>
  simp only[Option.map_some];split
  ·rw[lgMem_st]
  ·rfl
theorem goneN_congr {S S':Sup} (h:∀j,stA S j=stA S' j) (k:Nat):y_l S k=y_l S' k:=by
 induction k with
 | zero=>rfl
 | succ k ih=>unfold y_l;rw[ih,h k]
theorem lgS_ok {S:Sup} (hS:SupOk S) (G:Nat->Option (ByteArray × ByteArray)) (hG:∀j t d,G j=some (t,d)->t.size=32/\d.size=32) (k:Nat):SupOk (lgS S G k) where
 d2:=hS.d2
 d8:=hS.d8
 sl:=hS.sl
 n1:=by rw[w_R];exact hS.n1
 n12:=by rw[w_R];exact hS.n12
 mem i h:=by
  have hi:i<S.mem.length:=by rwa [w_R] at h
  obtain ⟨h1,h2,h3,h4⟩:=hS.mem i hi;have e2:(lgS S G k).mem[i]'h=(lgM S.mem G k)[i]'h:=rfl
  have e:(lgS S G k).mem[i]'h=if i<k then lgMem (S.mem[i]'hi) (G i) else S.mem[i]'hi:=by
   rw[e2];simp only[lgM,List.getElem_mapIdx]
  rw[e];have hd:(lgS S G k).data=S.data:=rfl;rw[hd];by_cases hc:i<k
  ·rw[if_pos hc,lgMem_st]
   cases hg:G i with
   | none=>exact ⟨h1,v_h,h3,h4⟩
   | some p =>
    obtain ⟨t,d⟩:=p;obtain ⟨z1,z2⟩:=hG i t d hg;exact ⟨z1,z2,h3,h4⟩
  ·rw[if_neg hc]
   exact ⟨h1,h2,h3,h4⟩
 c:=hS.c
 e:=hS.e
theorem lgD_zero (σ:Nat->DkS) (dom:List Nat) (T:Nat->List Wr):lgD σ dom T 0=σ:=by funext j;simp[lgD]
theorem lgD_at (σ:Nat->DkS) (dom:List Nat) (T:Nat->List Wr) (k:Nat):lgD σ dom T k k=σ k:=by simp[lgD]
theorem lgD_in (σ:Nat->DkS) (dom:List Nat) (T:Nat->List Wr) (k:Nat) (h:k∈dom):z_A (lgD σ dom T k) k (((σ k).wrs (T k)).flush)=lgD σ dom T (k+1):=by
 funext j;unfold z_A lgD;by_cases e:j=k
 ·subst e;simp[h]
 ·have e2:j<k+1↔j<k:=by omega
  simp[e,e2]
theorem lgD_out (σ:Nat->DkS) (dom:List Nat) (T:Nat->List Wr) (k:Nat) (h:k∉dom):lgD σ dom T (k+1)=lgD σ dom T k:=by
 funext j;unfold lgD;by_cases e:j=k
 ·subst e;simp[h]
 ·have e2:j<k+1↔j<k:=by omega
  simp only[e2]
theorem logC_size (l:List Wr) (h:∀x∈l,x.ok) (k:Nat) (hk:k<(z_o l).length):(tl (z_o l) k).size<=2048:=by
 cases k with
 | zero=>rw[logC_first,z_b,z_m];decide
 | succ k =>
  have ag:k<l.length:=by rw[y_5] at hk;omega
  have e:tl (z_o l) (k+1)=bs (z_k (l[k]'ag).at'++z_v (l[k]'ag).cell.data.toList):=by
   simp[tl,z_o,ag]
  rw[e,z_b];have:=(h _ (q_B ag)).2.2;unfold z_v;simp only[q_b,z_m,z_n];omega
end Go.Proofs.YtdkheklakfbeeaaGreatDoor
