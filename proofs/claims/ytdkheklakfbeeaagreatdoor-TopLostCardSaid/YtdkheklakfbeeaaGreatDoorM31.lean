/- Part 31 of the proof. -/
import Derived.Test.YtdkheklakfbeeaaGreatDoorM30
set_option linter.all false
set_option maxRecDepth 100000
set_option maxHeartbeats 16000000
namespace Go.Proofs.YtdkheklakfbeeaaGreatDoor
open Go.RowKit Go.Proofs.Tryz
structure Cgd where
 disk:Nat
 slot:Nat
 cell:ByteArray
def cgC (l:List Cgd):List Value:=l.flatMap fun x=>[.int .i64 x.disk,.int .i64 x.slot,.string x.cell]
theorem cgC_append (l m:List Cgd):cgC (l++m)=cgC l++cgC m:=by simp[cgC]
theorem cgC_at (l:List Cgd):∀(i:Nat) (h:i<l.length),(cgC l)[i*3]?=some (.int .i64 ((l[i]'h).disk:Int))/\(cgC l)[i*3+1]?=some (.int .i64 ((l[i]'h).slot:Int))/\(cgC l)[i*3+2]?=some (.string (l[i]'h).cell):=by
 induction l with
 | nil=>intro i h;cases h
 | cons x l ih =>
  intro i h
  cases i with
  | zero=>exact ⟨rfl,rfl,rfl⟩
  | succ i =>
   have hi:i<l.length:=by simpa using h
   have e:cgC (x::l)=.int .i64 x.disk::.int .i64 x.slot::.string x.cell::cgC l:=rfl;obtain ⟨h1,h2,h3⟩:=ih i hi;rw[e,show (i+1)*3=i*3+3 by omega,show i*3+3+1=(i*3+1)+3 by omega,show i*3+3+2=(i*3+2)+3 by omega];exact ⟨h1,h2,h3⟩
def wkC (S:Sup) (vs vm:Value) (m1 m2:Nat):Array Value:=#[.int .u64 S.count,.int .u64 S.epoch,.int .i64 S.data,.int .i64 S.slots,.int .i64 0,.int .i64 0,.bool false,vs,vm,.map (some m1),.map (some m2)]
section
variable {w:World} {S:Sup} {vs:Value} {Am:Option Addr} {n cm m1 m2 T wk B9:Nat}
theorem made1_any (hT:Blk w T 155 #[.pointer (some ⟨wk,0,none⟩)]) (hk:Blk w wk 163 (wkC S vs (.slice Am n cm) m1 m2)) (d:Nat) (hd:d<n) :
  Cl 107 #[.int .i64 d,.pointer (some ⟨T,0,none⟩)] w fun e w'=>e=.returned (.bool true)/\w'=w:=by
 have t0:=hT.c0;have k8:=hk.c8
 have DA:(d:Int)<(n:Int):=by omega
 have pX:(0:Int)<=(d:Int):=by omega
 have rN:decide ((d:Int)<(n:Int))=true:=decide_eq_true DA;clear hT hk;go_enter func107,ntmps107;go_wp2;go_ret;exact ⟨rfl,rfl⟩
theorem made3_any (hT:Blk w T 155 #[.pointer (some ⟨wk,0,none⟩)]) (hk:Blk w wk 163 (wkC S vs (.slice Am n cm) m1 m2)) (hB:Blk w B9 137 #[.func (.func 107) #[] #[.pointer (some ⟨T,0,none⟩)]]) (x:Cgd) (hx:x.disk<n) :
  Cl 112 #[.agg #[.int .i64 x.disk,.int .i64 x.slot,.string x.cell],.pointer (some ⟨B9,0,none⟩)] w fun e w'=>e=.returned (.bool false)/\Kp NoB w w':=by
 obtain ⟨xd,xs,xc⟩:=x
 dsimp only at hx ⊢
 have HK:=Zz ((Kp.refl NoB w).alloc (.cells #[.int .i64 xd,.int .i64 xs,.string xc] 154));have HX:=Zz (Blk.new w 154 #[.int .i64 xd,.int .i64 xs,.string xc]);have HM:=Zz (made1_any (hT.kp HK.o fun h=>h) (hk.kp HK.o fun h=>h) xd hx);have HB:=Zz (hB.kp HK.o fun h=>h);clear hT hk hB;go_enter func112,ntmps112
 go_upto_region 1 with fail
 generalize w.alloc (.cells #[.int .i64 xd,.int .i64 xs,.string xc] 154)=w1 at *;generalize w.heap.size=D at *;have d0:=HX.o.c0;have b0:=HB.o.cell 0;replace b0:w1.cell? ⟨B9,0,none⟩=some (.func (.func 107) #[] #[.pointer (some ⟨T,0,none⟩)]):=b0;go_wp2_with fail;refine HM.o.mono ?_;rintro e w2 ⟨rfl,rfl⟩;go_wp2;go_ret;exact ⟨rfl,HK.o⟩
theorem idxChg_any (hT:Blk w T 155 #[.pointer (some ⟨wk,0,none⟩)]) (hk:Blk w wk 163 (wkC S vs (.slice Am n cm) m1 m2)) (hB:Blk w B9 137 #[.func (.func 107) #[] #[.pointer (some ⟨T,0,none⟩)]]) (v:Value) (l:List Cgd) (hv:z_Q w v 3 l.length (cgC l)) (hl:l.length<=1000) (hd:∀x∈l,x.disk<n) :
  Cl 168 #[v,.func (.func 112) #[] #[.pointer (some ⟨B9,0,none⟩)]] w fun e w'=>e=.returned (.int .i64 (-1))/\Kp NoB w w':=by
 have HV:=Zz (fun W (k:Kp NoB w W)=>hv.no k);have HX:=Zz (fun W (k:Kp NoB w W) x hx=>made3_any (hT.kp k fun h=>h) (hk.kp k fun h=>h) (hB.kp k fun h=>h) x hx);have HA:=Zz (cgC_at l);have HD:=Zz (fun i (h:i<l.length)=>hd (l[i]'h) (q_B h));obtain ⟨Av,cv,rfl,aK,bf,_,_⟩:=hv;obtain ⟨m,hm⟩:∃m,l.length=m:=⟨_,rfl⟩;rw[hm] at HV hl ⊢;have ej:=Zz hm;have HK:=Zz (Kp.refl NoB w);clear hT hk hB hd hm aK bf;go_enter func168,ntmps168
 go_upto_region 2 with fail
 go_loopw [5,8] (fun _ s8 wr=>∃i:Nat,i<=m/\s8=.int .i64 i/\Hid (Kp NoB w wr)) (fun _ s8 _=>m-(intOf s8).toNat)
 case atStart=>exact ⟨0,by omega,rfl,HK⟩
 case round =>
  clear HK;obtain ⟨i,hi,rfl,HK⟩:=hrel;by_cases af:i<m
  ·have bt:i<l.length:=by rw[ej.o];exact af
   have bV:(i:Int)<(m:Int):=by omega
   obtain ⟨A,c,he,_,_,_,ae⟩:=HV.o wr HK.o;cases he;obtain ⟨pb,off,rfl,fT⟩:=ae (by omega);obtain ⟨q0,q1,q2⟩:=HA.o i bt;have k0:=(fT (i*3) (by omega)).trans q0;have k1:=(fT (i*3+1) (by omega)).trans q1;have k2:=(fT (i*3+2) (by omega)).trans q2;rw[<-Nat.add_assoc] at k1 k2;have hx:=HX.o wr HK.o (l[i]'bt) (HD.o i bt);generalize (l[i]'bt).disk=xd at *;generalize (l[i]'bt).slot=xs at *;generalize (l[i]'bt).cell=xc at *;have FQ:=Zz hx;clear hx ae fT q0 q1 q2;go_wp2_with fail;refine FQ.o.mono ?_;rintro e w2 ⟨rfl,ag⟩;have al:=Zz (HK.o.trans ag);clear ag k0 k1 k2;go_wp2;go_roundw
   case rel=>exact ⟨i+1,by omega,by go_num,al⟩
   case measure=>simp[intOf];omega
  ·obtain rfl:i=m:=by omega
   go_wp2;go_ret;exact ⟨rfl,HK.o⟩
theorem hasChg_any (hT:Blk w T 155 #[.pointer (some ⟨wk,0,none⟩)]) (hk:Blk w wk 163 (wkC S vs (.slice Am n cm) m1 m2)) (hB:Blk w B9 137 #[.func (.func 107) #[] #[.pointer (some ⟨T,0,none⟩)]]) (v:Value) (l:List Cgd) (hv:z_Q w v 3 l.length (cgC l)) (hl:l.length<=1000) (hd:∀x∈l,x.disk<n) :
  Cl 111 #[v,.func (.func 112) #[] #[.pointer (some ⟨B9,0,none⟩)]] w fun e w'=>e=.returned (.bool false)/\Kp NoB w w':=by
 have HI:=Zz (idxChg_any hT hk hB v l hv hl hd);clear hT hk hB hv hd;go_enter func111,ntmps111;go_wp2_with fail;refine HI.o.mono ?_;rintro e w2 ⟨rfl,ag⟩;go_wp2
 all_goals (go_ret;exact ⟨rfl,ag⟩)
theorem idxNo_any (w:World) (f:Value):Cl 167 #[.slice none 0 0,f] w fun e w'=>e=.returned (.int .i64 (-1))/\w'=w:=by
 go_enter func167,ntmps167;go_wp2
 go_loopw [5,8] (fun _ s8 wr=>s8=.int .i64 0/\wr=w) (fun _ _ _=>0)
 case atStart=>exact ⟨rfl,rfl⟩
 case round =>
  obtain ⟨rfl,rfl⟩:=hrel;go_wp2;go_ret;exact ⟨rfl,rfl⟩
theorem hasNo_any (w:World) (f:Value):Cl 109 #[.slice none 0 0,f] w fun e w'=>e=.returned (.bool false)/\w'=w:=by
 have HI:=Zz (idxNo_any w f);go_enter func109,ntmps109;go_wp2_with fail;refine HI.o.mono ?_;rintro e w2 ⟨rfl,rfl⟩;go_wp2
 all_goals (go_ret;exact ⟨rfl,rfl⟩)
end
def plC (S:Sup) (vs vm cv:Value):Array Value:=#[.int .u64 S.count,.int .u64 S.epoch,.int .i64 S.data,.int .i64 S.slots,.int .i64 0,.int .i64 0,.bool false,vs,vm,.slice none 0 0,cv]
def z_y (S:Sup):Sup:={ S with count:=S.count+1 }
theorem memC_top_same (L:List Mem) (i:Nat) (h:i<L.length):(z_x L).set (i*3+1) (.string (L[i]'h).top)=z_x L:=by
 rw[memC_top L i h];have:({ L[i]'h with top:=(L[i]'h).top }:Mem)=L[i]'h:=rfl;rw[this,List.set_getElem_self]
theorem memC_log_same (L:List Mem) (i:Nat) (h:i<L.length):(z_x L).set (i*3+2) (.string (L[i]'h).log)=z_x L:=by
 rw[v_H L i h];have:({ L[i]'h with log:=(L[i]'h).log }:Mem)=L[i]'h:=rfl;rw[this,List.set_getElem_self]
theorem mapWS:prog.underlying 161=some (.map 3 182):=underlying161
section
variable {w:World} {st b n an sp:Nat} {key:List UInt8} {S:Sup} {vs vm nD nE cv:Value}
theorem made_any (h:Blk w st 116 (stC b an key S vs vm sp)) (hR:y_P w S vs vm) (hP:y_P w S nD nE) (hS:SupOk S) (hc:S.count<1000) (l:List Cgd) (hv:z_Q w cv 3 l.length (cgC l)) (hl:l.length<=1000) (hd:∀x∈l,x.disk<S.mem.length) :
  Cl 68 #[.pointer (some ⟨st,0,none⟩),.agg (plC S nD nE cv)] w fun e w'=>∃wk m1 m2 bU ct,e=.returned (.tuple #[.pointer (some ⟨wk,0,none⟩),.int .i64 0])/\w.heap.size<=wk/\w.heap.size<=m1/\w.heap.size<=m2/\m1≠m2/\Blk w' wk 163 (wkC (z_y S) bU ct m1 m2)/\SupO w' w.heap.size (z_y S) bU ct/\MapA KI w' m1 (fun _=>none) []/\MapA KI w' m2 (fun _=>none) []/\Kp NoB w w':=by
 have iJ:=hS.n1;have dy:=hS.n12;have zG:=hS.d8;have rR:=Zz (fun W (k:Kp NoB w W)=>scopy_any (by omega) (by omega) (by omega) (hP.no k));have nA:=Zz (fun W vs vm (h:y_P W S vs vm)=>sgood_any hS h);have Y4:=Zz (fun W T wk B9 vs Am cm m1 m2 hT hk hB (k:Kp NoB w W)=>hasChg_any (n:=S.mem.length) (w:=W) (T:=T) (wk:=wk) (B9:=B9) (S:=S) (vs:=vs) (Am:=Am) (cm:=cm) (m1:=m1) (m2:=m2) hT hk hB cv l (hv.no k) hl hd);have Y5:=Zz hasNo_any;have NO:=Zz (fun i hi=>(⟨memC_top_same S.mem i hi,memC_log_same S.mem i hi,x_p S.mem i hi⟩:_/\_/\_));obtain ⟨As,cs,Am,cm,cQ,cq⟩:=hR.shape;obtain ⟨rb,off,mE,_⟩:=hR.memAt (Kp.refl _ _) cq (by omega);subst mE;have gB:=Zz (fun w' (k:Kp NoB w w')=>hR.memAt k cq (by omega));subst cQ cq;obtain ⟨Asp,Jm,Amp,Jn,cQ,cq⟩:=hP.shape;subst cQ cq;obtain ⟨Ac,cc,eq,_⟩:=hv;subst eq;have fK:Hid (∀vs vm,z_N S vs vm=#[.int .u64 S.count,.int .u64 S.epoch,.int .i64 S.data,.int .i64 S.slots,.int .i64 0,.int .i64 0,.bool false,vs,vm]):=Zz fun _ _=>rfl
 have zr:0<S.mem.length:=by omega
 have nW:IntKind.u64.wrap ((S.count:Int)+1)=(S.count:Int)+1:=by rw[q_s];omega
 have tA:=Zz nW;have ml:=Zz (Blk.new w 97 #[.int .u64 S.count,.int .u64 S.epoch,.int .i64 S.data,.int .i64 S.slots,.int .i64 0,.int .i64 0,.bool false,.slice Asp (S.data+2) Jm,.slice Amp S.mem.length Jn,.slice none 0 0,.slice Ac l.length cc]);have nC:=Zz ((Kp.refl NoB w).alloc (.cells #[.int .u64 S.count,.int .u64 S.epoch,.int .i64 S.data,.int .i64 S.slots,.int .i64 0,.int .i64 0,.bool false,.slice Asp (S.data+2) Jm,.slice Amp S.mem.length Jn,.slice none 0 0,.slice Ac l.length cc] 97));have HS:=Zz (h.kp nC.o fun h=>h);have lB:=@run_makeMap prog;clear h hR hP hS hd hc nW;change Cl 68 #[.pointer (some ⟨st,0,none⟩),.agg #[.int .u64 S.count,.int .u64 S.epoch,.int .i64 S.data,.int .i64 S.slots,.int .i64 0,.int .i64 0,.bool false,.slice Asp (S.data+2) Jm,.slice Amp S.mem.length Jn,.slice none 0 0,.slice Ac l.length cc]] w _;go_enter func68,ntmps68
 go_upto_region 1 with fail
 generalize w.alloc (.cells #[.int .u64 S.count,.int .u64 S.epoch,.int .i64 S.data,.int .i64 S.slots,.int .i64 0,.int .i64 0,.bool false,.slice Asp (S.data+2) Jm,.slice Amp S.mem.length Jn,.slice none 0 0,.slice Ac l.length cc] 97)=w1 at *;obtain ⟨P,rf⟩:∃P,w.heap.size=P:=⟨_,rfl⟩;rw[rf] at ml ⊢;have kO:=Zz rf;clear rf;have p0:=ml.o.c0;have p1:=ml.o.c1;have p2:=ml.o.c2;have p3:=ml.o.c3;have p4:=ml.o.c4;have p5:=ml.o.c5;have p6:=ml.o.c6;have p7:=ml.o.c7;have p8:=ml.o.c8;have tX:=Zz (rR.o w1 nC.o);rw[fK.o] at tX;go_wp2_with fail;refine tX.o.mono ?_;rintro e w2 ⟨bU,ct,rfl,cP,ag⟩;have al:=Zz (nC.o.trans ag);have ee:=Zz (ml.o.kp ag fun h=>h);have fh:=Zz (HS.o.kp ag fun h=>h);have tY:=Zz (cP.more nC.o.size);clear ag cP ml nC HS tX rR p0 p1 p2 p3 p4 p5 p6 p7 p8;obtain ⟨As',cs',Am',lJ,cQ,cq⟩:=tY.o.reads.shape;obtain ⟨g,cg,mP,bu,bJ⟩:=y_u tY.o.mems zr;rw[mP] at cq;cases cq;subst cQ mP;have ou:Hid (w.heap.size<=g/\g<w2.heap.size):=Zz ⟨bu,bJ⟩;rw[fK.o];clear bu bJ
 go_upto_region 2 with fail
 have hz:∀(W:World) o,(W.alloc o).heap.size=W.heap.size+1:=fun W o=>by simp
 have dj:=Zz ((((MapA.made (M:=KI) w2).alloc (.map #[] 0)).alloc (.cells #[.int .u64 S.count,.int .u64 S.epoch,.int .i64 S.data,.int .i64 S.slots,.int .i64 0,.int .i64 0,.bool false,.slice As' (S.data+2) cs',.slice (some ⟨g,0,none⟩) S.mem.length lJ,.map (some w2.heap.size),.map (some (w2.heap.size+1))] 163)).alloc (.cells #[.pointer (some ⟨w2.heap.size+1+1,0,none⟩)] 155));have dV:=Zz (((MapA.made (M:=KI) (w2.alloc (.map #[] 0))).alloc (.cells #[.int .u64 S.count,.int .u64 S.epoch,.int .i64 S.data,.int .i64 S.slots,.int .i64 0,.int .i64 0,.bool false,.slice As' (S.data+2) cs',.slice (some ⟨g,0,none⟩) S.mem.length lJ,.map (some w2.heap.size),.map (some (w2.heap.size+1))] 163)).alloc (.cells #[.pointer (some ⟨w2.heap.size+1+1,0,none⟩)] 155));have jH:=Zz ((Blk.new ((w2.alloc (.map #[] 0)).alloc (.map #[] 0)) 163 #[.int .u64 S.count,.int .u64 S.epoch,.int .i64 S.data,.int .i64 S.slots,.int .i64 0,.int .i64 0,.bool false,.slice As' (S.data+2) cs',.slice (some ⟨g,0,none⟩) S.mem.length lJ,.map (some w2.heap.size),.map (some (w2.heap.size+1))]).alloc (.cells #[.pointer (some ⟨w2.heap.size+1+1,0,none⟩)] 155));have HT:=Zz (Blk.new (((w2.alloc (.map #[] 0)).alloc (.map #[] 0)).alloc (.cells #[.int .u64 S.count,.int .u64 S.epoch,.int .i64 S.data,.int .i64 S.slots,.int .i64 0,.int .i64 0,.bool false,.slice As' (S.data+2) cs',.slice (some ⟨g,0,none⟩) S.mem.length lJ,.map (some w2.heap.size),.map (some (w2.heap.size+1))] 163)) 155 #[.pointer (some ⟨w2.heap.size+1+1,0,none⟩)]);have aE:=((((Kp.refl NoB w2).alloc (.map #[] 0)).alloc (.map #[] 0)).alloc (.cells #[.int .u64 S.count,.int .u64 S.epoch,.int .i64 S.data,.int .i64 S.slots,.int .i64 0,.int .i64 0,.bool false,.slice As' (S.data+2) cs',.slice (some ⟨g,0,none⟩) S.mem.length lJ,.map (some w2.heap.size),.map (some (w2.heap.size+1))] 163)).alloc (.cells #[.pointer (some ⟨w2.heap.size+1+1,0,none⟩)] 155);rw[hz] at dV;rw[hz,hz] at jH;rw[hz,hz,hz] at HT;have aB:=Zz (al.o.trans aE);have kR:=Zz (ee.o.kp aE fun h=>h);have dH:=Zz (fh.o.kp aE fun h=>h);have jm:=Zz (tY.o.no aE);have FR:Hid (w.heap.size<=w2.heap.size):=Zz al.o.size;clear aE hz al ee fh tY;generalize (((w2.alloc (.map #[] 0)).alloc (.map #[] 0)).alloc (.cells #[.int .u64 S.count,.int .u64 S.epoch,.int .i64 S.data,.int .i64 S.slots,.int .i64 0,.int .i64 0,.bool false,.slice As' (S.data+2) cs',.slice (some ⟨g,0,none⟩) S.mem.length lJ,.map (some w2.heap.size),.map (some (w2.heap.size+1))] 163)).alloc (.cells #[.pointer (some ⟨w2.heap.size+1+1,0,none⟩)] 155)=w6 at *;generalize w2.heap.size=m1 at *;have k3:=jH.o.c3;have k8:=jH.o.c8;have t0:=HT.o.c0
 have c6:=dH.o.c6;have c11:=dH.o.c11
 go_quiet (fail)
 go_upto_region 4 with fail
 have bY:Kp NoB w6 (w6.drewN nq).drew:=((Kp.refl NoB w6).drewN nq).drew;have FS:=Zz (dj.o.no bY);have FT:=Zz (dV.o.no bY);have jo:=Zz (jH.o.kp bY fun h=>h);have sr:=Zz (HT.o.kp bY fun h=>h);have gE:=Zz (kR.o.kp bY fun h=>h);have io:=Zz (dH.o.kp bY fun h=>h);have fE:=Zz (jm.o.no bY);have bC:=Zz (aB.o.trans bY);clear bY dj dV jH HT kR dH jm aB k3 k8 t0 c6 c11;refine v_C (by kernel_rfl) ?_;change Fr _ _ _ _ _ _ _ (w6.drewN nq).drew;generalize (w6.drewN nq).drew=w7 at *;have k0:=jo.o.c0;have k1:=jo.o.c1;have t0:=sr.o.c0;have c3:=io.o.c3;have c4:=io.o.c4;have f0:=jo.o.frozen 0;have f1:=jo.o.frozen 1;have aL:=(Kp.refl (fun z=>z=m1+1+1) w7).setCell ⟨m1+1+1,0,none⟩ (.int .u64 S.count) (.inl rfl);have bL:=aL.setCell ⟨m1+1+1,1,none⟩ (.int .u64 S.epoch) (.inl rfl);have tZ:Hid (Blk (w7.setCell ⟨m1+1+1,0,none⟩ (.int .u64 S.count)) (m1+1+1) 163 #[.int .u64 S.count,.int .u64 S.epoch,.int .i64 S.data,.int .i64 S.slots,.int .i64 0,.int .i64 0,.bool false,.slice As' (S.data+2) cs',.slice (some ⟨g,0,none⟩) S.mem.length lJ,.map (some m1),.map (some (m1+1))]):=Zz (jo.o.set_ 0 (.int .u64 S.count));have ua:Hid (Blk ((w7.setCell ⟨m1+1+1,0,none⟩ (.int .u64 S.count)).setCell ⟨m1+1+1,1,none⟩ (.int .u64 S.epoch)) (m1+1+1) 163 #[.int .u64 S.count,.int .u64 S.epoch,.int .i64 S.data,.int .i64 S.slots,.int .i64 0,.int .i64 0,.bool false,.slice As' (S.data+2) cs',.slice (some ⟨g,0,none⟩) S.mem.length lJ,.map (some m1),.map (some (m1+1))]):=Zz (tZ.o.set_ 1 (.int .u64 S.epoch));have Jo:=Zz (sr.o.kp aL fun e=>(by have e:m1+1+1+1=m1+1+1:=e;omega:False));have lM:=Zz (FS.o.kp bL fun e=>(by have e:m1=m1+1+1:=e;omega:False));have jp:=Zz (FT.o.kp bL fun e=>(by have e:m1+1=m1+1+1:=e;omega:False));have pu:=Zz (sr.o.kp bL fun e=>(by have e:m1+1+1+1=m1+1+1:=e;omega:False));have lG:=Zz (gE.o.kp bL fun e=>Blk.ne_ gE.o jo.o (by decide) e);have ig:=Zz (io.o.kp bL fun e=>Blk.ne_ io.o jo.o (by decide) e);have uc:=Zz (fE.o.kp bL (z_W fE.o.seats jo.o (by decide)) (z_W fE.o.mems jo.o (by decide)));have aT:=Zz (bC.o.then bL fun z hz e=>(by have e:z=m1+1+1:=e;have:=FR.o;omega:False));clear aL bL FS FT jo sr gE io fE bC;refine f_c 0 t0 ?_;refine f_c 1 t0 ?_;refine fp 2 ?_;refine fp 3 ?_;refine fp 4 ?_;refine fp 5 ?_;refine f_c 6 c3 ?_;refine fp 7 ?_;refine fp 8 ?_;refine fp 9 ?_;refine fp 10 ?_;refine f_c 11 c4 ?_;refine fp 12 ?_;refine fp 13 ?_;refine fp 14 ?_;refine fd 15 fun K Qx hK=>?_;go_simp;refine hK _ _ (oW (oW (oK (Jo.o.cell 0) (oW oN)))) ?_;clear hK K t0 c3 c4 k0 f0;have k1:(w7.setCell ⟨m1+1+1,0,none⟩ (.int .u64 S.count)).cell? ⟨m1+1+1,1,none⟩=some (.int .u64 S.epoch):=tZ.o.cell 1;have f1:=tZ.o.frozen 1;refine fp 16 ?_;refine fp 17 ?_;refine fp 18 ?_;refine fd 19 fun K Qx hK=>?_;go_simp;refine hK _ _ (oW (oW (oW (oW oN)))) ?_;clear hK K k1 f1;refine fe ?_;clear tZ Jo;generalize (w7.setCell ⟨m1+1+1,0,none⟩ (.int .u64 S.count)).setCell ⟨m1+1+1,1,none⟩ (.int .u64 S.epoch)=w9 at *;have c11:=ig.o.c11
 have nx:Hid (w9.ownsRow w.heap.size 108 3 (.slice (some ⟨g,0,none⟩) S.mem.length lJ) S.mem.length (z_x S.mem)):=Zz uc.o.mems;have kJ:=Zz (Kp.refl (fun z=>z=g) w9);have sf:Hid (∃zA,Blk w9 g 108 zA):=Zz (z_i nx.o (q:=g) rfl)
 have ov:Hid (m1+1+1≠g/\m1+1+1+1≠g/\P≠g/\st≠g/\m1≠g/\m1+1≠g):=Zz (by
  obtain ⟨zA,dW⟩:=sf.o
  exact ⟨Blk.ne_ ua.o dW (by decide),Blk.ne_ pu.o dW (by decide),Blk.ne_ lG.o dW (by decide),Blk.ne_ ig.o dW (by decide),lM.o.ne_blk dW,jp.o.ne_blk dW⟩)
 have zL:=Zz dy
 go_upto_region 6 with fail
 clear c11
 go_loopw [7,8,67] (fun _ _ s67 wr=>∃i:Nat,i<=S.mem.length/\s67=.int .i64 i/\Hid (wr.ownsRow w.heap.size 108 3 (.slice (some ⟨g,0,none⟩) S.mem.length lJ) S.mem.length (z_x S.mem))/\Hid (Kp (fun z=>z=g) w9 wr)) (fun _ _ s67 _=>S.mem.length-(intOf s67).toNat)
 case atStart=>exact ⟨0,by omega,rfl,nx,kJ⟩
 case round =>
  clear nx kJ;obtain ⟨i,hi,rfl,HM,HR⟩:=hrel;by_cases af:i<S.mem.length
  ·have bV:(i:Int)<(S.mem.length:Int):=by omega
   obtain ⟨rY,gz,he,aa⟩:=gB.o wr (aT.o.then HR.o fun z hz e=>(by have e:z=g:=e;have:=ou.o.1;omega:False));cases he;obtain ⟨k0,k1,k2⟩:=aa i af;obtain ⟨Jp,Jq,Jr⟩:=NO.o i af;clear aa;obtain ⟨⟨kg,tp,lg⟩,hx⟩:∃x,S.mem[i]'af=x:=⟨_,rfl⟩;rw[hx] at k0 k1 k2 Jp Jq Jr
   dsimp only at k0 k1 k2 Jp Jq Jr
   have oX:=Zz Jp;have mp:=Zz Jq;have AS:=Zz Jr;clear hx Jp Jq Jr;have eF:=Zz (Blk.new wr 108 #[.int .i64 kg,.string tp,.string lg]);have aE:=(Kp.refl NoB wr).alloc (.cells #[.int .i64 kg,.string tp,.string lg] 108);have jz:=Zz (z_e HM.o aE fun _ _ h=>h);have mA:=Zz (HR.o.then aE fun _ _ h=>h.elim);have tr:=(z_u HM.o (q:=g) rfl).2;have nA:Hid (g≠wr.heap.size):=Zz (by omega);clear aE tr
   go_upto_region 8 with fail
   clear k0 k1 k2 HM HR;generalize wr.alloc (.cells #[.int .i64 kg,.string tp,.string lg] 108)=bO at *;obtain ⟨D,hD⟩:∃D,wr.heap.size=D:=⟨_,rfl⟩;rw[hD] at eF nA ⊢;clear hD;have zM:=Zz (pu.o.kp mA.o ov.o.2.1).drew;have rg:=Zz (ua.o.kp mA.o ov.o.1).drew;have kh:=Zz eF.o.drew;have eL:Hid (bO.drew.ownsRow w.heap.size 108 3 (.slice (some ⟨g,0,none⟩) S.mem.length lJ) S.mem.length (z_x S.mem)):=jz;have mT:=Zz mA.o.drew;clear eF jz mA;refine fs ?_;generalize bO.drew=fa at *;have t0:=zM.o.c0;have k8:=rg.o.c8;have d1:=kh.o.c1;have d2:=kh.o.c2
   have g1:fa.cell? ⟨g,i*3+1,none⟩=some (.string tp):=by rw[z_O eL.o _ (by omega)];exact AS.o.2.1
   have Oh:=y_o eL.o (i*3+1);have gJ:=x_i eL.o (i*3+1) (.string tp);rw[oX.o] at gJ;have iu:=Zz gJ;have zN:=x_i iu.o (i*3+2) (.string lg);rw[mp.o] at zN;have ud:=Zz zN;have bN:=(Kp.refl (fun z=>z=g) fa).setCell ⟨g,i*3+1,none⟩ (.string tp) (.inl rfl);have FU:=Zz (zM.o.kp bN ov.o.2.1);have wL:=Zz (rg.o.kp bN ov.o.1);have FV:=Zz (kh.o.kp bN fun e=>nA.o (Eq.symm e));have lN:=Zz ((mT.o.trans bN).setCell ⟨g,i*3+2,none⟩ (.string lg) (.inl rfl));clear gJ zN bN mT;refine f_c 0 t0 ?_;refine fp 1 ?_;refine fp 2 ?_;refine fp 3 ?_;refine f_c 4 k8 ?_;refine fp 5 ?_;refine f_c 6 t0 ?_;refine fp 7 ?_;refine fp 8 ?_;refine fp 9 ?_;refine f_c 10 k8 ?_;refine fp 11 ?_;refine fp 12 ?_;refine f_c 13 d1 ?_;refine fp 14 ?_;refine f_c 15 d2 ?_;refine fp 16 ?_;refine fp 17 ?_;refine fd 18 fun K Qx hK=>?_;go_simp;refine hK _ _ (oK (FV.o.cell 2) (oW (oK (wL.o.cell 8) (oK (FU.o.cell 0) (oW (oW oN)))))) ?_;clear hK K t0 k8 d1 d2 g1 Oh
   have g2:(fa.setCell ⟨g,i*3+1,none⟩ (.string tp)).cell? ⟨g,i*3+2,none⟩=some (.string lg):=by rw[z_O iu.o _ (by omega)];exact AS.o.2.2
   have FW:=y_o iu.o (i*3+2);refine fp 19 ?_;refine fp 20 ?_;refine fd 21 fun K Qx hK=>?_;go_simp;refine hK _ _ (oW (oW (oW (oW (oW (oW oN)))))) ?_;clear hK K g2 FW;refine fe ?_;clear eL iu zM rg kh FU wL FV;go_wp2;go_roundw
   case rel=>exact ⟨i+1,by omega,by go_num,ud,lN⟩
   case measure=>simp[intOf];omega
  ·obtain rfl:i=S.mem.length:=by omega
   have FX:=Zz (ua.o.kp HR.o ov.o.1);have SS:=Zz (pu.o.kp HR.o ov.o.2.1);have ST:=Zz (lG.o.kp HR.o ov.o.2.2.1);have FY:=Zz (lM.o.kp HR.o ov.o.2.2.2.2.1);have FZ:=Zz (jp.o.kp HR.o ov.o.2.2.2.2.2);have bw:=Zz (aT.o.then HR.o fun z hz e=>(by have e:z=g:=e;have:=ou.o.1;omega:False))
   have oJ:Hid (SupO wr w.heap.size S (.slice As' (S.data+2) cs') (.slice (some ⟨g,0,none⟩) S.mem.length lJ)):=Zz ⟨uc.o.seats.kp HR.o fun z hz e=>by
    obtain ⟨iz,ay⟩:=z_i uc.o.seats hz;obtain ⟨dq,am⟩:=sf.o;have e:z=g:=e;subst e
    exact Blk.ne_ ay am (by decide) rfl,HM.o⟩
   have ef:=Blk.new wr 137 #[.nilFunc];have Oi:(wr.alloc (.cells #[.nilFunc] 137)).cell? ⟨wr.heap.size,0,none⟩=some .nilFunc:=ef.cell 0;have Oj:=ef.frozen 0;have Ni:∀(W:World) (a:Addr) (m:Mode),(store a (.func (.func 107) #[] #[.pointer (some ⟨m1+1+1+1,0,none⟩)]) m).run prog W=stored prog W a (.func (.func 107) #[] #[.pointer (some ⟨m1+1+1+1,0,none⟩)]) m:=fun W a m=>run_store prog W a _ m rfl;have je:Kp NoB wr (wr.alloc (.cells #[.func (.func 107) #[] #[.pointer (some ⟨m1+1+1+1,0,none⟩)]] 137)):=(Kp.refl NoB wr).alloc _;have fL:=Zz (Blk.new wr 137 #[.func (.func 107) #[] #[.pointer (some ⟨m1+1+1+1,0,none⟩)]]);have rh:=Zz (FX.o.kp je fun h=>h);have Ok:=Zz (SS.o.kp je fun h=>h);have SU:=Zz (ST.o.kp je fun h=>h);have F0:=Zz (FY.o.no je);have F4:=Zz (FZ.o.no je);have IX:=Zz (bw.o.trans je);have zO:=Zz (oJ.o.no je);clear je ef HM HR FX SS ST FY FZ bw oJ uc ua pu lG lM jp aT ig
   go_upto_region 11 with fail
   clear Oi Oj Ni;generalize wr.alloc (.cells #[.func (.func 107) #[] #[.pointer (some ⟨m1+1+1+1,0,none⟩)]] 137)=jE at *;generalize wr.heap.size=B9 at *;have t0:=Ok.o.c0;have k0:=rh.o.c0;have k1:=rh.o.c1;have k2:=rh.o.c2;have k3:=rh.o.c3;have k4:=rh.o.c4;have k5:=rh.o.c5;have k6:=rh.o.c6;have k7:=rh.o.c7;have k8:=rh.o.c8;have gI:=Zz (nA.o jE _ _ zO.o.reads);rw[fK.o] at gI;go_wp2_with fail;refine gI.o.mono ?_;rintro e po ⟨rfl,fb⟩;have zP:=Zz (rh.o.kp fb fun h=>h);have zQ:=Zz (Ok.o.kp fb fun h=>h);have zR:=Zz (SU.o.kp fb fun h=>h);have F5:=Zz (fL.o.kp fb fun h=>h);have wM:=Zz (F0.o.no fb);have wN:=Zz (F4.o.no fb);have q7:=Zz (IX.o.trans fb);have wO:=Zz (zO.o.no fb);clear fb rh Ok SU fL F0 F4 IX zO gI t0 k0 k1 k2 k3 k4 k5 k6 k7 k8;have p9:=zR.o.c9;have px:=zR.o.c10;have SV:=Zz (Y5.o po);have SW:=Zz (Y4.o po (m1+1+1+1) (m1+1+1) B9 _ _ _ m1 (m1+1) zQ.o zP.o F5.o q7.o);go_wp2_with fail;refine (SV.o _).mono ?_;rintro e po ⟨rfl,rfl⟩;go_wp2_with fail;refine SW.o.mono ?_;rintro e zS ⟨rfl,mU⟩;have oL:=zP.o.kp mU fun h=>h;have zT:=Zz (zQ.o.kp mU fun h=>h);have wP:=Zz (wM.o.no mU);have wQ:=Zz (wN.o.no mU);have F7:=Zz (q7.o.trans mU);have nF:=Zz (wO.o.no mU);clear mU p9 px zR F5 zQ wM wN q7 wO SV SW zP;have t0:=zT.o.c0;have k0:=oL.c0;have f0:=oL.frozen 0;have nW:=tA.o;have oM:=(Kp.refl (fun z=>z=m1+1+1) zS).setCell ⟨m1+1+1,0,none⟩ (.int .u64 ((S.count:Int)+1)) (.inl rfl);have t0':(zS.setCell ⟨m1+1+1,0,none⟩ (.int .u64 ((S.count:Int)+1))).cell? ⟨m1+1+1+1,0,none⟩=some (.pointer (some ⟨m1+1+1,0,none⟩)):=(zT.o.kp oM fun e=>(by have e:m1+1+1+1=m1+1+1:=e;omega:False)).cell 0
   have de:Hid (∃bU ct,w.heap.size<=m1+1+1/\w.heap.size<=m1/\w.heap.size<=m1+1/\m1≠m1+1/\Blk (zS.setCell ⟨m1+1+1,0,none⟩ (.int .u64 ((S.count:Int)+1))) (m1+1+1) 163 (wkC (z_y S) bU ct m1 (m1+1))/\SupO (zS.setCell ⟨m1+1+1,0,none⟩ (.int .u64 ((S.count:Int)+1))) w.heap.size (z_y S) bU ct/\MapA KI (zS.setCell ⟨m1+1+1,0,none⟩ (.int .u64 ((S.count:Int)+1))) m1 (fun _=>none) []/\MapA KI (zS.setCell ⟨m1+1+1,0,none⟩ (.int .u64 ((S.count:Int)+1))) (m1+1) (fun _=>none) []/\Kp NoB w (zS.setCell ⟨m1+1+1,0,none⟩ (.int .u64 ((S.count:Int)+1)))):=Zz (by
    have cP:=nF.o.kp oM (z_W nF.o.seats oL (by decide)) (z_W nF.o.mems oL (by decide))
    refine ⟨_,_,by have:=FR.o;omega,FR.o,by have:=FR.o;omega,by omega,oL.set_ 0 (.int .u64 ((S.count:Int)+1)),⟨cP.seats,cP.mems⟩,wP.o.kp oM fun e=>(by have e:m1=m1+1+1:=e;omega:False),wQ.o.kp oM fun e=>(by have e:m1+1=m1+1+1:=e;omega:False),F7.o.then oM fun z hz e=>(by have e:z=m1+1+1:=e;have:=FR.o;omega:False)⟩)
   clear oM oL zT wP wQ F7 nF;go_wp2;go_ret2;obtain ⟨bU,ct,bm⟩:=de.o;exact ⟨_,_,_,bU,ct,rfl,bm⟩
end
section
open Go.Maps Go.ChangeMaps Go.MapKept
section
variable {P:Program} {k e t:TypeId} {α:Type} {M:KM P k α} {w:World} {b:Nat} {f:α->Option Value} {dom:List α} [DecidableEq α]
theorem MapA.entry (h:MapA M w b f dom) (K:Keyed P k) (ht:P.underlying t=some (.map k e)) {z:Value} (hz:(zeroValue e).run P w=.ok z w) (hn:dom.length<maxLen) {a:α} (ha:M.ok a) (jJ:f a=none) (v:Value) :
  ∃(c:Nat) (w1 w2:World),(Instr.mapEntry t (.map (some b)) (M.kv a)).run P w=.ok (.tuple #[z,.int .i64 c]) w1/\(Instr.entryStore t (.map (some b)) (.int .i64 c) v).run P w1=.ok () w2/\MapA M w2 b (y_Q f a v) (z_J dom a)/\Kp (·=b) w w1/\Kp (·=b) w1 w2/\Kp (·=b) w w2:=by
 obtain ⟨w2,oo,hM,hk⟩:=h.put K ht hn ha v;obtain ⟨D,⟨es,clock,hb,F,cY,hD⟩,h2,h3,h4,h5⟩:=h.own;have oO:=M.key a ha;rcases K.find w oO es.toList F.keys with ⟨h1,aA⟩|⟨j,e0,h1,hj,kK⟩
 ·have F8:(Instr.mapUpdate t (.map (some b)) (M.kv a) v).run P w=.ok () (setBlock w b (.map (es.push ⟨M.kv a,v,clock⟩) (clock+1))):=by
   simp[Instr.mapUpdate,run_underlying ht,MapKept.run_getObj_map hb,K.check w false oO,h1,MapKept.run_setObj_map _ hb,Result.andThen,setBlock]
  rw[F8] at oo
  have fi:setBlock w b (.map (es.push ⟨M.kv a,v,clock⟩) (clock+1))=w2:=by injection oo
  have ay:(setBlock w b (.map (es.push ⟨M.kv a,z,clock⟩) (clock+1))).heap[b]?=some (.map (es.push ⟨M.kv a,z,clock⟩) (clock+1)):=heap_setBlock_same hb _
  have ge:(es.push ⟨M.kv a,z,clock⟩).findIdx? (fun e=>(e.born:Int)==(clock:Int))=some es.size:=by
   rw[Array.findIdx?_eq_some_iff_getElem];refine ⟨by simp,by simp,fun j hj=>?_⟩;have Y6:j<es.size:=hj;rw[Array.getElem_push_lt Y6];have:=F.stamped.1 es[j] (by simp);simp;omega
  refine ⟨clock,setBlock w b (.map (es.push ⟨M.kv a,z,clock⟩) (clock+1)),w2,?_,?_,hM,?_,?_,hk⟩
  ·simp[Instr.mapEntry,run_underlying ht,MapKept.run_getObj_map hb,K.check w false oO,h1,hz,MapKept.run_setObj_map _ hb,Result.andThen,setBlock,goInt]
  ·rw[<-fi]
   have e3:(es.push ⟨M.kv a,z,clock⟩).modify es.size (fun x=>{ x with val:=v })=es.push ⟨M.kv a,v,clock⟩:=by
    apply Array.ext_getElem?;intro i;rw[Array.getElem?_modify];by_cases hi:es.size=i
    ·subst hi;simp
    ·rw[if_neg hi,Array.getElem?_push,Array.getElem?_push,if_neg (Ne.symm hi),if_neg (Ne.symm hi)]
   have e4:setBlock (setBlock w b (.map (es.push ⟨M.kv a,z,clock⟩) (clock+1))) b (.map (es.push ⟨M.kv a,v,clock⟩) (clock+1))=setBlock w b (.map (es.push ⟨M.kv a,v,clock⟩) (clock+1)):=by
    simp[setBlock]
   simp[Instr.entryStore,MapKept.run_getObj_map ay,asInt,asIntOf,ge,MapKept.run_setObj_map _ ay,Result.andThen,e3];exact e4
  ·exact ⟨rfl,rfl,rfl,by simp[setBlock],fun i _ hi=>heap_setBlock_other hb _ hi⟩
  ·rw[<-fi]
   refine ⟨rfl,rfl,rfl,by simp[setBlock],fun i _ hi=>?_⟩;rw[heap_setBlock_other hb _ hi,heap_setBlock_other hb _ hi]
 ·exfalso
  have hl:=(h.look K ht hz ha).2;rw[jJ] at hl
  have YP:es[j]?=some e0:=by simpa using hj
  simp[Instr.lookup,run_underlying ht,MapKept.run_getObj_map hb,hz,Result.andThen] at hl;rw[K.check w es.isEmpty oO] at hl;simp[h1] at hl
end
end
end Go.Proofs.YtdkheklakfbeeaaGreatDoor
