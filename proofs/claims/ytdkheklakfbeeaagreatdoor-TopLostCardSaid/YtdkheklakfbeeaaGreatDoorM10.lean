/- Part 10 of the proof. -/
import Derived.Test.YtdkheklakfbeeaaGreatDoorM09
set_option linter.all false
set_option maxRecDepth 100000
set_option maxHeartbeats 16000000
namespace Go.Proofs.YtdkheklakfbeeaaGreatDoor
open Go.RowKit Tryz
structure Bk0 (w:World) (b n:Nat) (σ:Nat->DkS) (G c:Nat) (st:Int) (A:Nat->Nat) (Φ:Nat->Nat->Prop):Prop where
 blk:Blk w b 119 #[.slice (some ⟨G,0,none⟩) n c,.int .i64 st,.bool false,.int .i64 0]
 row:Own w 10 76 (.slice (some ⟨G,0,none⟩) n c) ((List.range n).map fun i=>.pointer (some ⟨A i,0,none⟩))
 dk:∀i,i<n->Dk w (A i) (σ i) (Φ i)
 sep:∀i j q,i<n->j<n->Φ i q->Φ j q->i=j
 b10:10<=b
 bG:b≠G
 off:∀i,i<n->¬Φ i b/\¬Φ i G
 n1:1<=n
 n12:n<=12
def bkF (b n G:Nat) (Φ:Nat->Nat->Prop):Nat->Prop:=fun q=>q=b\/q=G\/∃i,i<n/\Φ i q
def Bk (w:World) (b n:Nat) (σ:Nat->DkS) (F:Nat->Prop):Prop:=∃G c st A Φ,Bk0 w b n σ G c st A Φ/\∀q,F q↔bkF b n G Φ q
def z_A (σ:Nat->DkS) (i:Nat) (s:DkS):Nat->DkS:=fun j=>if j=i then s else σ j
theorem y_q (σ:Nat->DkS) (i:Nat) (s:DkS):z_A σ i s i=s:=if_pos rfl
theorem y_w (σ:Nat->DkS) {i j:Nat} (s:DkS) (h:j≠i):z_A σ i s j=σ j:=if_neg h
theorem updD_self (σ:Nat->DkS) (i:Nat):z_A σ i (σ i)=σ:=by
 funext j;unfold z_A;split
 ·rename_i h;rw[h]
 ·rfl
section
variable {w w':World} {b n G c:Nat} {σ:Nat->DkS} {st:Int} {A:Nat->Nat} {Φ:Nat->Nat->Prop} {F S:Nat->Prop}
theorem Bk0.rowBlk (h:Bk0 w b n σ G c st A Φ):10<=G/\G<w.heap.size:=h.row.lt G rfl
theorem Bk0.lt (h:Bk0 w b n σ G c st A Φ) {q:Nat} (hq:bkF b n G Φ q):10<=q/\q<w.heap.size:=by
 rcases hq with rfl|rfl|⟨i,hi,hq⟩
 ·exact ⟨h.b10,h.blk.lt⟩
 ·exact h.rowBlk
 ·exact (h.dk i hi).lt hq
theorem Bk0.kp (h:Bk0 w b n σ G c st A Φ) (k:Kp S w w') (hS:∀q,S q->¬bkF b n G Φ q):Bk0 w' b n σ G c st A Φ :=
 ⟨h.blk.kp k fun hs=>hS _ hs (.inl rfl),h.row.kp k fun q hq hs=>by
  have:G=q:=by simpa[Value.ownBlock] using hq
  exact hS _ hs (.inr (.inl this.symm)),fun i hi=>(h.dk i hi).kp k fun q hs hq=>hS _ hs (.inr (.inr ⟨i,hi,hq⟩)),h.sep,h.b10,h.bG,h.off,h.n1,h.n12⟩
theorem Bk.lt (h:Bk w b n σ F) {q:Nat} (hq:F q):10<=q/\q<w.heap.size:=by
 obtain ⟨G,c,st,A,Φ,h0,hF⟩:=h;exact h0.lt ((hF q).1 hq)
theorem Bk.kp (h:Bk w b n σ F) (k:Kp S w w') (hS:∀q,S q->¬F q):Bk w' b n σ F:=by
 obtain ⟨G,c,st,A,Φ,h0,hF⟩:=h;exact ⟨G,c,st,A,Φ,h0.kp k fun q hs hq=>hS q hs ((hF q).2 hq),hF⟩
theorem Bk.no (h:Bk w b n σ F) (k:Kp NoB w w'):Bk w' b n σ F:=h.kp k fun _ h=>h.elim
theorem Bk0.spent (h:Bk0 w b n σ G c st A Φ) (z:Int):Bk0 (w.setCell ⟨b,1,none⟩ (.int .i64 z)) b n σ G c z A Φ:=by
 have k:=(Kp.refl (·=b) w).setCell ⟨b,1,none⟩ (.int .i64 z) (.inl rfl);refine ⟨h.blk.set_ 1 (.int .i64 z),h.row.kp k fun q hq hs=>?_,fun i hi=>(h.dk i hi).kp k fun q hs hq=>?_,h.sep,h.b10,h.bG,h.off,h.n1,h.n12⟩
 ·have:G=q:=by simpa[Value.ownBlock] using hq
  have hs:q=b:=hs;exact h.bG (by rw[this,hs])
 ·have hs:q=b:=hs
  exact (h.off i hi).1 (by rw[<-hs];exact hq)
theorem Bk0.step (h:Bk0 w b n σ G c st A Φ) {i:Nat} (hi:i<n) {s:DkS} {Φ':Nat->Prop} (hg:Gr w (Φ i) Φ') (hd:Dk w' (A i) s Φ') (k:Kp (Φ i) w w') :
  Bk0 w' b n (z_A σ i s) G c st A (fun j=>if j=i then Φ' else Φ j):=by
 have hb:=h.blk.lt;have hG:=h.rowBlk.2
 have gW:∀j,j<n->∀q,(if j=i then Φ' else Φ j) q->q<w.heap.size->Φ j q:=fun j hj q hq af=>by
  by_cases e:j=i
  ·rw[if_pos e] at hq;rw[e];exact hg q af hq
  ·rwa [if_neg e] at hq
 have new:∀j,j<n->∀q,(if j=i then Φ' else Φ j) q->¬q<w.heap.size->j=i:=fun j hj q hq af=>by
  by_cases e:j=i
  ·exact e
  ·rw[if_neg e] at hq;exact absurd ((h.dk j hj).lt hq).2 af
 refine ⟨h.blk.kp k (h.off i hi).1,h.row.kp k fun q hq hs=>?_,fun j hj=>?_,fun j j' q hj iQ h1 h2=>?_,h.b10,h.bG,fun j hj=>⟨fun hq=>(h.off j hj).1 (gW j hj b hq hb),fun hq=>(h.off j hj).2 (gW j hj G hq hG)⟩,h.n1,h.n12⟩
 ·have:G=q:=by simpa[Value.ownBlock] using hq
  exact (h.off i hi).2 (by rw[this];exact hs)
 ·by_cases e:j=i
  ·subst e;rw[if_pos rfl,y_q];exact hd
  ·rw[if_neg e,y_w _ _ e]
   exact (h.dk j hj).kp k fun q hs hq=>e (h.sep j i q hj hi hq hs)
 ·by_cases af:q<w.heap.size
  ·exact h.sep j j' q hj iQ (gW j hj q h1 af) (gW j' iQ q h2 af)
  ·rw[new j hj q h1 af,new j' iQ q h2 af]
theorem Bk0.gr (h:Bk0 w b n σ G c st A Φ) {i:Nat} (hi:i<n) {Φ':Nat->Prop} (hg:Gr w (Φ i) Φ'):Gr w (bkF b n G Φ) (bkF b n G (fun j=>if j=i then Φ' else Φ j)):=by
 intro q hq hf;rcases hf with hf|hf|⟨j,hj,hf⟩
 ·exact .inl hf
 ·exact .inr (.inl hf)
 ·refine .inr (.inr ⟨j,hj,?_⟩)
  by_cases e:j=i
  ·subst e;rw[if_pos rfl] at hf;exact hg q hq hf
  ·rwa [if_neg e] at hf
theorem Bk0.sub {i:Nat} (hi:i<n):∀q,Φ i q->bkF b n G Φ q:=fun q hq=>.inr (.inr ⟨i,hi,hq⟩)
theorem Bk0.ptr (h:Bk0 w b n σ G c st A Φ) {i:Nat} (hi:i<n):w.cell? ⟨G,i,none⟩=some (.pointer (some ⟨A i,0,none⟩)):=by
 have hr:=h.row
 have hl:((List.range n).map fun i=>Value.pointer (some ⟨A i,0,none⟩)).length=n:=by simp
 have:=Own.cell (g:=G) (c:=c) (by rw[hl];exact hr) i (by rw[hl];exact hi);rw[this,q_j,q_n hi];rfl
theorem v_J (h:Bk w b n σ F) :
  Cl 21 #[.pointer (some ⟨b,0,none⟩)] w fun e w'=>e=.returned (.int .i64 n)/\w'=w:=by
 obtain ⟨G,c,st,A,Φ,h0,hF⟩:=h;have c0:=h0.blk.c0;clear h0 hF;go_enter func21,ntmps21;go_wp2;go_ret;exact ⟨rfl,rfl⟩
theorem v_f (h0:Bk0 w b n σ G c st A Φ) (i:Nat) (hi:i<n) :
  Cl 45 #[.pointer (some ⟨b,0,none⟩),.int .i64 i] w fun e w'=>e=.returned (.pointer (some ⟨A i,0,none⟩))/\w'=w:=by
 have c0:=h0.blk.c0;have cG:=h0.ptr hi
 have af:¬((n:Int)<=(i:Int)):=by omega
 have hn:¬((i:Int)<0):=by omega
 have am:decide ((i:Int)<0)=false:=q_v hn;have bW:decide ((n:Int)<=(i:Int))=false:=q_v af
 have bV:(i:Int)<(n:Int):=by omega
 clear h0;go_enter func45,ntmps45;go_wp2;go_ret;exact ⟨rfl,rfl⟩
theorem there_any (h0:Bk0 w b n σ G c st A Φ) (i:Nat) (hi:i<n) :
  Cl 181 #[.pointer (some ⟨b,0,none⟩),.int .i64 i] w fun e w'=>e=.returned (.int .i64 0)/\w'=w:=by
 have HD:=Zz (v_f h0 i hi);clear h0;go_enter func181,ntmps181;go_wp2_with fail;refine HD.o.mono ?_;rintro e w1 ⟨rfl,rfl⟩;go_wp2;go_ret;exact ⟨rfl,rfl⟩
theorem spend_any (h0:Bk0 w b n σ G c st A Φ) :
  Cl 121 #[.pointer (some ⟨b,0,none⟩)] w fun e w'=>e=.returned (.int .i64 0)/\(∃Ly,Bk0 w' b n σ G c Ly A Φ)/\Kp (·=b) w w':=by
 have c1:=h0.blk.c1;have c2:=h0.blk.c2;have f1:=h0.blk.frozen 1;have HS:=Zz (fun z=>h0.spent z);have HK:=Zz (fun z=>(Kp.refl (·=b) w).setCell ⟨b,1,none⟩ (.int .i64 z) (.inl rfl));clear h0;go_enter func121,ntmps121;go_wp2;go_ret;exact ⟨rfl,⟨_,HS.o _⟩,HK.o _⟩
theorem x_L (h:Bk w b n σ F) (i at':Nat) (hi:i<n) (br:at'<140) :
  Cl 130 #[.pointer (some ⟨b,0,none⟩),.int .i64 i,.int .i64 at'] w fun e w'=>e=.returned (.tuple #[.string (if (σ i).dead then ByteArray.empty else tl (σ i).now at'),.int .i64 (if (σ i).dead then 20 else 0)])/\w'=w:=by
 obtain ⟨G,c,st,A,Φ,h0,hF⟩:=h;have HT:=Zz (there_any h0 i hi);have HR:=Zz (dkread_any (h0.dk i hi) at' br);have c0:=h0.blk.c0;have c2:=h0.blk.c2;have cG:=h0.ptr hi
 have bV:(i:Int)<(n:Int):=by omega
 generalize (if (σ i).dead then ByteArray.empty else tl (σ i).now at')=t at *;generalize (if (σ i).dead then (20:Int) else 0)=e0 at *;clear h0 hF;go_enter func130,ntmps130;go_wp2_with fail;refine HT.o.mono ?_;rintro e w1 ⟨rfl,rfl⟩;go_wp2_with fail;refine HR.o.mono ?_;rintro e w1 ⟨rfl,rfl⟩;go_wp2;go_ret2;exact ⟨rfl,rfl⟩
theorem z_ac (h:Bk w b n σ F) (i at':Nat) (hi:i<n) (br:at'<140) (s:ByteArray) (hs:s.size<=2048) (fy:(σ i).wait<=100000) :
  Cl 144 #[.pointer (some ⟨b,0,none⟩),.int .i64 i,.int .i64 at',.string s] w fun e w'=>e=.returned (.int .i64 (if (σ i).dead then 20 else 0))/\∃F',Gr w F F'/\Bk w' b n (z_A σ i ((σ i).write at' s)) F'/\Kp F w w':=by
 obtain ⟨G,c,st,A,Φ,h0,hF⟩:=h;have HT:=Zz (there_any h0 i hi);have HS:=Zz (spend_any h0);have HW:=Zz (fun (W:World) (z:Int) (h1:Bk0 W b n σ G c z A Φ)=>dkwrite_any (h1.dk i hi) at' br s hs fy)
 have bV:(i:Int)<(n:Int):=by omega
 have HF:=Zz hF;generalize (if (σ i).dead then (20:Int) else 0)=e0 at *;clear h0 hF;go_enter func144,ntmps144;go_wp2_with fail;refine HT.o.mono ?_;rintro e w1 ⟨rfl,rfl⟩;go_wp2_with fail;refine HS.o.mono ?_;rintro e w2 ⟨rfl,⟨z,h1⟩,ag⟩;have c0:=h1.blk.c0;have cG:=h1.ptr hi;have al:=Zz ag;have H1:=Zz h1;clear h1 ag;go_wp2_with fail;refine (HW.o _ z H1.o).mono ?_;rintro e w3 ⟨rfl,Φ',hg,hd,hk⟩
 have bm:∃F',Gr w1 F F'/\Bk w3 b n (z_A σ i ((σ i).write at' s)) F'/\Kp F w1 w3 :=
  ⟨_,fun q hq hf=>(HF.o q).2 (H1.o.gr hi hg q (q_f hq al.o.size) hf),⟨G,c,z,A,_,H1.o.step hi hg hd hk,fun _=>Iff.rfl⟩,
   (al.o.mono fun q _ hq=>(HF.o q).2 (.inl hq)).then hk fun q _ hq=>(HF.o q).2 (Bk0.sub hi q hq)⟩
 have de:=Zz bm;clear hg hd hk bm;go_wp2;go_ret;exact ⟨rfl,de.o⟩
theorem v_3 (h:Bk w b n σ F) (i:Nat) (hi:i<n) :
  Cl 145 #[.pointer (some ⟨b,0,none⟩),.int .i64 i] w fun e w'=>e=.returned (.int .i64 (if (σ i).dead then 20 else 0))/\∃F',Gr w F F'/\Bk w' b n (z_A σ i (σ i).flush) F'/\Kp F w w':=by
 obtain ⟨G,c,st,A,Φ,h0,hF⟩:=h;have HT:=Zz (there_any h0 i hi);have HS:=Zz (spend_any h0);have HW:=Zz (fun (W:World) (z:Int) (h1:Bk0 W b n σ G c z A Φ)=>dkflush_any (h1.dk i hi))
 have bV:(i:Int)<(n:Int):=by omega
 have HF:=Zz hF;generalize (if (σ i).dead then (20:Int) else 0)=e0 at *;clear h0 hF;go_enter func145,ntmps145;go_wp2_with fail;refine HT.o.mono ?_;rintro e w1 ⟨rfl,rfl⟩;go_wp2_with fail;refine HS.o.mono ?_;rintro e w2 ⟨rfl,⟨z,h1⟩,ag⟩;have c0:=h1.blk.c0;have cG:=h1.ptr hi;have al:=Zz ag;have H1:=Zz h1;clear h1 ag;go_wp2_with fail;refine (HW.o _ z H1.o).mono ?_;rintro e w3 ⟨rfl,Φ',hg,hd,hk⟩
 have bm:∃F',Gr w1 F F'/\Bk w3 b n (z_A σ i (σ i).flush) F'/\Kp F w1 w3 :=
  ⟨_,fun q hq hf=>(HF.o q).2 (H1.o.gr hi hg q (q_f hq al.o.size) hf),⟨G,c,z,A,_,H1.o.step hi hg hd hk,fun _=>Iff.rfl⟩,
   (al.o.mono fun q _ hq=>(HF.o q).2 (.inl hq)).then hk fun q _ hq=>(HF.o q).2 (Bk0.sub hi q hq)⟩
 have de:=Zz bm;clear hg hd hk bm;go_wp2;go_ret;exact ⟨rfl,de.o⟩
end
theorem x_b {w w':World} {a:Addr} (h:w'.heap[a.block]?=w.heap[a.block]?):w'.cell? a=w.cell? a:=by simp only[World.cell?,h]
def DkS.crash (σ:DkS):DkS:=if σ.dead then σ else ⟨false,σ.last,σ.last,0⟩
section
variable {w w':World} {d:Nat} {σ:DkS} {F:Nat->Prop}
theorem dkcrash_any (h:Dk w d σ F) (dX:σ.wait=0) (va:Value) (Aa:Option Addr) (ma ca:Nat) (Bh:va=.slice Aa ma ca) :
  Cl 95 #[.pointer (some ⟨d,0,none⟩),va] w fun e w'=>e=.returned (.tuple #[])/\∃F',Gr w F F'/\Dk w' d σ.crash F'/\Kp F w w':=by
 subst Bh;have HU:=Zz (v_i h 0 (by decide));have HD:=Zz h
 cases hd:σ.dead with
 | true =>
  rw[hd] at HU
  have pY:σ.crash=σ:=by unfold DkS.crash;rw[if_pos hd]
  rw[pY];clear h;go_enter func95,ntmps95;go_wp2_with fail;refine HU.o.mono ?_;rintro e w1 ⟨rfl,rfl⟩;simp only[if_true];go_wp2;refine bodyPost_ret (results_none rfl _ _ _) rfl ?_
  exact ⟨rfl,F,Gr.refl _ _,HD.o,Kp.refl _ _⟩
 | false =>
  rw[hd] at HU
  have pY:σ.crash=⟨false,σ.last,σ.last,0⟩:=by simp[DkS.crash,hd]
  rw[pY];obtain ⟨la,na,vw,xs,h1,h2,h3,h4,h5,h6,h7,h8,h9⟩:=h.ex;rw[hd] at h1;rw[dX] at h5;have HN:=Zz h.hn;have HL:=Zz h.hl;have oY:=Blk.ne_ h1 h3 (by decide);have lY:=Blk.ne_ h1 h2 (by decide)
  have eP:(sv σ.now).toArray.size=140:=by rw[q_y,z_c,h.hn]
  have fc:(sv σ.last).length=140:=by rw[z_c,h.hl]
  have bH:z_g w.drew (.slice (some ⟨la,0,none⟩) 140 140) (sv σ.last):=by
   refine ⟨some ⟨la,0,none⟩,140,by rw[fc],by rw[fc];decide,by decide,fun _=>⟨la,0,rfl,fun j hj=>?_⟩⟩;rw[q_D];exact (h2.drew.cell j).trans (by rw[q_p])
  have dc:=Zz bH
  have sS:Hid (∀u∈sv σ.last,u.oneCell'=true):=Zz fun u hu=>by
   obtain ⟨x,_,rfl⟩:=List.mem_map.1 hu;rfl
  have lZ:=Zz h1.drew;have my:=Zz h3.drew;have rR:Hid ((List.take 0 (sv σ.now).toArray.toList++sv σ.last++List.drop (0+(sv σ.last).length) (sv σ.now).toArray.toList).toArray=(sv σ.last).toArray):=Zz (by rw[fc,List.drop_eq_nil_of_le (by rw[<-Array.length_toList] at eP;omega)];simp)
  have bS:Hid (∀w5:World,w5=(w.drew.setRow na (sv σ.last).toArray).setCell ⟨d,2,none⟩ (.slice none 0 0)->∃F',Gr w F F'/\Dk w5 d ⟨false,σ.last,σ.last,0⟩ F'/\Kp F w w5):=Zz fun w5 e=>by
   subst e;refine ⟨(fun q=>q=d\/q=la\/q=na\/(Value.slice none 0 0).ownBlock=some q:Nat->Prop),?_,⟨⟨la,na,.slice none 0 0,[],?_,?_,?_,h4,World.ownsRow_nil _ 10 _ 2,h6,h7,h8,fun _=>Iff.rfl⟩,HL.o,HL.o⟩,((Kp.refl F w).drew.setRow na _ (.inl ((h9 na).2 (.inr (.inr (.inl rfl)))))).setCell _ _ (.inl ((h9 d).2 (.inl rfl)))⟩
   ·intro q hq hf
    rcases hf with h|h|h|h
    ·exact (h9 q).2 (.inl h)
    ·exact (h9 q).2 (.inr (.inl h))
    ·exact (h9 q).2 (.inr (.inr (.inl h)))
    ·cases h
   ·exact (h1.drew.farRow (cs':=(sv σ.last).toArray) oY).set_ 2 (.slice none 0 0)
   ·exact (h2.drew.farRow (cs':=(sv σ.last).toArray) h4).far (p:=⟨d,2,none⟩) (Ne.symm lY) _
   ·exact (h3.drew.setRow (cs':=(sv σ.last).toArray)).far (p:=⟨d,2,none⟩) (Ne.symm oY) _
  obtain ⟨Aw,cw,rfl⟩:=z_r h5;have k2:=h1.c2;have HW:Hid (∃w0:World,w0=w):=Zz ⟨w,rfl⟩;clear h h2 h3 h5 h9 bH h1;go_enter func95,ntmps95;go_wp2_with fail;refine HU.o.mono ?_;rintro e w1 ⟨rfl,rfl⟩;simp only[Bool.false_eq_true,if_false]
  go_upto_region 2 with fail
  go_loopw [14] (fun s14 wr=>s14=.int .i64 0/\wr=w1) (fun _ _=>0)
  case atStart=>exact ⟨rfl,rfl⟩
  case round =>
   obtain ⟨rfl,rfl⟩:=hrel
   go_upto_region 7 with fail
   clear k2;refine fs ?_;generalize wr.drew=w2 at *;have c0:=lZ.o.c0;have c1:=lZ.o.c1;refine fp 0 ?_;refine fp 1 ?_;refine fp 2 ?_;refine f_c 3 c1 ?_;refine fp 4 ?_;refine fp 5 ?_;refine fp 6 ?_;refine f_c 7 c0 ?_;refine y_L 8 rfl rfl (by kernel_rfl) ?_;refine ex_copy rfl underlying38 (by kernel_rfl) rfl (by rw[<-fc];rfl) my.o dc.o (by rw[fc];decide) (by rw[fc];decide) (by rw[fc,eP];decide) sS.o ?_;rw[rR.o];refine ⟨oW (oW oN),?_⟩;have Lz:=lZ.o.farRow (g:=na) (cs':=(sv σ.last).toArray) oY;refine fe ?_;have k3:=Lz.cell 2;have f3:=Lz.frozen 2;clear c0 c1 Lz;generalize w2.setRow na (sv σ.last).toArray=w3 at *;go_wp2
   go_end0
   exact ⟨rfl,bS.o _ rfl⟩
end
section
variable {w:World} {b n m:Nat} {σ:Nat->DkS} {F:Nat->Prop}
def y_6 (σ:Nat->DkS) (i:Nat):Nat->DkS:=fun j=>if j<i then (σ j).crash else σ j
theorem crashD_zero (σ:Nat->DkS):y_6 σ 0=σ:=by funext j;simp[y_6]
theorem crashD_succ (σ:Nat->DkS) (i:Nat):z_A (y_6 σ i) i (σ i).crash=y_6 σ (i+1):=by
 funext j;unfold z_A y_6;by_cases e:j=i
 ·subst e;rw[if_pos rfl,if_pos (by omega)]
 ·rw[if_neg e]
  by_cases h:j<i
  ·rw[if_pos h,if_pos (by omega)]
  ·rw[if_neg h,if_neg (by omega)]
theorem crashD_at (σ:Nat->DkS) (i:Nat):y_6 σ i i=σ i:=by unfold y_6;rw[if_neg (by omega)]
def RowsB (w:World) (v:Value) (m:Nat):Prop:=∃rb ro c,v=.slice (some ⟨rb,ro,none⟩) m c/\m<=c/\∀i,i<m->∃A k c',w.cell? ⟨rb,ro+i,none⟩=some (.slice A k c')
theorem bcrash_any (h:Bk w b n σ F) (dX:∀i,i<n->(σ i).wait=0) (v:Value) (hv:RowsB w v n) (QX:∀rb ro c,v=.slice (some ⟨rb,ro,none⟩) n c->¬F rb) :
  Cl 55 #[.pointer (some ⟨b,0,none⟩),v] w fun e w'=>e=.returned (.tuple #[])/\∃F',Gr w F F'/\Bk w' b n (y_6 σ n) F'/\Kp F w w':=by
 obtain ⟨rb,ro,cv,rfl,QY,ae⟩:=hv;have sU:=Zz (QX rb ro cv rfl);obtain ⟨G,c,st,A,Φ,h0,hF⟩:=h;have bA:=Zz ae;have jN:=Zz dX;have LA:Hid (¬bkF b n G Φ rb):=Zz fun h=>sU.o ((hF rb).2 h);have fI:Hid (∃Φ',Gr w (bkF b n G Φ) (bkF b n G Φ')/\Bk0 w b n (y_6 σ 0) G c st A Φ'):=Zz ⟨Φ,Gr.refl _ _,by rw[crashD_zero];exact h0⟩;have bZ:=Zz (Kp.refl (bkF b n G Φ) w);have c0:=h0.blk.c0;have sV:=Zz hF;have dy:=h0.n12;clear h0 hF ae dX QX;go_enter func55,ntmps55
 go_upto_region 2 with fail
 clear c0
 go_loopw [4,5,13] (fun _ _ s13 wr=>∃i:Nat,i<=n/\s13=.int .i64 i/\Hid (∃Φ',Gr w (bkF b n G Φ) (bkF b n G Φ')/\Bk0 wr b n (y_6 σ i) G c st A Φ')/\Hid (Kp (bkF b n G Φ) w wr)) (fun _ _ s13 _=>n-(intOf s13).toNat)
 case atStart=>exact ⟨0,by omega,rfl,fI,bZ⟩
 case round =>
  clear fI bZ;obtain ⟨i,hi,rfl,HS,HK⟩:=hrel;by_cases af:i<n
  ·have bV:(i:Int)<(n:Int):=by omega
   obtain ⟨Φ',hg,hb⟩:=HS.o;have HG:=Zz hg;have HB:=Zz hb;have cG:=hb.ptr af;obtain ⟨Ai,ki,ci,nW⟩:=bA.o i af;have LD:=(HK.o.block rb (q_c w ⟨rb,ro+i,none⟩ nW) LA.o)
   have LE:wr.cell? ⟨rb,ro+i,none⟩=some (.slice Ai ki ci):=by rw[<-nW];exact x_b LD
   have QZ:=Zz (dkcrash_any (hb.dk i af) (by rw[crashD_at];exact jN.o i af) (.slice Ai ki ci) Ai ki ci rfl);rw[crashD_at] at QZ;have aR:=Zz (crashD_succ σ i);clear hg hb nW LD HS;go_wp2_with fail;refine QZ.o.mono ?_;rintro e w2 ⟨rfl,F',g1,g2,g3⟩;have am:=HB.o.step af g1 g2 g3;rw[aR.o] at am;have fh:Hid (∃Φ',Gr w (bkF b n G Φ) (bkF b n G Φ')/\Bk0 w2 b n (y_6 σ (i+1)) G c st A Φ'):=Zz ⟨_,HG.o.then (HB.o.gr af g1) HK.o.size,am⟩;have al:=Zz (HK.o.then g3 fun q hq hf=>HG.o q hq (Bk0.sub af q hf));clear g1 g2 g3 am cG LE;go_wp2;go_roundw
   case rel=>exact ⟨i+1,by omega,by go_num,fh,al⟩
   case measure=>simp[intOf];omega
  ·obtain rfl:i=n:=by omega
   obtain ⟨Φ',hg,hb⟩:=HS.o;have b2:=hb.blk.c2;have b3:=hb.blk.c3;have fb2:=hb.blk.frozen 2;have fb3:=hb.blk.frozen 3;have k:=((Kp.refl (·=b) wr).setCell ⟨b,2,none⟩ (.bool false) (.inl rfl)).setCell ⟨b,3,none⟩ (.int .i64 0) (.inl rfl)
   have bS:Hid (Bk0 ((wr.setCell ⟨b,2,none⟩ (.bool false)).setCell ⟨b,3,none⟩ (.int .i64 0)) b i (y_6 σ i) G c st A Φ'):=Zz (by
    refine ⟨(hb.blk.set_ 2 (.bool false)).set_ 3 (.int .i64 0),hb.row.kp k fun q hq hs=>?_,fun j hj=>(hb.dk j hj).kp k fun q hs hq=>?_,hb.sep,hb.b10,hb.bG,hb.off,hb.n1,hb.n12⟩
    ·have:G=q:=by simpa[Value.ownBlock] using hq
     have hs:q=b:=hs;exact hb.bG (by rw[this,hs])
    ·have hs:q=b:=hs
     exact (hb.off j hj).1 (by rw[<-hs];exact hq))
   have ar:=Zz ((HK.o.then k fun q hq hs=>by have hs:q=b:=hs;exact .inl hs).mono (S:=F) fun q _ hq=>(sV.o q).2 hq);have Bi:Hid (Gr w F (bkF b i G Φ')):=Zz fun q hq hf=>(sV.o q).2 (hg q hq hf);clear hg hb k;go_wp2
   go_end0
   exact ⟨rfl,_,Bi.o,⟨G,c,st,A,Φ',bS.o,fun _=>Iff.rfl⟩,ar.o⟩
end
theorem blit2 (w:World) (cs:Array Value) (e:TypeId) (h:cs.size<=maxLen):z_g (w.alloc (.cells cs e)) (.slice (some ⟨w.heap.size,0,none⟩) cs.size cs.size) cs.toList:=(Own.lit_ w w.heap.size e cs (q_e _) h).reads
theorem infoPD:(prog.info? 76).map (fun i=>(i.zero,i.size,i.bytes))=some (some (.pointer none),1,8):=by kernel_rfl
def ptrs (A:Nat->Nat) (i:Nat):List Value:=(List.range i).map fun j=>.pointer (some ⟨A j,0,none⟩)
theorem ptrs_len (A:Nat->Nat) (i:Nat):(ptrs A i).length=i:=by simp[ptrs]
theorem ptrs_succ (A:Nat->Nat) (i d:Nat):ptrs (fun j=>if j=i then d else A j) (i+1)=ptrs A i++[.pointer (some ⟨d,0,none⟩)]:=by
 unfold ptrs;rw[List.range_succ,List.map_append];congr 1
 ·apply List.map_congr_left
  intro j hj;have:j<i:=List.mem_range.1 hj;simp[show j≠i by omega]
 ·simp
def dk0:DkS:=⟨false,List.replicate 140 ByteArray.empty,List.replicate 140 ByteArray.empty,0⟩
theorem Dk.not_row {w:World} {d base:Nat} {σ:DkS} {F:Nat->Prop} {v:Value} {xs:List Value} (h:Dk w d σ F) (ho:Own w base 76 v xs) {q:Nat} (hq:v.ownBlock=some q):¬F q:=by
 obtain ⟨la,na,vw,ys,h1,h2,h3,h4,h5,h6,h7,h8,h9⟩:=h.ex;intro hf;rcases (h9 q).1 hf with rfl|rfl|rfl|hf
 ·exact z_s ho h1 (by decide) hq
 ·exact z_s ho h2 (by decide) hq
 ·exact z_s ho h3 (by decide) hq
 ·rcases h5.2 with ⟨rfl,_⟩|⟨g',av,aQ,rfl,_,hh,_⟩
  ·cases hf
  ·have:g'=q:=by simpa[Value.ownBlock] using hf
   subst this;exact z_s ho (show Blk w g' 242 aQ from hh) (by decide) hq
def BN (w0:Nat) (W:World) (i:Nat):Prop:=∃(v:Value) (A:Nat->Nat) (Φ:Nat->Nat->Prop),Blk W w0 119 #[v,.int .i64 0,.bool false,.int .i64 0]/\Own W w0 76 v (ptrs A i)/\(∀j,j<i->Dk W (A j) dk0 (Φ j))/\(∀j j' q,j<i->j'<i->Φ j q->Φ j' q->j=j')/\(∀j,j<i->∀q,Φ j q->w0+1<=q)
theorem bnew_any (w:World) (n:Nat) (hw:10<=w.heap.size) (hn:1<=n/\n<=12) :
  Cl 51 #[.int .i64 n,.int .i64 140] w fun e w'=>∃b F,e=.returned (.pointer (some ⟨b,0,none⟩))/\Bk w' b n (fun _=>dk0) F/\(∀q,F q->w.heap.size<=q)/\Kp NoB w w':=by
 have gV:min (n:Int) 12=(n:Int):=by omega
 have lu:max (1:Int) (n:Int)=(n:Int):=by omega
 have eu:=Zz (fun (W:World) (h:10<=W.heap.size)=>dknew_any W h);have fj:Hid (BN w.heap.size (w.alloc (.cells #[.slice none 0 0,.int .i64 0,.bool false,.int .i64 0] 119)) 0):=Zz ⟨_,fun _=>0,fun _ _=>False,Blk.new w _ _,Own.nil_ _ _ _,fun j hj=>by omega,fun j j' q hj=>by omega,fun j hj=>by omega⟩;have bZ:=Zz ((Kp.refl NoB w).alloc (.cells #[.slice none 0 0,.int .i64 0,.bool false,.int .i64 0] 119));have fI:Hid (w.heap.size+1<=(w.alloc (.cells #[.slice none 0 0,.int .i64 0,.bool false,.int .i64 0] 119)).heap.size):=Zz (by simp);go_enter func51,ntmps51
 go_upto_region 3 with fail
 generalize aN:w.alloc (.cells #[.slice none 0 0,.int .i64 0,.bool false,.int .i64 0] 119)=w1 at *;clear aN;obtain ⟨b,hb⟩:∃b,w.heap.size=b:=⟨_,rfl⟩;rw[hb] at fj fI ⊢;have gR:=Zz hb
 go_loopw [11] (fun s11 wr=>∃i:Nat,i<=n/\s11=.int .i64 i/\Hid (BN b wr i)/\Hid (Kp NoB w wr)/\Hid (b+1<=wr.heap.size)) (fun s11 _=>n-(intOf s11).toNat)
 case atStart=>exact ⟨0,by omega,rfl,fj,bZ,fI⟩
 case round =>
  clear fj bZ fI;obtain ⟨i,hi,rfl,HB,HK,HS⟩:=hrel;by_cases af:i<n
  ·have bV:(i:Int)<(n:Int):=by omega
   obtain ⟨v,A,Φ,lW,ae,o6,sW,g8⟩:=HB.o;have iB:=Zz lW.drew;have IA:=Zz (show Own wr.drew b 76 v (ptrs A i) from ae);have uZ:Hid (∀j,j<i->Dk wr.drew (A j) dk0 (Φ j)):=Zz fun j hj=>(o6 j hj).kp (Kp.refl NoB wr).drew (fun _ h=>h.elim);have ff:=Zz sW;have qe:=Zz g8;have fZ:=Zz HK.o.drew;have np:Hid (b+1<=wr.drew.heap.size):=HS;clear lW ae o6 sW g8 HB HK HS
   go_upto_region 4 with fail
   refine fs ?_;generalize wr.drew=w2 at *;have c0:=iB.o.c0;refine fp 0 ?_;refine fp 1 ?_;refine fp 2 ?_;refine fp 3 ?_;refine f_c 4 c0 ?_;refine fp 5 ?_;refine fd 6 fun K Qx hK=>?_;go_simp;refine (eu.o _ (by have:=np.o;have:=gR.o;omega)).mono ?_;rintro e w3 ⟨d,F,rfl,hD,hF,au⟩;have aJ:=Zz (iB.o.kp au fun h=>h);have iG:=Zz (IA.o.kp au fun _ _ h=>h);have ar:=Zz (fZ.o.trans au);have fJ:Hid (b+1<=w3.heap.size):=Zz (q_g np.o au.size)
   have HX:Hid ((∀j,j<i+1->Dk w3 (if j=i then d else A j) dk0 (if j=i then F else Φ j))/\(∀j j' q,j<i+1->j'<i+1->(if j=i then F else Φ j) q->(if j'=i then F else Φ j') q->j=j')/\(∀j,j<i+1->∀q,(if j=i then F else Φ j) q->b+1<=q)):=Zz (by
    refine ⟨fun j hj=>?_,fun j j' q hj iQ h1 h2=>?_,fun j hj q h1=>?_⟩
    ·by_cases e:j=i
     ·rw[if_pos e,if_pos e];exact hD
     ·rw[if_neg e,if_neg e];exact (uZ.o j (by omega)).kp au fun _ h=>h.elim
    ·by_cases e:j=i
     ·by_cases e':j'=i
      ·omega
      ·rw[if_pos e] at h1;rw[if_neg e'] at h2
       have:=hF q h1;have:=((uZ.o j' (by omega)).lt h2).2;omega
     ·by_cases e':j'=i
      ·rw[if_neg e] at h1;rw[if_pos e'] at h2
       have:=hF q h2;have:=((uZ.o j (by omega)).lt h1).2;omega
      ·rw[if_neg e] at h1;rw[if_neg e'] at h2
       exact ff.o j j' q (by omega) (by omega) h1 h2
    ·by_cases e:j=i
     ·rw[if_pos e] at h1;have:=hF q h1;have:=np.o;omega
     ·rw[if_neg e] at h1;exact qe.o j (by omega) q h1)
   refine hK _ _ (oK (aJ.o.cell 0) oN) ?_;clear hK K c0 au hD hF iB IA fZ np uZ ff qe;refine fd 7 fun K Qx hK=>?_;go_simp;have cy:=Zz (iG.o.alloc (.cells #[.pointer (some ⟨d,0,none⟩)] 76));have gp:=Zz (aJ.o.alloc (.cells #[.pointer (some ⟨d,0,none⟩)] 76));have dK:=Zz (ar.o.alloc (.cells #[.pointer (some ⟨d,0,none⟩)] 76));have eQ:Hid (z_g (w3.alloc (.cells #[.pointer (some ⟨d,0,none⟩)] 76)) (.slice (some ⟨w3.heap.size,0,none⟩) 1 1) [.pointer (some ⟨d,0,none⟩)]):=Zz (blit2 w3 #[.pointer (some ⟨d,0,none⟩)] 76 (by simp[maxLen]));have kF:Hid (b+1<=(w3.alloc (.cells #[.pointer (some ⟨d,0,none⟩)] 76)).heap.size):=Zz (by have:=fJ.o;simp;omega);have LG:Hid (∀j,j<i+1->Dk (w3.alloc (.cells #[.pointer (some ⟨d,0,none⟩)] 76)) (if j=i then d else A j) dk0 (if j=i then F else Φ j)):=Zz fun j hj=>(HX.o.1 j hj).kp ((Kp.refl NoB w3).alloc _) fun _ h=>h.elim;refine hK _ _ (oK (gp.o.cell 0) oN) ?_;clear hK K aJ iG ar fJ;generalize w3.alloc (.cells #[.pointer (some ⟨d,0,none⟩)] 76)=w4 at *;refine y_L 8 rfl rfl (by kernel_rfl) ?_;refine x_S rfl underlying117 infoPD rfl (by decide) rfl rfl (fun u hu=>by simp at hu;subst hu;rfl) cy.o eQ.o (by show 0<1;decide) (by have:=kF.o;omega) (by rw[ptrs_len];show (i+1)*8<=140737488355328;omega) ?_;intro v1 w5 ho hg;rw[<-ptrs_succ A i d] at ho;have aC:Kp (fun q=>some q=v.ownBlock) w4 w5:=Kp.of_grown hg fun _ h=>h;have Q0:∀q,some q=v.ownBlock->b<=q:=fun q h=>(cy.o.lt q h.symm).1;have aY:=Zz (gp.o.kp aC fun h=>z_s cy.o gp.o (by decide) h.symm);have n9:=Zz ho;have ax:=Zz (dK.o.then aC fun q hq h=>(by have:=Q0 q h;have:=gR.o;omega:False));have o7:Hid (b+1<=w5.heap.size):=Zz (q_g kF.o aC.size);have qg:Hid (∀j,j<i+1->Dk w5 (if j=i then d else A j) dk0 (if j=i then F else Φ j)):=Zz fun j hj=>(LG.o j hj).kp aC fun q hq hf=>(LG.o j hj).not_row cy.o hq.symm hf;refine ⟨oW oN,?_⟩;obtain ⟨A1,c1,rfl⟩:=z_r ho;clear ho hg aC Q0 cy gp dK eQ kF LG;have c0:=aY.o.c0;have f0:=aY.o.frozen 0;refine fp 9 ?_;refine fp 10 ?_;refine fd 11 fun K Qx hK=>?_;go_simp;refine hK _ _ (oW oN) ?_;clear hK K;refine fe ?_;have ap:=(Kp.refl (fun q=>q=b) w5).setCell ⟨b,0,none⟩ (.slice A1 (ptrs (fun j=>if j=i then d else A j) (i+1)).length c1) (.inl rfl);have bk:=aY.o.set_ 0 (.slice A1 (ptrs (fun j=>if j=i then d else A j) (i+1)).length c1);have dG:=n9.o.kp ap fun q hq e=>z_s n9.o aY.o (by decide) (hq.trans (congrArg some e));have nr:Hid (BN b (w5.setCell ⟨b,0,none⟩ (.slice A1 (ptrs (fun j=>if j=i then d else A j) (i+1)).length c1)) (i+1)):=Zz ⟨_,_,fun j=>if j=i then F else Φ j,bk,dG,fun j hj=>(qg.o j hj).kp ap fun q e hf=>by have:=HX.o.2.2 j hj q hf;omega,HX.o.2.1,HX.o.2.2⟩
   have aB:=Zz (ax.o.then ap fun q hq e=>(by have:=gR.o;omega:False));have dH:Hid (b+1<=(w5.setCell ⟨b,0,none⟩ (.slice A1 (ptrs (fun j=>if j=i then d else A j) (i+1)).length c1)).heap.size):=Zz (q_g o7.o ap.size);clear ap bk dG c0 f0;go_wp2;go_roundw
   case rel=>exact ⟨i+1,by omega,by go_num,nr,aB,dH⟩
   case measure=>simp[intOf];omega
  ·obtain rfl:i=n:=by omega
   obtain ⟨v,A,Φ,lW,ae,o6,sW,g8⟩:=HB.o;obtain ⟨g,av,rfl,bu,bJ,kU⟩:=ae.form (by rw[ptrs_len];omega);have Wl:b≠g:=fun e=>z_s ae lW (by decide) (by rw[e];rfl);rw[ptrs_len] at ae lW;go_wp2;go_ret
   have Wm:Bk0 wr b i (fun _=>dk0) g av 0 A Φ:=by
    refine ⟨lW,?_,o6,sW,by have:=gR.o;omega,Wl,fun j hj=>⟨fun h=>by have:=g8 j hj b h;omega,fun h=>(o6 j hj).not_row ae (by rfl) h⟩,by omega,by omega⟩;obtain ⟨e1,e2|⟨g',nH,aQ,e3,e4,e5⟩⟩:=ae
    ·exact absurd e2.1 (by simp)
    ·exact ⟨e1,.inr ⟨g',nH,aQ,e3,by have:=gR.o;omega,e5⟩⟩
   refine ⟨b,bkF b i g Φ,rfl,⟨g,av,0,A,Φ,Wm,fun _=>Iff.rfl⟩,fun q hq=>?_,HK.o⟩;rcases hq with rfl|rfl|⟨j,hj,hq⟩
   ·have:=gR.o;omega
   ·have:=gR.o;omega
   ·have:=g8 j hj q hq;have:=gR.o;omega
theorem d64_cell {w:World} (hL:Lay w) (i v:Nat) (h:(d64L.map fun (n:Nat)=>Value.int .u8 n)[i]?=some (.int .u8 v)):w.cell? ⟨5,i,none⟩=some (.int .u8 v):=by
 obtain ⟨t,f,hz⟩:=hL.d64;rw[cell_of_row w _ i _ _ _ hz,q_p,h]
theorem tz_2 (w:World) (hL:Lay w):Cl 258 #[.int .u64 2] w fun e w'=>e=.returned (.int .i64 1)/\w'=w:=by
 have hc:=d64_cell hL 1 1 rfl;clear hL
 have b1:IntKind.u64.wrap (bits .and .u64 2 (IntKind.u64.wrap (-2))*285870213051353865)=571740426102707730:=by decide
 go_enter func258,ntmps258;go_wp2;go_ret;exact ⟨rfl,rfl⟩
theorem tzz_2 (w:World) (hL:Lay w):Cl 234 #[.int .u64 2] w fun e w'=>e=.returned (.int .i64 1)/\w'=w:=by
 have H:=Zz (tz_2 w hL);clear hL;go_enter func234,ntmps234;go_wp2_with fail;refine H.o.mono ?_;rintro e w1 ⟨rfl,rfl⟩;go_wp2;go_ret;exact ⟨rfl,rfl⟩
theorem depth_2 (w:World) (hL:Lay w):Cl 191 #[.int .i64 2] w fun e w'=>e=.returned (.int .i64 1)/\w'=w:=by
 have H:=Zz (tzz_2 w hL);clear hL
 have b1:bits .and .i64 2 1=0:=by decide
 go_enter func191,ntmps191;go_wp2_with fail;refine H.o.mono ?_;rintro e w1 ⟨rfl,rfl⟩;go_wp2;go_ret;exact ⟨rfl,rfl⟩
theorem tz_4 (w:World) (hL:Lay w):Cl 258 #[.int .u64 4] w fun e w'=>e=.returned (.int .i64 2)/\w'=w:=by
 have hc:=d64_cell hL 3 2 rfl;clear hL
 have b1:IntKind.u64.wrap (bits .and .u64 4 (IntKind.u64.wrap (-4))*285870213051353865)=1143480852205415460:=by decide
 go_enter func258,ntmps258;go_wp2;go_ret;exact ⟨rfl,rfl⟩
theorem tzz_4 (w:World) (hL:Lay w):Cl 234 #[.int .u64 4] w fun e w'=>e=.returned (.int .i64 2)/\w'=w:=by
 have H:=Zz (tz_4 w hL);clear hL;go_enter func234,ntmps234;go_wp2_with fail;refine H.o.mono ?_;rintro e w1 ⟨rfl,rfl⟩;go_wp2;go_ret;exact ⟨rfl,rfl⟩
theorem depth_4 (w:World) (hL:Lay w):Cl 191 #[.int .i64 4] w fun e w'=>e=.returned (.int .i64 2)/\w'=w:=by
 have H:=Zz (tzz_4 w hL);clear hL
 have b1:bits .and .i64 4 3=0:=by decide
 go_enter func191,ntmps191;go_wp2_with fail;refine H.o.mono ?_;rintro e w1 ⟨rfl,rfl⟩;go_wp2;go_ret;exact ⟨rfl,rfl⟩
theorem tz_16 (w:World) (hL:Lay w):Cl 258 #[.int .u64 16] w fun e w'=>e=.returned (.int .i64 4)/\w'=w:=by
 have hc:=d64_cell hL 15 4 rfl;clear hL
 have b1:IntKind.u64.wrap (bits .and .u64 16 (IntKind.u64.wrap (-16))*285870213051353865)=4573923408821661840:=by decide
 go_enter func258,ntmps258;go_wp2;go_ret;exact ⟨rfl,rfl⟩
theorem tzz_16 (w:World) (hL:Lay w):Cl 234 #[.int .u64 16] w fun e w'=>e=.returned (.int .i64 4)/\w'=w:=by
 have H:=Zz (tz_16 w hL);clear hL;go_enter func234,ntmps234;go_wp2_with fail;refine H.o.mono ?_;rintro e w1 ⟨rfl,rfl⟩;go_wp2;go_ret;exact ⟨rfl,rfl⟩
theorem depth_16 (w:World) (hL:Lay w):Cl 191 #[.int .i64 16] w fun e w'=>e=.returned (.int .i64 4)/\w'=w:=by
 have H:=Zz (tzz_16 w hL);clear hL
 have b1:bits .and .i64 16 15=0:=by decide
 go_enter func191,ntmps191;go_wp2_with fail;refine H.o.mono ?_;rintro e w1 ⟨rfl,rfl⟩;go_wp2;go_ret;exact ⟨rfl,rfl⟩
def dep (s:Nat):Nat:=if s=2 then 1 else 2
theorem leaves_any (w:World) (hL:Lay w) (s:Nat) (hs:s=2\/s=4):Cl 221 #[.int .i64 (dep s:Int)] w fun e w'=>e=.returned (.int .i64 s)/\w'=w:=by
 have H:=Zz (depth_16 w hL);clear hL;rcases hs with rfl|rfl
 ·change Calls _ _ #[.int .i64 1] w _
  go_enter func221,ntmps221;go_wp2_with fail;refine H.o.mono ?_;rintro e w1 ⟨rfl,rfl⟩;go_wp2;go_ret;exact ⟨rfl,rfl⟩
 ·change Calls _ _ #[.int .i64 2] w _
  go_enter func221,ntmps221;go_wp2_with fail;refine H.o.mono ?_;rintro e w1 ⟨rfl,rfl⟩;go_wp2;go_ret;exact ⟨rfl,rfl⟩
def sec (s t i:Nat):Bool:=(t / 2 ^ (dep s-1-i)) % 2==1
theorem sec_2_0_0 (w:World):Cl 222 #[.int .i64 0,.int .i64 1,.int .i64 0] w fun e w'=>e=.returned (.bool false)/\w'=w:=by
 have b1:bits .and .i64 0 1=0:=by decide
 go_enter func222,ntmps222;go_wp2;go_ret;exact ⟨rfl,rfl⟩
theorem sec_2_1_0 (w:World):Cl 222 #[.int .i64 1,.int .i64 1,.int .i64 0] w fun e w'=>e=.returned (.bool true)/\w'=w:=by
 have b1:bits .and .i64 1 1=1:=by decide
 go_enter func222,ntmps222;go_wp2;go_ret;exact ⟨rfl,rfl⟩
theorem sec_4_0_0 (w:World):Cl 222 #[.int .i64 0,.int .i64 2,.int .i64 0] w fun e w'=>e=.returned (.bool false)/\w'=w:=by
 have b1:bits .and .i64 0 1=0:=by decide
 go_enter func222,ntmps222;go_wp2;go_ret;exact ⟨rfl,rfl⟩
theorem sec_4_0_1 (w:World):Cl 222 #[.int .i64 0,.int .i64 2,.int .i64 1] w fun e w'=>e=.returned (.bool false)/\w'=w:=by
 have b1:bits .and .i64 0 1=0:=by decide
 go_enter func222,ntmps222;go_wp2;go_ret;exact ⟨rfl,rfl⟩
theorem sec_4_1_0 (w:World):Cl 222 #[.int .i64 1,.int .i64 2,.int .i64 0] w fun e w'=>e=.returned (.bool false)/\w'=w:=by
 have b1:bits .and .i64 0 1=0:=by decide
 go_enter func222,ntmps222;go_wp2;go_ret;exact ⟨rfl,rfl⟩
theorem sec_4_1_1 (w:World):Cl 222 #[.int .i64 1,.int .i64 2,.int .i64 1] w fun e w'=>e=.returned (.bool true)/\w'=w:=by
 have b1:bits .and .i64 1 1=1:=by decide
 go_enter func222,ntmps222;go_wp2;go_ret;exact ⟨rfl,rfl⟩
theorem sec_4_2_0 (w:World):Cl 222 #[.int .i64 2,.int .i64 2,.int .i64 0] w fun e w'=>e=.returned (.bool true)/\w'=w:=by
 have b1:bits .and .i64 1 1=1:=by decide
 go_enter func222,ntmps222;go_wp2;go_ret;exact ⟨rfl,rfl⟩
theorem sec_4_2_1 (w:World):Cl 222 #[.int .i64 2,.int .i64 2,.int .i64 1] w fun e w'=>e=.returned (.bool false)/\w'=w:=by
 have b1:bits .and .i64 2 1=0:=by decide
 go_enter func222,ntmps222;go_wp2;go_ret;exact ⟨rfl,rfl⟩
theorem sec_4_3_0 (w:World):Cl 222 #[.int .i64 3,.int .i64 2,.int .i64 0] w fun e w'=>e=.returned (.bool true)/\w'=w:=by
 have b1:bits .and .i64 1 1=1:=by decide
 go_enter func222,ntmps222;go_wp2;go_ret;exact ⟨rfl,rfl⟩
theorem sec_4_3_1 (w:World):Cl 222 #[.int .i64 3,.int .i64 2,.int .i64 1] w fun e w'=>e=.returned (.bool true)/\w'=w:=by
 have b1:bits .and .i64 3 1=1:=by decide
 go_enter func222,ntmps222;go_wp2;go_ret;exact ⟨rfl,rfl⟩
theorem second_any (w:World) (s t i:Nat) (hs:s=2\/s=4) (ht:t<s) (hi:i<dep s):Cl 222 #[.int .i64 t,.int .i64 (dep s:Int),.int .i64 i] w fun e w'=>e=.returned (.bool (sec s t i))/\w'=w:=by
 rcases hs with rfl|rfl
 ·obtain rfl:i=0:=by have:dep 2=1:=rfl;omega
  rcases (by omega:t=0\/t=1) with rfl|rfl
  ·exact sec_2_0_0 w
  ·exact sec_2_1_0 w
 ·rcases (by have:dep 4=2:=rfl;omega:i=0\/i=1) with rfl|rfl
  ·rcases (by omega:t=0\/t=1\/t=2\/t=3) with rfl|rfl|rfl|rfl
   ·exact sec_4_0_0 w
   ·exact sec_4_1_0 w
   ·exact sec_4_2_0 w
   ·exact sec_4_3_0 w
  ·rcases (by omega:t=0\/t=1\/t=2\/t=3) with rfl|rfl|rfl|rfl
   ·exact sec_4_0_1 w
   ·exact sec_4_1_1 w
   ·exact sec_4_2_1 w
   ·exact sec_4_3_1 w
def hlf (p:ByteArray) (b:Bool):ByteArray:=if b then p.extract 32 64 else p.extract 0 32
theorem half_any (w:World) (p:ByteArray) (hp:p.size=64) (b:Bool):Cl 223 #[.string p,.bool b] w fun e w'=>e=.returned (.string (hlf p b))/\w'=w:=by
 cases b
 ·go_enter func223,ntmps223
  go_wp2;go_ret;exact ⟨rfl,rfl⟩
 ·go_enter func223,ntmps223
  go_wp2;go_ret;exact ⟨rfl,rfl⟩
end Go.Proofs.YtdkheklakfbeeaaGreatDoor
