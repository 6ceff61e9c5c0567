/- Part 9 of the proof. -/
import Derived.BigQuiet
import Derived.Test.YtdkheklakfbeeaaGreatDoorM08
set_option linter.all false
set_option maxRecDepth 100000
set_option maxHeartbeats 16000000
namespace Go.Proofs.YtdkheklakfbeeaaGreatDoor
open Go.RowKit Tryz
section
variable {P:Program} {ah:Array Oper} {R:Act->World->Prop} {H:Held} {fuel:Nat} {listed:Array Bool} {a:Act} {w:World}
theorem fr_rdx (i:Nat) (S:World->Prop) {o:Oper} (ho:ah[i]?=some o) (hg:o.guard=none) {d:Nat} (hd:o.dst=some d) (aj:decide (d<a.tmps.size)=true) (hB:(Region.noSelect ah && (Region.ready .any ah listed).contains i && Region.free .any ah listed i)=true) (hS:S w)
  {v:Value} (iU:∀W,S W->(execOp a.eval o).run P W=.ok (.value v) W) (h:Fr P ah R ((i,S)::H) fuel (listed.setIfInBounds i true) (a.put o.dst v) w):Fr P ah R H (fuel+1) listed a w:=by
 refine w_k i S ho hd aj hB hS fun K hK=>?_;rw[if_pos (by unfold Region.wanted;rw[hg])]
 have aH:∀W,S W->∀K:Act->Prop,K (a.put o.dst v)->o.still P a W K:=fun W hW K hK=>by
  unfold Oper.still;rw[iU W hW];exact ⟨rfl,hK⟩
 refine aH w hS K (hK _ (fun W hW=>?_) h);rw[if_pos (by unfold Region.wanted;rw[hg])];exact aH W hW _ rfl
end
section
variable {P:Program} {ρ:Operand->Value} {w:World} {o:Oper}
theorem z_aa {ty t g:TypeId} {x:Operand} {cs:Array Value} {d:TypeDesc} (h:o.op=.load ty x) (hx:ρ x=.pointer (some ⟨g,0,none⟩)) (hb:Blk w g t cs)
  (hu:P.underlying ty=some d) (hd:d.isRow=true) (hi:(P.info? ty).map (·.size)=some cs.size):(execOp ρ o).run P w=.ok (.value (.agg cs)) w:=by
 have hl:=run_loadAt_blk (P:=P) hb hu hd hi;unfold execOp;simp only[h,hx,Sem.run_bind,hl,Result.andThen_ok,Sem.run_pure]
theorem wpList_ex {ah:Array Oper} {rest:List Oper} {a:Act} {Q:Exit->Act->World->Prop} (hg:o.guard=none) (h:∃v w1,(execOp a.eval o).run P w=.ok (.value v) w1/\wpList P ah Q rest (a.put o.dst v) w1):wpList P ah Q (o::rest) a w:=by
 obtain ⟨v,w1,h1,h2⟩:=h;refine wpList_plain hg fun K hK=>?_;unfold Oper.wp;rw[h1];exact hK _ _ h2
end
def lyC (d s:Nat):Array Value:=#[.int .i64 d,.int .i64 s,.int .i64 0,.bool false]
def lyOk (d s:Nat):Prop:=2<=d/\d<=8/\(s=2\/s=4)
theorem w_B (w:World) (hL:Lay w) (d s:Nat) (h:lyOk d s) :
  Cl 58 #[.agg (lyC d s)] w fun e w'=>e=.returned (.bool true)/\Kp NoB w w':=by
 obtain ⟨iD,db,hs⟩:=h;have li:=hL.no ((Kp.refl NoB w).alloc (.cells (lyC d s) 84));obtain ⟨ts,fs,hz⟩:=li.sizes
 have hC:=fun W (hW:W.heap[0]?=some (.cells #[.int .i64 2,.int .i64 4,.int .i64 8,.int .i64 16] ts fs))=>Tryz.slices_Contains_int 0 0 4 4 [2,4,8,16] (s:Int) W (by decide) (by decide) (fun j hj=>by
  rw[q_D,cell_of_row _ _ _ _ _ _ hW]
  match j,hj with
  | 0,_=>rfl
  | 1,_=>rfl
  | 2,_=>rfl
  | 3,_=>rfl)
 have bm:(List.take 4 [(2:Int),4,8,16]).contains (s:Int)=true:=by rcases hs with rfl|rfl<;>decide
 rw[bm] at hC;have HC:=Zz hC;have HB:=Zz (Blk.new w 84 (lyC d s));have HK:=Zz ((Kp.refl NoB w).alloc (.cells (lyC d s) 84));have lX:=Zz hz
 have hsp:0<s:=by omega
 have Wi:(2:Int)<=(d:Int):=by omega
 have Wj:(d:Int)<=8:=by omega
 clear hL li hz hC bm hs;change Cl 58 #[.agg #[.int .i64 d,.int .i64 s,.int .i64 0,.bool false]] w _;go_enter func58,ntmps58
 go_upto_region 2 with fail
 change Code.wp _ _ _ _ (w.alloc (.cells (lyC d s) 84));generalize aN:w.alloc (.cells (lyC d s) 84)=w1 at *;clear aN;generalize w.heap.size=G at *;have c0:=HB.o.c0;have c1:=HB.o.c1;have c2:=HB.o.c2;have c3:=HB.o.c3
 go_upto_region 4 with fail
 go_quiet (first|(go_at_call 99;refine Calls.quiet_of_same (HC.o _ lX.o)))
 go_wp2;go_ret;exact ⟨rfl,HK.o.drewN _⟩
theorem lyblocks_any (w:World) (hL:Lay w) (d s:Nat) (h:lyOk d s) :
  Cl 43 #[.agg (lyC d s)] w fun e w'=>e=.returned (.int .i64 (s*d:Nat))/\Kp NoB w w':=by
 have HG:=Zz (fun W (hW:Lay W)=>w_B W hW d s h);have Dp:=Zz h;have HB:=Zz (Blk.new w 84 (lyC d s));have HK:=Zz ((Kp.refl NoB w).alloc (.cells (lyC d s) 84));have HL:=Zz (hL.no HK.o);obtain ⟨iD,db,hs⟩:=h
 have hsp:0<s:=by omega
 have jw:s<=4:=by omega
 clear hL hs;change Cl 43 #[.agg #[.int .i64 d,.int .i64 s,.int .i64 0,.bool false]] w _
 have hm:IntKind.i64.wrap ((s:Int)*(d:Int))=((s*d:Nat):Int):=by
  rw[q_r,<-Int.natCast_mul];have:s*d<=4*8:=Nat.mul_le_mul jw db;omega
 generalize s*d=m at *;go_enter func43,ntmps43
 go_upto_region 1 with fail
 change Code.wp _ _ _ _ (w.alloc (.cells (lyC d s) 84));generalize aN:w.alloc (.cells (lyC d s) 84)=w1 at *;clear aN;generalize w.heap.size=G at *;have c0:=HB.o.c0;have c1:=HB.o.c1;have c2:=HB.o.c2;have c3:=HB.o.c3;go_wp2_with fail;refine (HG.o _ HL.o).mono ?_;rintro e w2 ⟨rfl,ag⟩;have ak:=Zz (HB.o.kp ag fun h=>h);have al:=Zz (HK.o.trans ag);have lv:=Zz (HL.o.no ag);clear ag c0 c1 c2 c3 HB HK HL;have c0:=ak.o.c0;have c1:=ak.o.c1;have c2:=ak.o.c2;have c3:=ak.o.c3;go_wp2;go_ret;exact ⟨rfl,al.o⟩
theorem v_9 (w:World) (hL:Lay w) (d s:Nat) (h:lyOk d s) (t:Nat) (ht:t<s) :
  Cl 62 #[.agg (lyC d s),.int .i64 t] w fun e w'=>e=.returned (.int .i64 d)/\Kp NoB w w':=by
 have HG:=Zz (fun W (hW:Lay W)=>w_B W hW d s h);have Dp:=Zz h;have HB:=Zz (Blk.new w 84 (lyC d s));have HK:=Zz ((Kp.refl NoB w).alloc (.cells (lyC d s) 84));have HL:=Zz (hL.no HK.o);obtain ⟨iD,db,hs⟩:=h
 have hsp:0<s:=by omega
 have jw:s<=4:=by omega
 clear hL hs;change Cl 62 #[.agg #[.int .i64 d,.int .i64 s,.int .i64 0,.bool false],.int .i64 t] w _
 have Bf:¬((s:Int)<=(t:Int)):=by omega
 have uY:¬((t:Int)<0):=by omega
 go_enter func62,ntmps62
 go_upto_region 1 with fail
 change Code.wp _ _ _ _ (w.alloc (.cells (lyC d s) 84));generalize aN:w.alloc (.cells (lyC d s) 84)=w1 at *;clear aN;generalize w.heap.size=G at *;have c0:=HB.o.c0;have c1:=HB.o.c1;have c2:=HB.o.c2;have c3:=HB.o.c3;go_wp2_with fail;refine (HG.o _ HL.o).mono ?_;rintro e w2 ⟨rfl,ag⟩;have ak:=Zz (HB.o.kp ag fun h=>h);have al:=Zz (HK.o.trans ag);have lv:=Zz (HL.o.no ag);clear ag c0 c1 c2 c3 HB HK HL;have c0:=ak.o.c0;have c1:=ak.o.c1;have c2:=ak.o.c2;have c3:=ak.o.c3;go_wp2;go_ret;exact ⟨rfl,al.o⟩
theorem v_5 (w:World) (hL:Lay w) (d s:Nat) (h:lyOk d s) (b:Nat) (hb:b<s*d) :
  Cl 35 #[.agg (lyC d s),.int .i64 b] w fun e w'=>e=.returned (.tuple #[.int .i64 (b / d:Nat),.int .i64 (b % d:Nat),.int .i64 0])/\Kp NoB w w':=by
 have HG:=Zz (fun W (hW:Lay W)=>w_B W hW d s h);have Dp:=Zz h;have HB:=Zz (Blk.new w 84 (lyC d s));have HK:=Zz ((Kp.refl NoB w).alloc (.cells (lyC d s) 84));have HL:=Zz (hL.no HK.o);obtain ⟨iD,db,hs⟩:=h
 have hsp:0<s:=by omega
 have jw:s<=4:=by omega
 clear hL hs;change Cl 35 #[.agg #[.int .i64 d,.int .i64 s,.int .i64 0,.bool false],.int .i64 b] w _;have xK:s*d<=4*8:=Nat.mul_le_mul jw db;have dE:=Zz (fun W (hW:Lay W)=>lyblocks_any W hW d s Dp.o)
 have Bf:¬(((s*d:Nat):Int)<=(b:Int)):=by omega
 have uY:¬((b:Int)<0):=by omega
 have hq:((b:Int)).tdiv (d:Int)=((b / d:Nat):Int):=by rw[Int.tdiv_eq_ediv_of_nonneg (by omega)];rfl
 have hr:((b:Int)).tmod (d:Int)=((b % d:Nat):Int):=by rw[Int.tmod_eq_emod_of_nonneg (by omega)];rfl
 have pX:¬((d:Int)=0):=by omega
 have Lt:¬(d=0):=by omega
 have iE:¬((d:Int)=-1):=by omega
 have hqb:=Nat.div_le_self b d;have hrb:=Nat.mod_le b d;generalize b / d=q at *;generalize b % d=r at *
 have jt:IntKind.i64.wrap (q:Int)=(q:Int):=by rw[q_r];omega
 have kV:IntKind.i64.wrap (r:Int)=(r:Int):=by rw[q_r];omega
 generalize s*d=m at *;go_enter func35,ntmps35
 go_upto_region 1 with fail
 change Code.wp _ _ _ _ (w.alloc (.cells (lyC d s) 84));generalize aN:w.alloc (.cells (lyC d s) 84)=w1 at *;clear aN;generalize w.heap.size=G at *;have c0:=HB.o.c0;have c1:=HB.o.c1;have c2:=HB.o.c2;have c3:=HB.o.c3;go_wp2_with fail;refine (HG.o _ HL.o).mono ?_;rintro e w2 ⟨rfl,ag⟩;have ak:=Zz (HB.o.kp ag fun h=>h);have al:=Zz (HK.o.trans ag);have lv:=Zz (HL.o.no ag);clear ag c0 c1 c2 c3 HB HK HL;have c0:=ak.o.c0;have c1:=ak.o.c1;have c2:=ak.o.c2;have c3:=ak.o.c3;go_wp2_with fail;refine (dE.o _ lv.o).mono ?_;rintro e w3 ⟨rfl,au⟩;have aJ:=Zz (ak.o.kp au fun h=>h);have ar:=Zz (al.o.trans au);clear au c0 c1 c2 c3 ak al lv;have c0:=aJ.o.c0;have c1:=aJ.o.c1;have c2:=aJ.o.c2;have c3:=aJ.o.c3;have d0:w3.drew.cell? ⟨G,0,none⟩=some (.int .i64 d):=c0
 go_upto_region 7 with fail
 go_quiet (fail)
 go_wp2
 go_ret3
 exact ⟨rfl,ar.o.drewN _⟩
theorem lyseat_any (w:World) (hL:Lay w) (d s:Nat) (h:lyOk d s) (t c:Nat) (ht:t<s) (hc:c<d+2) :
  Cl 63 #[.agg (lyC d s),.int .i64 t,.int .i64 c] w fun e w'=>e=.returned (.tuple #[.int .i64 ((c+t) % (d+2):Nat),.int .i64 0])/\Kp NoB w w':=by
 have HG:=Zz (fun W (hW:Lay W)=>w_B W hW d s h);have Dp:=Zz h;have HB:=Zz (Blk.new w 84 (lyC d s));have HK:=Zz ((Kp.refl NoB w).alloc (.cells (lyC d s) 84));have HL:=Zz (hL.no HK.o);obtain ⟨iD,db,hs⟩:=h
 have hsp:0<s:=by omega
 have jw:s<=4:=by omega
 clear hL hs;change Cl 63 #[.agg #[.int .i64 d,.int .i64 s,.int .i64 0,.bool false],.int .i64 t,.int .i64 c] w _;have dE:=Zz (fun W (hW:Lay W)=>v_9 W hW d s Dp.o t ht)
 have pX:¬((d:Int)=0):=by omega
 have Lt:¬(d=0):=by omega
 have aK:¬((c:Int)<0):=by omega
 have bf:¬((d:Int)+2<=(c:Int)):=by omega
 have hr:((c:Int)+(t:Int)).tmod ((d:Int)+2)=(((c+t) % (d+2):Nat):Int):=by rw[Int.tmod_eq_emod_of_nonneg (by omega)];rfl
 have Wk:¬((d:Int)+2=0):=by omega
 have ay:((d:Int)==0)=false:=by rw[q_o];omega
 have am:decide ((c:Int)<0)=false:=q_v aK;have bW:decide ((d:Int)+2<=(c:Int))=false:=q_v bf;generalize (c+t) % (d+2)=r at *;go_enter func63,ntmps63
 go_upto_region 1 with fail
 change Code.wp _ _ _ _ (w.alloc (.cells (lyC d s) 84));generalize aN:w.alloc (.cells (lyC d s) 84)=w1 at *;clear aN;generalize w.heap.size=G at *;have c0:=HB.o.c0;have c1:=HB.o.c1;have c2:=HB.o.c2;have c3:=HB.o.c3;go_wp2_with fail;refine (HG.o _ HL.o).mono ?_;rintro e w2 ⟨rfl,ag⟩;have ak:=Zz (HB.o.kp ag fun h=>h);have al:=Zz (HK.o.trans ag);have lv:=Zz (HL.o.no ag);clear ag c0 c1 c2 c3 HB HK HL;have c0:=ak.o.c0;have c1:=ak.o.c1;have c2:=ak.o.c2;have c3:=ak.o.c3;go_wp2_with fail;refine (dE.o _ lv.o).mono ?_;rintro e w3 ⟨rfl,au⟩;have aJ:=Zz (ak.o.kp au fun h=>h);have ar:=Zz (al.o.trans au);clear au c0 c1 c2 c3 ak al lv;have c0:=aJ.o.c0;have c1:=aJ.o.c1;have c2:=aJ.o.c2;have c3:=aJ.o.c3;go_wp2;go_ret2;exact ⟨rfl,ar.o⟩
section
variable {P:Program} {ah:Array Oper} {rest:List Oper} {o:Oper} {a:Act} {Q:Exit->Act->World->Prop}
theorem y_v {W:World} (base:Nat) (rI:o.guard=none) (s x:Operand) (t e:TypeId) (z:Value) (size bytes:Nat)
  (ho:o.op=.call { callee:=.builtin .append,args:=#[s,x],argTypes:=#[t,t] })
  (ht:P.underlying t=some (.slice e)) (b5:(P.info? e).map (fun i=>(i.zero,i.size,i.bytes))=some (some z,size,bytes)) (hz:z.cells.size=size) (aj:0<size) (iy:0<bytes)
  (v:Value) (k:Nat) (xs ys:List Value) (Iy:ys.length=size) (hs:a.eval s=v) (hx:a.eval x=.slice (some ⟨W.heap.size,0,none⟩) 1 1) (h1:∀u∈ys,u.oneCell'=true)
  (HO:W.ownsRow base e size v k xs) (aP:base<=W.heap.size) (hl:(k+1)*bytes<=140737488355328)
  (h:∀v1 w1,w1.ownsRow base e size v1 (k+1) (xs++ys)->W.grownBy w1 v.ownBlock->(v1.ownBlock=v.ownBlock\/∃b,v1.ownBlock=some b/\W.heap.size<=b)->wpList P ah Q rest (a.put o.dst v1) w1) :
  wpList P ah Q (o::rest) a (W.alloc (.cells ys.toArray e)):=by
 obtain ⟨i0,hi,dB,dv,cX⟩:=info_parts b5;have aq:k+1<=140737488355328:=q_g (Nat.le_mul_of_pos_right _ iy) hl
 refine wpList_append_own_at (W.alloc (.cells ys.toArray e)) rI s x t ho base e i0 z size bytes ht hi dB dv cX hz aj v k xs hs (World.ownsRow.alloc HO _) ⟨W.heap.size,0,none⟩ 1 1 ys hx (by rw[Iy,Nat.one_mul])
  (fun j u hu=>by rw[y_M,q_D,cell_of_row _ _ _ _ _ _ (heap_alloc_new W _)];simpa using hu) h1 (by simp only[maxLen];omega) hl (by simp;omega) ?_
 intro v1 w1 bD hg _ br;refine h v1 w1 bD (z_ad (World.grownBy_alloc W _ _) hg) ?_;rcases br with br|br
 ·exact .inl br
 ·exact .inr ⟨_,br,by simp⟩
end
def Gr (w:World) (F F':Nat->Prop):Prop:=∀q,q<w.heap.size->F' q->F q
section
variable {w w' w'':World} {F F' F'':Nat->Prop}
theorem Gr.refl (w:World) (F:Nat->Prop):Gr w F F:=fun _ _ h=>h
theorem Gr.then (h:Gr w F F') (k:Gr w' F' F'') (hs:w.heap.size<=w'.heap.size):Gr w F F'':=fun q hq hf=>h q hq (k q (q_f hq hs) hf)
theorem Gr.no (h:Gr w F F') {g:Nat} (hg:g<w.heap.size) (hn:¬F g):¬F' g:=fun hf=>hn (h g hg hf)
theorem kpG (h:Kp F w w') (g:Gr w F F') (k:Kp F' w' w''):Kp F w w'':=h.then k fun q hq hf=>g q hq hf
theorem Blk.ne_ {w:World} {g g' t t':Nat} {cs cs':Array Value} (h:Blk w g t cs) (h':Blk w g' t' cs') (aA:t≠t'):g≠g':=by
 rintro rfl;unfold Blk at h h';rw[h] at h';injection h' with h';injection h' with _ ht;exact aA ht
theorem z_u {w:World} {base e size n:Nat} {v:Value} {xs:List Value} (h:w.ownsRow base e size v n xs) {q:Nat} (hq:v.ownBlock=some q):base<=q/\q<w.heap.size:=World.ownsRow.lt h q hq
theorem z_s {w:World} {base e size n g t:Nat} {v:Value} {xs:List Value} {cs:Array Value} (h:w.ownsRow base e size v n xs) (hb:Blk w g t cs) (aA:e≠t):v.ownBlock≠some g:=by
 intro hq;rcases h.2 with ⟨rfl,_⟩|⟨g',av,aQ,rfl,_,hh,_⟩
 ·cases hq
 ·have:g'=g:=by simpa[Value.ownBlock] using hq
  subst this;unfold Blk at hb;rw[hh] at hb;injection hb with hb;injection hb with _ ht;exact aA ht
end
structure DkS where
 dead:Bool
 now:List ByteArray
 last:List ByteArray
 wait:Nat
structure Dk (w:World) (d:Nat) (σ:DkS) (F:Nat->Prop):Prop where
 ex:∃la na vw xs,Blk w d 136 #[.slice (some ⟨la,0,none⟩) 140 140,.slice (some ⟨na,0,none⟩) 140 140,vw,.bool σ.dead]/\Blk w la 9 (sv σ.last).toArray/\Blk w na 9 (sv σ.now).toArray/\la≠na /\
  w.ownsRow 10 242 2 vw σ.wait xs/\10<=d/\10<=la/\10<=na/\∀q,F q↔(q=d\/q=la\/q=na\/vw.ownBlock=some q)
 hn:σ.now.length=140
 hl:σ.last.length=140
section
variable {w w':World} {d:Nat} {σ:DkS} {F S:Nat->Prop}
theorem Dk.lt (h:Dk w d σ F) {q:Nat} (hq:F q):10<=q/\q<w.heap.size:=by
 obtain ⟨la,na,vw,xs,h1,h2,h3,h4,h5,h6,h7,h8,h9⟩:=h.ex;rcases (h9 q).1 hq with rfl|rfl|rfl|hq
 ·exact ⟨h6,h1.lt⟩
 ·exact ⟨h7,h2.lt⟩
 ·exact ⟨h8,h3.lt⟩
 ·exact z_u h5 hq
theorem Dk.own (h:Dk w d σ F):F d:=by
 obtain ⟨la,na,vw,xs,h1,h2,h3,h4,h5,h6,h7,h8,h9⟩:=h.ex;exact (h9 d).2 (.inl rfl)
theorem Dk.kp (h:Dk w d σ F) (k:Kp S w w') (hS:∀q,S q->¬F q):Dk w' d σ F:=by
 obtain ⟨⟨la,na,vw,xs,h1,h2,h3,h4,h5,h6,h7,h8,h9⟩,hn,hl⟩:=h;refine ⟨⟨la,na,vw,xs,h1.kp k fun hs=>hS _ hs ((h9 _).2 (.inl rfl)),h2.kp k fun hs=>hS _ hs ((h9 _).2 (.inr (.inl rfl))),h3.kp k fun hs=>hS _ hs ((h9 _).2 (.inr (.inr (.inl rfl)))),h4,z_e h5 k fun q hq hs=>hS _ hs ((h9 _).2 (.inr (.inr (.inr hq)))),h6,h7,h8,h9⟩,hn,hl⟩
end
theorem mk_txt (m:Nat) (hm:m<=1000):∀W:World,(Instr.makeSlice 38 (.int .i64 m) (.int .i64 m)).run prog W=.ok (.slice (some ⟨W.heap.size,0,none⟩) m m) (W.alloc (.cells (madeCells #[.string ⟨#[]⟩] m) 9)):=by
 intro W
 have hi:(prog.info? 9).map (fun i=>(i.zero,i.size,i.bytes))=some (some (.string ⟨#[]⟩),1,16):=by kernel_rfl
 exact run_make_row' 38 9 (.string ⟨#[]⟩) 16 underlying38 hi rfl .i64 .i64 m (by omega) (by omega) W
theorem made_txt (m:Nat):madeCells #[.string ⟨#[]⟩] m=(sv (List.replicate m ByteArray.empty)).toArray:=by
 have:(madeCells #[Value.string ⟨#[]⟩] m).toList=sv (List.replicate m ByteArray.empty):=by rw[toList_madeCells_one];simp only[sv,List.map_replicate];rfl
 rw[<-this]
theorem dknew_any (w:World) (hw:10<=w.heap.size) :
  Cl 91 #[.int .i64 140] w fun e w'=>∃d F,e=.returned (.pointer (some ⟨d,0,none⟩))/\Dk w' d ⟨false,List.replicate 140 ByteArray.empty,List.replicate 140 ByteArray.empty,0⟩ F/\(∀q,F q->w.heap.size<=q)/\Kp NoB w w':=by
 have bK:=mk_txt 140 (by decide)
 have rL:Hid (∀W:World,(Instr.makeSlice 38 (.int .i64 140) (.int .i64 140)).run prog W=.ok (.slice (some ⟨W.heap.size,0,none⟩) 140 140) (W.alloc (.cells (sv (List.replicate 140 ByteArray.empty)).toArray 9))):=Zz fun W=>by
  rw[<-made_txt];exact bK W
 have QW:Hid ((List.replicate 140 ByteArray.empty).length=140):=Zz (by simp);clear bK;generalize List.replicate 140 ByteArray.empty=E at *
 have bS:Hid (∀(W:World) (la na d:Nat),w.heap.size<=la->w.heap.size<=na->w.heap.size<=d->la≠na->Blk W d 136 #[.slice (some ⟨la,0,none⟩) 140 140,.slice (some ⟨na,0,none⟩) 140 140,.slice none 0 0,.bool false]->Blk W la 9 (sv E).toArray->Blk W na 9 (sv E).toArray ->
   ∃F,Dk W d ⟨false,E,E,0⟩ F/\∀q,F q->w.heap.size<=q):=Zz fun W la na d h1 h2 h3 h4 h5 h6 h7 =>
  ⟨fun q=>q=d\/q=la\/q=na\/(Value.slice none 0 0).ownBlock=some q,⟨⟨la,na,_,[],h5,h6,h7,h4,World.ownsRow_nil W 10 _ 2,by omega,by omega,by omega,fun q=>Iff.rfl⟩,QW.o,QW.o⟩,fun q hq=>by
   rcases hq with rfl|rfl|rfl|hq
   ·exact h3
   ·exact h1
   ·exact h2
   ·cases hq⟩
 have bZ:=Zz (Kp.refl NoB w).drew
 have gV:min (140:Int) 512=140:=by decide
 have lu:max (1:Int) 140=140:=by decide
 go_enter func91,ntmps91
 go_upto_region 2 with fail
 have pH:w.heap.size=w.drew.heap.size:=rfl;rw[pH] at bS;refine fs ?_;generalize w.drew=w0 at *;have k1:=rL.o w0;have k2:=rL.o (w0.alloc (.cells (sv E).toArray 9));have ay:=Zz (Blk.new w0 9 (sv E).toArray);have am:=Zz (Blk.new (w0.alloc (.cells (sv E).toArray 9)) 9 (sv E).toArray)
 have dv:(w0.alloc (.cells (sv E).toArray 9)).heap.size=w0.heap.size+1:=by simp
 have cX:((w0.alloc (.cells (sv E).toArray 9)).alloc (.cells (sv E).toArray 9)).heap.size=w0.heap.size+2:=by simp
 refine fp 0 ?_;refine fp 2 ?_;refine w_4 1 3 (by kernel_rfl) ?_ ?_
 ·refine y_a 1 rfl (fun K Qx hK=>?_)
  go_simp;refine hK _ _ oN ?_;clear hK K;obtain ⟨w1,aN⟩:∃w1,w0.alloc (.cells (sv E).toArray 9)=w1:=⟨_,rfl⟩;have dR:=Zz aN;rw[aN] at k2 ay am dv cX ⊢;clear aN;refine fd 3 fun K Qx hK=>?_;go_simp;refine hK _ _ oN ?_;clear hK K;refine fp 4 ?_;refine fd 5 fun K Qx hK=>?_;go_simp;refine hK _ _ oN ?_;clear hK K;refine fp 6 ?_;refine fe ?_;have bW:=(ay.o.alloc (.cells (sv E).toArray 9)).alloc (.cells #[.slice (some ⟨w0.heap.size,0,none⟩) 140 140,.slice (some ⟨w1.heap.size,0,none⟩) 140 140,.slice none 0 0,.bool false] 136);have fH:=am.o.alloc (.cells #[.slice (some ⟨w0.heap.size,0,none⟩) 140 140,.slice (some ⟨w1.heap.size,0,none⟩) 140 140,.slice none 0 0,.bool false] 136);have ey:=Blk.new (w1.alloc (.cells (sv E).toArray 9)) 136 #[.slice (some ⟨w0.heap.size,0,none⟩) 140 140,.slice (some ⟨w1.heap.size,0,none⟩) 140 140,.slice none 0 0,.bool false];have xL:=((bZ.o.alloc (.cells (sv E).toArray 9)).alloc (.cells (sv E).toArray 9)).alloc (.cells #[.slice (some ⟨w0.heap.size,0,none⟩) 140 140,.slice (some ⟨w1.heap.size,0,none⟩) 140 140,.slice none 0 0,.bool false] 136);rw[dR.o] at xL;have HX:=Zz (bS.o _ (w0.heap.size) (w1.heap.size) _ (by omega) (by omega) (by rw[cX];omega) (by omega) ey bW fH);have ax:=Zz xL;clear bW fH ey xL;go_wp2;go_ret;obtain ⟨F,Dq,Lu⟩:=HX.o;rw[dv,cX] at Dq;have Dr:=ax.o;rw[dv] at Dr;exact ⟨_,F,rfl,Dq,by rw[pH];exact Lu,Dr⟩
 ·refine y_a 3 rfl (fun K Qx hK=>?_)
  go_simp;refine hK _ _ oN ?_;clear hK K;obtain ⟨w1,aN⟩:∃w1,w0.alloc (.cells (sv E).toArray 9)=w1:=⟨_,rfl⟩;have dR:=Zz aN;rw[aN] at k2 ay am dv cX ⊢;clear aN;refine fd 1 fun K Qx hK=>?_;go_simp;refine hK _ _ oN ?_;clear hK K;refine fp 4 ?_;refine fd 5 fun K Qx hK=>?_;go_simp;refine hK _ _ oN ?_;clear hK K;refine fp 6 ?_;refine fe ?_;have bW:=(ay.o.alloc (.cells (sv E).toArray 9)).alloc (.cells #[.slice (some ⟨w1.heap.size,0,none⟩) 140 140,.slice (some ⟨w0.heap.size,0,none⟩) 140 140,.slice none 0 0,.bool false] 136);have fH:=am.o.alloc (.cells #[.slice (some ⟨w1.heap.size,0,none⟩) 140 140,.slice (some ⟨w0.heap.size,0,none⟩) 140 140,.slice none 0 0,.bool false] 136);have ey:=Blk.new (w1.alloc (.cells (sv E).toArray 9)) 136 #[.slice (some ⟨w1.heap.size,0,none⟩) 140 140,.slice (some ⟨w0.heap.size,0,none⟩) 140 140,.slice none 0 0,.bool false];have xL:=((bZ.o.alloc (.cells (sv E).toArray 9)).alloc (.cells (sv E).toArray 9)).alloc (.cells #[.slice (some ⟨w1.heap.size,0,none⟩) 140 140,.slice (some ⟨w0.heap.size,0,none⟩) 140 140,.slice none 0 0,.bool false] 136);rw[dR.o] at xL;have HX:=Zz (bS.o _ (w1.heap.size) (w0.heap.size) _ (by omega) (by omega) (by rw[cX];omega) (by omega) ey fH bW);have ax:=Zz xL;clear bW fH ey xL;go_wp2;go_ret;obtain ⟨F,Dq,Lu⟩:=HX.o;rw[dv,cX] at Dq;have Dr:=ax.o;rw[dv] at Dr;exact ⟨_,F,rfl,Dq,by rw[pH];exact Lu,Dr⟩
theorem z_r {w:World} {base e size n:Nat} {v:Value} {xs:List Value} (h:w.ownsRow base e size v n xs):∃A c,v=.slice A n c:=by
 rcases h.2 with ⟨rfl,rfl⟩|⟨g,av,aQ,rfl,_⟩
 ·exact ⟨none,0,rfl⟩
 ·exact ⟨_,av,rfl⟩
section
variable {w:World} {d:Nat} {σ:DkS} {F:Nat->Prop}
theorem v_i (h:Dk w d σ F) (i:Nat) (hi:i<140) :
  Cl 81 #[.pointer (some ⟨d,0,none⟩),.int .i64 i] w fun e w'=>e=.returned (.int .i64 (if σ.dead then 20 else 0))/\w'=w:=by
 obtain ⟨la,na,vw,xs,h1,h2,h3,h4,h5,h6,h7,h8,h9⟩:=h.ex;have c1:=h1.c1;have c3:=h1.c3
 have af:¬((140:Int)<=(i:Int)):=by omega
 have hn:¬((i:Int)<0):=by omega
 have am:decide ((i:Int)<0)=false:=q_v hn;have bW:decide ((140:Int)<=(i:Int))=false:=q_v af;clear h h1 h2 h3 h4 h5 h6 h7 h8 h9
 cases hd:σ.dead with
 | false =>
  rw[hd] at c3;go_enter func81,ntmps81;go_wp2;go_ret
  exact ⟨rfl,rfl⟩
 | true =>
  rw[hd] at c3;go_enter func81,ntmps81;go_wp2;go_ret;exact ⟨rfl,rfl⟩
theorem dksize_any (h:Dk w d σ F) :
  Cl 129 #[.pointer (some ⟨d,0,none⟩)] w fun e w'=>e=.returned (.int .i64 140)/\w'=w:=by
 obtain ⟨la,na,vw,xs,h1,h2,h3,h4,h5,h6,h7,h8,h9⟩:=h.ex;have c1:=h1.c1;clear h h1 h2 h3 h4 h5 h6 h7 h8 h9;go_enter func129,ntmps129;go_wp2;go_ret;exact ⟨rfl,rfl⟩
theorem dkread_any (h:Dk w d σ F) (i:Nat) (hi:i<140) :
  Cl 182 #[.pointer (some ⟨d,0,none⟩),.int .i64 i] w fun e w'=>e=.returned (.tuple #[.string (if σ.dead then ByteArray.empty else tl σ.now i),.int .i64 (if σ.dead then 20 else 0)])/\w'=w:=by
 have HU:=Zz (v_i h i hi);obtain ⟨la,na,vw,xs,h1,h2,h3,h4,h5,h6,h7,h8,h9⟩:=h.ex;have c1:=h1.c1
 have hc:w.cell? ⟨na,i,none⟩=some (.string (tl σ.now i)):=by rw[h3.cell,q_p,y_y _ _ (by rw[h.hn];exact hi)]
 have bt:(i:Int)<140:=by omega
 clear h h1 h2 h3 h4 h5 h6 h7 h8 h9;generalize tl σ.now i=t at *
 cases hd:σ.dead with
 | false =>
  rw[hd] at HU;go_enter func182,ntmps182;go_wp2_with fail;refine HU.o.mono ?_;rintro e w1 ⟨rfl,rfl⟩;simp only[Bool.false_eq_true,if_false];go_wp2;go_ret2
  exact ⟨rfl,rfl⟩
 | true =>
  rw[hd] at HU;go_enter func182,ntmps182;go_wp2_with fail;refine HU.o.mono ?_;rintro e w1 ⟨rfl,rfl⟩;simp only[if_true];go_wp2;go_ret2;exact ⟨rfl,rfl⟩
def DkS.write (σ:DkS) (i:Nat) (s:ByteArray):DkS:=if σ.dead then σ else { σ with now:=σ.now.set i s,wait:=σ.wait+1 }
def DkS.flush (σ:DkS):DkS:=if σ.dead then σ else { σ with last:=σ.now,wait:=0 }
theorem infoDW:(prog.info? 242).map (fun i=>(i.zero,i.size,i.bytes))=some (some (.agg #[.int .i64 0,.string ⟨#[]⟩]),2,24):=by kernel_rfl
theorem dkwrite_any (h:Dk w d σ F) (i:Nat) (hi:i<140) (s:ByteArray) (hs:s.size<=2048) (fy:σ.wait<=100000) :
  Cl 193 #[.pointer (some ⟨d,0,none⟩),.int .i64 i,.string s] w fun e w'=>e=.returned (.int .i64 (if σ.dead then 20 else 0))/\∃F',Gr w F F'/\Dk w' d (σ.write i s) F'/\Kp F w w':=by
 have HU:=Zz (v_i h i hi);have HD:=Zz h
 cases hd:σ.dead with
 | true =>
  rw[hd] at HU
  have pY:σ.write i s=σ:=by unfold DkS.write;rw[if_pos hd]
  rw[pY];clear h;go_enter func193,ntmps193;go_wp2_with fail;refine HU.o.mono ?_;rintro e w1 ⟨rfl,rfl⟩;simp only[if_true];go_wp2;go_ret
  exact ⟨rfl,F,Gr.refl _ _,HD.o,Kp.refl _ _⟩
 | false =>
  rw[hd] at HU
  have pY:σ.write i s=⟨false,σ.now.set i s,σ.last,σ.wait+1⟩:=by simp[DkS.write,hd]
  rw[pY];obtain ⟨la,na,vw,xs,h1,h2,h3,h4,h5,h6,h7,h8,h9⟩:=h.ex;rw[hd] at h1;have HN:=Zz h.hn;have HL:=Zz h.hl;have c1:=h1.c1
  have hc:w.cell? ⟨na,i,none⟩=some (.string (tl σ.now i)):=by rw[h3.cell,q_p,y_y _ _ (by rw[h.hn];exact hi)]
  have nK:=h3.frozen i
  have bt:(i:Int)<140:=by omega
  have hsI:¬(2048<(s.size:Int)):=by omega
  have oY:=Blk.ne_ h1 h3 (by decide);have lY:=Blk.ne_ h1 h2 (by decide);have Ds:=z_s h5 h3 (by decide);have Iz:=z_s h5 h1 (by decide);have Bg:=z_s h5 h2 (by decide);have Lv:=h1.lt;have lZ:=Zz (h1.far (p:=⟨na,i,none⟩) oY (.string s));have nY:=Zz (h2.far (p:=⟨na,i,none⟩) h4 (.string s));have my:Hid (Blk (w.setCell ⟨na,i,none⟩ (.string s)) na 9 (sv (σ.now.set i s)).toArray):=Zz (by have:=h3.set_ i (.string s);rwa [q_A,v_q] at this);have oZ:Hid ((w.setCell ⟨na,i,none⟩ (.string s)).ownsRow 10 242 2 vw σ.wait xs):=Zz (z_e h5 ((Kp.refl (·=na) w).setCell ⟨na,i,none⟩ (.string s) (.inl rfl)) fun q hq he=>Ds (by rw[hq,he]));have sR:=Zz ((Kp.refl F w).setCell ⟨na,i,none⟩ (.string s) (.inl ((h9 na).2 (.inr (.inr (.inl rfl))))));have H9:=Zz h9;clear h h1 h2 h3 h5 h9;go_enter func193,ntmps193;go_wp2_with fail;refine HU.o.mono ?_;rintro e w1 ⟨rfl,rfl⟩;simp only[Bool.false_eq_true,if_false]
  go_upto_region 7 with fail
  have bS:Hid (∀(w3:World) (v1:Value),w3.ownsRow 10 242 2 v1 (σ.wait+1) (xs++[.int .i64 i,.string s])->(w1.setCell ⟨na,i,none⟩ (.string s)).grownBy w3 vw.ownBlock->(v1.ownBlock=vw.ownBlock\/∃b,v1.ownBlock=some b/\(w1.setCell ⟨na,i,none⟩ (.string s)).heap.size<=b) ->
    ∃F',Gr w1 F F'/\Dk (w3.setCell ⟨d,2,none⟩ v1) d ⟨false,σ.now.set i s,σ.last,σ.wait+1⟩ F'/\Kp F w1 (w3.setCell ⟨d,2,none⟩ v1)):=Zz fun w3 v1 hO hg br=>by
   have aj:(w1.setCell ⟨na,i,none⟩ (.string s)).heap.size=w1.heap.size:=by simp[World.setCell]
   rw[aj] at br;have xk:=nY.o.lt;have Ip:=my.o.lt;rw[aj] at xk Ip
   have hv:∀q,q<w1.heap.size->v1.ownBlock=some q->vw.ownBlock=some q:=fun q hq hv=>by
    rcases br with h|⟨b,h,hb⟩
    ·rw[<-h];exact hv
    ·rw[h] at hv
     have:b=q:=by simpa using hv
     omega
   have pZ:=sR.o.then (Kp.of_grown hg (S:=F) fun q hq=>(H9.o q).2 (.inr (.inr (.inr hq.symm)))) (fun _ _ h=>h);refine ⟨(fun q=>q=d\/q=la\/q=na\/v1.ownBlock=some q:Nat->Prop),?_,⟨⟨la,na,v1,xs++[.int .i64 i,.string s],?_,?_,?_,h4,?_,h6,h7,h8,fun _=>Iff.rfl⟩,by rw[q_k];exact HN.o,HL.o⟩,pZ.setCell _ _ (.inl ((H9.o d).2 (.inl rfl)))⟩
   ·intro q hq hf
    rcases hf with h|h|h|h
    ·exact (H9.o q).2 (.inl h)
    ·exact (H9.o q).2 (.inr (.inl h))
    ·exact (H9.o q).2 (.inr (.inr (.inl h)))
    ·exact (H9.o q).2 (.inr (.inr (.inr (hv q hq h))))
   ·have:=(lZ.o.grown hg (Ne.symm Iz)).set_ 2 v1
    exact this
   ·exact (nY.o.grown hg (Ne.symm Bg)).far (p:=⟨d,2,none⟩) (Ne.symm lY) v1
   ·exact (my.o.grown hg (Ne.symm Ds)).far (p:=⟨d,2,none⟩) (Ne.symm oY) v1
   ·exact z_e hO ((Kp.refl (·=d) w3).setCell ⟨d,2,none⟩ v1 (.inl rfl)) fun q hq he=>by
     have he:q=d:=he;subst he;exact Iz (hv q Lv hq)
  have c2:(w1.setCell ⟨na,i,none⟩ (.string s)).cell? ⟨d,2,none⟩=some vw:=lZ.o.cell 2
  have lx:10<=(w1.setCell ⟨na,i,none⟩ (.string s)).heap.size:=by have:=lZ.o.lt;omega
  have HG:=Zz (fun w3 (hg:(w1.setCell ⟨na,i,none⟩ (.string s)).grownBy w3 vw.ownBlock)=>lZ.o.grown hg (Ne.symm Iz))
  have bP:∀u∈[Value.int .i64 i,.string s],u.oneCell'=true:=by
   intro u hu;rcases List.mem_cons.1 hu with rfl|hu
   ·rfl
   ·rcases List.mem_cons.1 hu with rfl|hu
    ·rfl
    ·cases hu
  have b9:=Zz bP;have Lw:=Zz oZ.o;clear c1 hc nK bP lZ nY my sR oZ;generalize w1.setCell ⟨na,i,none⟩ (.string s)=w2 at *
  go_wp2_with (at_builtin;refine y_v 10 rfl (.tmp 28) (.tmp 32) 134 242 (.agg #[.int .i64 0,.string ⟨#[]⟩]) 2 24 rfl underlying134 infoDW rfl (by decide) (by decide) vw σ.wait xs [.int .i64 i,.string s] rfl rfl rfl b9.o Lw.o lx (by omega) ?_;intro v1 w3 o5 eW Dt;obtain ⟨A3,c3,rfl⟩:=z_r o5;have bW:=HG.o w3 eW;have d2:=bW.cell 2;have f2:=bW.frozen 2;have HX:=Zz (bS.o w3 _ o5 eW Dt);clear o5 eW Dt bW)
  go_wp2;go_ret;exact ⟨rfl,HX.o⟩
theorem dkflush_any (h:Dk w d σ F) :
  Cl 194 #[.pointer (some ⟨d,0,none⟩)] w fun e w'=>e=.returned (.int .i64 (if σ.dead then 20 else 0))/\∃F',Gr w F F'/\Dk w' d σ.flush F'/\Kp F w w':=by
 have HU:=Zz (v_i h 0 (by decide));have HD:=Zz h
 cases hd:σ.dead with
 | true =>
  rw[hd] at HU
  have pY:σ.flush=σ:=by unfold DkS.flush;rw[if_pos hd]
  rw[pY];clear h;go_enter func194,ntmps194;go_wp2_with fail;refine HU.o.mono ?_;rintro e w1 ⟨rfl,rfl⟩;simp only[if_true];go_wp2;go_ret
  exact ⟨rfl,F,Gr.refl _ _,HD.o,Kp.refl _ _⟩
 | false =>
  rw[hd] at HU
  have pY:σ.flush=⟨false,σ.now,σ.now,0⟩:=by simp[DkS.flush,hd]
  rw[pY];obtain ⟨la,na,vw,xs,h1,h2,h3,h4,h5,h6,h7,h8,h9⟩:=h.ex;rw[hd] at h1;have HN:=Zz h.hn;have HL:=Zz h.hl;have oY:=Blk.ne_ h1 h3 (by decide);have lY:=Blk.ne_ h1 h2 (by decide);have Ds:=z_s h5 h3 (by decide);have Iz:=z_s h5 h1 (by decide);have Bg:=z_s h5 h2 (by decide)
  have eP:(sv σ.last).toArray.size=140:=by rw[q_y,z_c,h.hl]
  have fc:(sv σ.now).length=140:=by rw[z_c,h.hn]
  have bH:z_g w.drew (.slice (some ⟨na,0,none⟩) 140 140) (sv σ.now):=by
   refine ⟨some ⟨na,0,none⟩,140,by rw[fc],by rw[fc];decide,by decide,fun _=>⟨na,0,rfl,fun j hj=>?_⟩⟩;rw[q_D];exact (h3.cell j).trans (by rw[q_p])
  have dc:=Zz bH
  have sS:Hid (∀u∈sv σ.now,u.oneCell'=true):=Zz fun u hu=>by
   obtain ⟨x,_,rfl⟩:=List.mem_map.1 hu;rfl
  have lZ:=Zz h1.drew;have nY:=Zz h2.drew;have rR:Hid ((List.take 0 (sv σ.last).toArray.toList++sv σ.now++List.drop (0+(sv σ.now).length) (sv σ.last).toArray.toList).toArray=(sv σ.now).toArray):=Zz (by rw[fc,List.drop_eq_nil_of_le (by rw[<-Array.length_toList] at eP;omega)];simp)
  have bS:Hid (∀w5:World,w5=(w.drew.setRow la (sv σ.now).toArray).setCell ⟨d,2,none⟩ (.slice none 0 0)->∃F',Gr w F F'/\Dk w5 d ⟨false,σ.now,σ.now,0⟩ F'/\Kp F w w5):=Zz fun w5 e=>by
   subst e;refine ⟨(fun q=>q=d\/q=la\/q=na\/(Value.slice none 0 0).ownBlock=some q:Nat->Prop),?_,⟨⟨la,na,.slice none 0 0,[],?_,?_,?_,h4,World.ownsRow_nil _ 10 _ 2,h6,h7,h8,fun _=>Iff.rfl⟩,HN.o,HN.o⟩,((Kp.refl F w).drew.setRow la _ (.inl ((h9 la).2 (.inr (.inl rfl))))).setCell _ _ (.inl ((h9 d).2 (.inl rfl)))⟩
   ·intro q hq hf
    rcases hf with h|h|h|h
    ·exact (h9 q).2 (.inl h)
    ·exact (h9 q).2 (.inr (.inl h))
    ·exact (h9 q).2 (.inr (.inr (.inl h)))
    ·cases h
   ·exact (h1.drew.farRow (cs':=(sv σ.now).toArray) lY).set_ 2 (.slice none 0 0)
   ·exact (h2.drew.setRow (cs':=(sv σ.now).toArray)).far (p:=⟨d,2,none⟩) (Ne.symm lY) _
   ·exact (h3.drew.farRow (cs':=(sv σ.now).toArray) (Ne.symm h4)).far (p:=⟨d,2,none⟩) (Ne.symm oY) _
  clear h h1 h2 h3 h5 h9 bH;go_enter func194,ntmps194;go_wp2_with fail;refine HU.o.mono ?_;rintro e w1 ⟨rfl,rfl⟩;simp only[Bool.false_eq_true,if_false]
  go_upto_region 4 with fail
  refine fs ?_;generalize w1.drew=w2 at *;have c0:=lZ.o.c0;have c1:=lZ.o.c1;refine fp 0 ?_;refine fp 1 ?_;refine fp 2 ?_;refine f_c 3 c0 ?_;refine fp 4 ?_;refine fp 5 ?_;refine fp 6 ?_;refine f_c 7 c1 ?_;refine y_L 8 rfl rfl (by kernel_rfl) ?_;refine ex_copy rfl underlying38 (by kernel_rfl) rfl (by rw[<-fc];rfl) nY.o dc.o (by rw[fc];decide) (by rw[fc];decide) (by rw[fc,eP];decide) sS.o ?_;rw[rR.o];refine ⟨oW (oW oN),?_⟩;have Lx:=lZ.o.farRow (g:=la) (cs':=(sv σ.now).toArray) lY;refine fe ?_;have f2:=Lx.frozen 2;have d2:=Lx.cell 2;clear c0 c1 Lx;generalize w2.setRow la (sv σ.now).toArray=w3 at *;go_wp2;go_ret;exact ⟨rfl,bS.o _ rfl⟩
def DkS.fail (σ:DkS):DkS:=⟨true,σ.now,σ.last,0⟩
theorem dkfail_any (h:Dk w d σ F) :
  Cl 32 #[.pointer (some ⟨d,0,none⟩)] w fun e w'=>e=.returned (.tuple #[])/\∃F',Gr w F F'/\Dk w' d σ.fail F'/\Kp F w w':=by
 obtain ⟨la,na,vw,xs,h1,h2,h3,h4,h5,h6,h7,h8,h9⟩:=h.ex;have HN:=Zz h.hn;have HL:=Zz h.hl;have oY:=Blk.ne_ h1 h3 (by decide);have lY:=Blk.ne_ h1 h2 (by decide)
 have bS:Hid (∃F',Gr w F F'/\Dk ((w.setCell ⟨d,3,none⟩ (.bool true)).setCell ⟨d,2,none⟩ (.slice none 0 0)) d σ.fail F'/\Kp F w ((w.setCell ⟨d,3,none⟩ (.bool true)).setCell ⟨d,2,none⟩ (.slice none 0 0))):=Zz (by
  refine ⟨(fun q=>q=d\/q=la\/q=na\/(Value.slice none 0 0).ownBlock=some q:Nat->Prop),?_,⟨⟨la,na,.slice none 0 0,[],?_,?_,?_,h4,World.ownsRow_nil _ 10 _ 2,h6,h7,h8,fun _=>Iff.rfl⟩,HN.o,HL.o⟩,((Kp.refl F w).setCell _ _ (.inl ((h9 d).2 (.inl rfl)))).setCell _ _ (.inl ((h9 d).2 (.inl rfl)))⟩
  ·intro q hq hf
   rcases hf with h|h|h|h
   ·exact (h9 q).2 (.inl h)
   ·exact (h9 q).2 (.inr (.inl h))
   ·exact (h9 q).2 (.inr (.inr (.inl h)))
   ·cases h
  ·exact (h1.set_ 3 (.bool true)).set_ 2 (.slice none 0 0)
  ·exact (h2.far (p:=⟨d,3,none⟩) (Ne.symm lY) _).far (p:=⟨d,2,none⟩) (Ne.symm lY) _
  ·exact (h3.far (p:=⟨d,3,none⟩) (Ne.symm oY) _).far (p:=⟨d,2,none⟩) (Ne.symm oY) _)
 have c2:=h1.cell 2;have c3:=h1.cell 3;have f2:=h1.frozen 2;have f3:=h1.frozen 3;clear h h1 h2 h3 h5 h9;go_enter func32,ntmps32;go_wp2
 go_end0
 exact ⟨rfl,bS.o⟩
end
end Go.Proofs.YtdkheklakfbeeaaGreatDoor
