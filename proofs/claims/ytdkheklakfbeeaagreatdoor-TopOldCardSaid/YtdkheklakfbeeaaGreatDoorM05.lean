/- Part 5 of the proof. -/
import Derived.Laws.CopyOwn
import Derived.Deep.MidRow
import Derived.Deep.WholeRow
import Derived.BigQuiet
import Derived.Test.YtdkheklakfbeeaaGreatDoorM04
set_option linter.all false
set_option maxRecDepth 100000
set_option maxHeartbeats 16000000
namespace Go.Proofs.YtdkheklakfbeeaaGreatDoor
open Go.RowKit Tryz
variable {F:Nat->Prop}{P:Program}{a:Act}{ah:Array Oper}{base d e g i n q size t:Nat}{cs:Array Value}{o:Oper}{ty:TypeId}{v:Value}{w w':W_}{xs:List Value}
section
variable {R:Act->W_->Prop} {H:l7} {fuel:Nat} {listed:Array Bool} 
def Dj (i:Nat) (m:ah[i]?=some o) (hg:o.guard=none) (n:Region.ready .any ah listed=[i])
  (h:∃v e,(execOp a.eval o).run P w=.ok (.value v) e/\(l0 .any ah H i w e/\Fr P ah R H fuel (listed.setIfInBounds i true) (a.put o.dst v) e)):Fr P ah R H (fuel+1) listed a w:=by
 obtain ⟨v,e,g,j,k⟩:=h;refine Md i m n fun K p l=>?_;rw[if_pos (by unfold Region.wanted;rw[hg])];unfold Oper.wp;rw[g];exact l _ _ j k
end
section
variable {ρ:Operand->Value} 
def x_2 {s x:Operand} {t e:TypeId} {z:Value} {bytes m c:Nat} {A:Option Addr} {ys:List Value} {R:Value->W_->Prop} (h:o.op=.call { callee:=.builtin .append,args:=#[s,x],argTypes:=#[t,t] })
  (M:P.underlying t=some (.slice e)) (r:(P.info? e).map (fun i=>(i.zero,i.size,i.bytes))=some (some z,1,bytes)) (hz:z.cells.size=1) (T:0<bytes)
  (hs:ρ s=v) (N:ρ x=.slice A m c) (f:∀u∈ys,u.oneCell'=true) (n:aH w base e v xs) (O:b_ w (.slice A m c) ys) (S:0<ys.length) (p:base<=w.heap.size) (hl:(xs.length+ys.length)*bytes<=140737488355328)
  (hR:∀k g,aH g base e k (xs++ys)->w.grownBy g v.ownBlock->R k g):∃k g,(execOp ρ o).run P w=.ok (.value k) g/\R k g:=by
 obtain ⟨Q,I,a,y,d⟩:=info_parts r;have X:xs.length+ys.length<=140737488355328:=cL (Nat.le_mul_of_pos_right _ T) hl;obtain ⟨A',Z,G,W,Y,q⟩:=O;cases G;obtain ⟨b,off,rfl,V⟩:=q S
 obtain ⟨k,g,U,E,hg,_⟩:=run_append_own_at (P:=P) w base t o.type e Q z 1 bytes M I a y d hz o_ v xs.length xs n ⟨b,off,none⟩ ys.length c ys s_
  (fun j u l=>by
   have J:j<ys.length:=(AP.1 l).1
   rw[SN];exact (V j J).trans l) f (by simp only[maxLen];omega) hl p
 refine ⟨k,g,?_,hR k g (by unfold aH;simpa using E) hg⟩;unfold execOp;simp only[h,resolve,invoke,builtin,Sem.run_bind,Sem.run_pure,Result.andThen_ok,List.map_toArray,List.map_cons,List.map_nil,hs,N,U]
def jS {d s:Operand} {k l elem:TypeId} {off dLen dCap sLen sCap:Nat} {A:Option Addr} {e:Array Value} {t:TypeId} {ys:List Value} {R:Value->W_->Prop}
  (h:o.op=.call { callee:=.builtin .copy,args:=#[d,s],argTypes:=#[k,l] }) (i:P.underlying k=some (.slice elem)) (q:(P.info? elem).map (·.size)=some 1)
  (x:ρ d=.slice (some ⟨g,off,none⟩) dLen dCap) (hs:ρ s=.slice A sLen sCap) (hg:ab w g t e) (a:b_ w (.slice A sLen sCap) ys) (f:0<ys.length) (hn:ys.length<=dLen) (c:off+ys.length<=e.size) (v:∀u∈ys,u.oneCell'=true)
  (hR:R (goInt ys.length) (w.setRow g (e.toList.take off++ys++e.toList.drop (off+ys.length)).toArray)):∃m n,(execOp ρ o).run P w=.ok (.value m) n/\R m n:=by
 obtain ⟨A',M,y,I,J,p⟩:=a;cases y;obtain ⟨b,r,rfl,G⟩:=p f
 have E:=run_copy_row (P:=P) w k l o.type elem g off dLen dCap ⟨b,r,none⟩ ys.length sCap e t ys i q hg (Nat.min_eq_left hn).symm (fun j u i=>by
   have z:j<ys.length:=(AP.1 i).1
   rw[SN];exact (G j z).trans i) c v
 refine ⟨_,_,?_,hR⟩;unfold execOp;simp only[h,resolve,invoke,builtin,Sem.run_bind,Sem.run_pure,Result.andThen_ok,List.map_toArray,List.map_cons,List.map_nil,x,hs,E]
end
section
variable {fn:Func} {tmps:Array Value} 
def ox (h:ab w g t cs):w.rangeAt g 0 cs.toList:=by
 intro j v e;rw[jm,h.cell];simpa using e
def v_3 {d:TypeDesc} (h:ab w g t cs) (j:P.underlying ty=some d) (e:d.isRow=true) (i:(P.info? ty).map (·.size)=some cs.size) :
  (loadVar ty ⟨g,0,none⟩).run P w=.ok (.agg cs) w:=by
 have:=run_loadVar_mid (P:=P) w g 0 ty cs.toList d (ox h) j e (by simpa using i);simpa using this
def rZ {d:TypeDesc} (h:ab w g t cs) (j:P.underlying ty=some d) (e:d.isRow=true) (i:(P.info? ty).map (·.size)=some cs.size) :
  (Instr.loadAt ty (.pointer (some ⟨g,0,none⟩))).run P w=.ok (.agg cs) w:=by
 have:=run_loadAt_mid (P:=P) w g 0 ty cs.toList d (ox h) j e (by simpa using i);simpa using this
def x_s {a:Tmp} {ty:Nat} {d:TypeDesc} (h:fn.results=#[.cell a ty]) (ha:tmps.getD a undef=.pointer (some ⟨g,0,none⟩)) (hg:ab w g t cs)
  (k:P.underlying ty=some d) (i:d.isRow=true) (j:(P.info? ty).map (·.size)=some cs.size):(results fn tmps).run P w=.ok (.agg cs) w:=by
 have hl:=v_3 hg k i j
 have e:tmps[a]?.getD undef=.pointer (some ⟨g,0,none⟩):=by simpa using ha
 simp[results,h,e,asAddr,Sem.run_bind,hl]
def x_X {a u:Tmp} {ty:Nat} {d:TypeDesc} (h:fn.results=#[.cell a ty,.tmp u]) (ha:tmps.getD a undef=.pointer (some ⟨g,0,none⟩)) (hg:ab w g t cs)
  (k:P.underlying ty=some d) (i:d.isRow=true) (j:(P.info? ty).map (·.size)=some cs.size):(results fn tmps).run P w=.ok (.tuple #[.agg cs,tmps.getD u undef]) w:=by
 have hl:=v_3 hg k i j
 have e:tmps[a]?.getD undef=.pointer (some ⟨g,0,none⟩):=by simpa using ha
 simp[results,h,e,asAddr,Sem.run_bind,hl]
end
section
variable {R:Act->W_->Prop} {H:l7} {fuel:Nat} {listed:Array Bool} 
def JR (i:Nat) (S:W_->Prop) (p:ah[i]?=some o) (hg:o.guard=none) (n:o.dst=some d) (l:decide (d<a.tmps.size)=true) (m:(Region.noSelect ah && (Region.ready .any ah listed).contains i && Region.free .any ah listed i)=true) (k:S w)
  (q:∀W,S W->(execOp a.eval o).run P W=.ok (.value v) W) (h:Fr P ah R ((i,S)::H) fuel (listed.setIfInBounds i true) (a.put o.dst v) w):Fr P ah R H (fuel+1) listed a w:=by
 refine w_h i S p n l m k fun K e=>?_;rw[if_pos (by unfold Region.wanted;rw[hg])]
 have j:∀W,S W->∀K:Act->Prop,K (a.put o.dst v)->o.still P a W K:=fun W g K e=>by
  unfold Oper.still;rw[q W g];exact ⟨rfl,e⟩
 refine j w k K (e _ (fun W g=>?_) h);rw[if_pos (by unfold Region.wanted;rw[hg])];exact j W g _ rfl
end
section
variable {ρ:Operand->Value} 
def z_au {t g:TypeId} {x:Operand} {d:TypeDesc} (h:o.op=.load ty x) (k:ρ x=.pointer (some ⟨g,0,none⟩)) (hb:ab w g t cs)
  (j:P.underlying ty=some d) (e:d.isRow=true) (i:(P.info? ty).map (·.size)=some cs.size):(execOp ρ o).run P w=.ok (.value (.agg cs)) w:=by
 have hl:=rZ (P:=P) hb j e i;unfold execOp;simp only[h,k,Sem.run_bind,hl,Result.andThen_ok,Sem.run_pure]
def Sl {rest:List Oper} {Q:Exit->Act->W_->Prop} (hg:o.guard=none) (h:∃v e,(execOp a.eval o).run P w=.ok (.value v) e/\wpList P ah Q rest (a.put o.dst v) e):wpList P ah Q (o::rest) a w:=by
 obtain ⟨v,e,g,i⟩:=h;refine wpList_plain hg fun K j=>?_;unfold Oper.wp;rw[g];exact j _ _ i
end
def iP (d s:Nat):Array Value:=#[.int .i64 d,.int .i64 s,.int .i64 0,.bool false]
def pJ (d s:Nat):Prop:=2<=d/\d<=8/\(s=2\/s=4)
def w_N (w:W_) (l:a_ w) (d s:Nat) (h:pJ d s) :
  Cl 58 #[.agg (iP d s)] w fun e w'=>e=.returned (.bool true)/\Kp ac w w':=by
 obtain ⟨f,c,hs⟩:=h;have m:=l.no ((Kp.refl ac w).alloc (.cells (iP d s) 84));obtain ⟨u,fs,hz⟩:=m.sizes
 have i:=fun W (r:W.heap[0]?=some (.cells #[.int .i64 2,.int .i64 4,.int .i64 8,.int .i64 16] u fs))=>Tryz.slices_Contains_int 0 0 4 4 [2,4,8,16] (s:Int) W d_ d_ (fun j t=>by
  rw[jm,cell_of_row _ _ _ _ _ _ r]
  match j,t with
  | 0,_=>rfl
  | 1,_=>rfl
  | 2,_=>rfl
  | 3,_=>rfl)
 have k:(List.take 4 [(2:Int),4,8,16]).contains (s:Int)=true:=by rcases hs with rfl|rfl<;>decide
 rw[k] at i;have n:=Zz i;have g:=Zz (ab.new w 84 (iP d s));have o:=Zz ((Kp.refl ac w).alloc (.cells (iP d s) 84));have q:=Zz hz;have hsp:0<s:=o_;have v:(2:Int)<=(d:Int):=o_;have x:(d:Int)<=8:=o_;clear l m hz i k hs;change Cl 58 #[.agg #[.int .i64 d,.int .i64 s,.int .i64 0,.bool false]] w _;go_enter func58,ntmps58
 go_upto_region 2 with fail
 change Code.wp _ _ _ _ (w.alloc (.cells (iP d s) 84));generalize p:w.alloc (.cells (iP d s) 84)=E at *;clear p;generalize w.heap.size=G at *;have y:=g.o.c0;have z:=g.o.c1;have a:=g.o.c2;have b:=g.o.c3
 go_upto_region 4 with fail
 go_quiet (first|(go_at_call 99;refine Calls.quiet_of_same (n.o _ q.o)))
 go_wp2;go_ret;exact ⟨rfl,o.o.drewN _⟩
def kF (w:W_) (r:a_ w) (d s:Nat) (h:pJ d s) :
  Cl 43 #[.agg (iP d s)] w fun e w'=>e=.returned (.int .i64 (s*d:Nat))/\Kp ac w w':=by
 have t:=Zz (fun W (y:a_ W)=>w_N W y d s h);have a:=Zz h;have g:=Zz (ab.new w 84 (iP d s));have k:=Zz ((Kp.refl ac w).alloc (.cells (iP d s) 84));have l:=Zz (r.no k.o);obtain ⟨b,x,hs⟩:=h;have hsp:0<s:=o_;have z:s<=4:=o_;clear r hs;change Cl 43 #[.agg #[.int .i64 d,.int .i64 s,.int .i64 0,.bool false]] w _
 have hm:IntKind.i64.wrap ((s:Int)*(d:Int))=((s*d:Nat):Int):=by
  rw[eM,<-Int.natCast_mul];have:s*d<=4*8:=Nat.mul_le_mul z x;omega
 generalize s*d=m at *;go_enter func43,ntmps43
 go_upto_region 1 with fail
 change Code.wp _ _ _ _ (w.alloc (.cells (iP d s) 84));generalize u:w.alloc (.cells (iP d s) 84)=f at *;clear u;generalize w.heap.size=G at *;have n:=g.o.c0;have o:=g.o.c1;have p:=g.o.c2;have q:=g.o.c3;go_wp2_with fail;refine (t.o _ l.o).mono ?_;rintro e E ⟨rfl,i⟩;have j:=Zz (g.o.kp i fun h=>h);have v:=Zz (k.o.trans i);have c:=Zz (l.o.no i);clear i n o p q g k l;have n:=j.o.c0;have o:=j.o.c1;have p:=j.o.c2;have q:=j.o.c3;go_wp2;go_ret;exact ⟨rfl,v.o⟩
def z_ar (w:W_) (q:a_ w) (d s:Nat) (h:pJ d s) (t:Nat) (b:t<s) :
  Cl 62 #[.agg (iP d s),.int .i64 t] w fun e w'=>e=.returned (.int .i64 d)/\Kp ac w w':=by
 have r:=Zz (fun W (x:a_ W)=>w_N W x d s h);have z:=Zz h;have g:=Zz (ab.new w 84 (iP d s));have k:=Zz ((Kp.refl ac w).alloc (.cells (iP d s) 84));have l:=Zz (q.no k.o);obtain ⟨c,a,hs⟩:=h;have hsp:0<s:=o_;have f:s<=4:=o_;clear q hs;change Cl 62 #[.agg #[.int .i64 d,.int .i64 s,.int .i64 0,.bool false],.int .i64 t] w _;have y:¬((s:Int)<=(t:Int)):=o_;have M:¬((t:Int)<0):=o_;go_enter func62,ntmps62
 go_upto_region 1 with fail
 change Code.wp _ _ _ _ (w.alloc (.cells (iP d s) 84));generalize u:w.alloc (.cells (iP d s) 84)=I at *;clear u;generalize w.heap.size=G at *;have m:=g.o.c0;have n:=g.o.c1;have o:=g.o.c2;have p:=g.o.c3;go_wp2_with fail;refine (r.o _ l.o).mono ?_;rintro e J ⟨rfl,i⟩;have j:=Zz (g.o.kp i fun h=>h);have v:=Zz (k.o.trans i);have E:=Zz (l.o.no i);clear i m n o p g k l;have m:=j.o.c0;have n:=j.o.c1;have o:=j.o.c2;have p:=j.o.c3;go_wp2;go_ret;exact ⟨rfl,v.o⟩
def z_as (w:W_) (z:a_ w) (d s:Nat) (h:pJ d s) (b:Nat) (hb:b<s*d) :
  Cl 35 #[.agg (iP d s),.int .i64 b] w fun e w'=>e=.returned (.tuple #[.int .i64 (b / d:Nat),.int .i64 (b % d:Nat),.int .i64 0])/\Kp ac w w':=by
 have f:=Zz (fun W (x:a_ W)=>w_N W x d s h);have c:=Zz h;have g:=Zz (ab.new w 84 (iP d s));have t:=Zz ((Kp.refl ac w).alloc (.cells (iP d s) 84));have u:=Zz (z.no t.o);obtain ⟨X,J,hs⟩:=h;have hsp:0<s:=o_;have P:s<=4:=o_;clear z hs;change Cl 35 #[.agg #[.int .i64 d,.int .i64 s,.int .i64 0,.bool false],.int .i64 b] w _;have D:s*d<=4*8:=Nat.mul_le_mul P J;have M:=Zz (fun W (x:a_ W)=>kF W x d s c.o);have Q:¬(((s*d:Nat):Int)<=(b:Int)):=o_;have C:¬((b:Int)<0):=o_
 have T:((b:Int)).tdiv (d:Int)=((b / d:Nat):Int):=by rw[Int.tdiv_eq_ediv_of_nonneg o_];rfl
 have U:((b:Int)).tmod (d:Int)=((b % d:Nat):Int):=by rw[Int.tmod_eq_emod_of_nonneg o_];rfl
 have Z:¬((d:Int)=0):=o_;have R:¬(d=0):=o_;have V:¬((d:Int)=-1):=o_;have N:=Nat.div_le_self b d;have O:=Nat.mod_le b d;generalize b / d=q at *;generalize b % d=r at *
 have S:IntKind.i64.wrap (q:Int)=(q:Int):=by rw[eM];omega
 have Y:IntKind.i64.wrap (r:Int)=(r:Int):=by rw[eM];omega
 generalize s*d=m at *;go_enter func35,ntmps35
 go_upto_region 1 with fail
 change Code.wp _ _ _ _ (w.alloc (.cells (iP d s) 84));generalize E:w.alloc (.cells (iP d s) 84)=A at *;clear E;generalize w.heap.size=G at *;have j:=g.o.c0;have n:=g.o.c1;have o:=g.o.c2;have p:=g.o.c3;go_wp2_with fail;refine (f.o _ u.o).mono ?_;rintro e B ⟨rfl,l⟩;have i:=Zz (g.o.kp l fun h=>h);have y:=Zz (t.o.trans l);have a:=Zz (u.o.no l);clear l j n o p g t u;have j:=i.o.c0;have n:=i.o.c1;have o:=i.o.c2;have p:=i.o.c3;go_wp2_with fail;refine (M.o _ a.o).mono ?_;rintro e w3 ⟨rfl,v⟩;have k:=Zz (i.o.kp v fun h=>h);have I:=Zz (y.o.trans v);clear v j n o p i y a;have j:=k.o.c0;have n:=k.o.c1;have o:=k.o.c2;have p:=k.o.c3;have d0:w3.drew.cell? ⟨G,0,none⟩=some (.int .i64 d):=j
 go_upto_region 7 with fail
 go_quiet (fail)
 go_wp2
 go_ret3
 exact ⟨rfl,I.o.drewN _⟩
def J0 (w:W_) (y:a_ w) (d s:Nat) (h:pJ d s) (t c:Nat) (N:t<s) (U:c<d+2) :
  Cl 63 #[.agg (iP d s),.int .i64 t,.int .i64 c] w fun e w'=>e=.returned (.tuple #[.int .i64 ((c+t) % (d+2):Nat),.int .i64 0])/\Kp ac w w':=by
 have b:=Zz (fun W (v:a_ W)=>w_N W v d s h);have a:=Zz h;have g:=Zz (ab.new w 84 (iP d s));have p:=Zz ((Kp.refl ac w).alloc (.cells (iP d s) 84));have q:=Zz (y.no p.o);obtain ⟨X,T,hs⟩:=h;have hsp:0<s:=o_;have Y:s<=4:=o_;clear y hs;change Cl 63 #[.agg #[.int .i64 d,.int .i64 s,.int .i64 0,.bool false],.int .i64 t,.int .i64 c] w _;have M:=Zz (fun W (v:a_ W)=>z_ar W v d s a.o t N);have Z:¬((d:Int)=0):=o_;have O:¬(d=0):=o_;have f:¬((c:Int)<0):=o_;have J:¬((d:Int)+2<=(c:Int)):=o_
 have V:((c:Int)+(t:Int)).tmod ((d:Int)+2)=(((c+t) % (d+2):Nat):Int):=by rw[Int.tmod_eq_emod_of_nonneg o_];rfl
 have P:¬((d:Int)+2=0):=o_
 have R:((d:Int)==0)=false:=by rw[pN];omega
 have Q:decide ((c:Int)<0)=false:=h_ f;have S:decide ((d:Int)+2<=(c:Int))=false:=h_ J;generalize (c+t) % (d+2)=r at *;go_enter func63,ntmps63
 go_upto_region 1 with fail
 change Code.wp _ _ _ _ (w.alloc (.cells (iP d s) 84));generalize E:w.alloc (.cells (iP d s) 84)=A at *;clear E;generalize w.heap.size=G at *;have l:=g.o.c0;have m:=g.o.c1;have n:=g.o.c2;have o:=g.o.c3;go_wp2_with fail;refine (b.o _ q.o).mono ?_;rintro e B ⟨rfl,k⟩;have i:=Zz (g.o.kp k fun h=>h);have x:=Zz (p.o.trans k);have z:=Zz (q.o.no k);clear k l m n o g p q;have l:=i.o.c0;have m:=i.o.c1;have n:=i.o.c2;have o:=i.o.c3;go_wp2_with fail;refine (M.o _ z.o).mono ?_;rintro e w3 ⟨rfl,u⟩;have j:=Zz (i.o.kp u fun h=>h);have I:=Zz (x.o.trans u);clear u l m n o i x z;have l:=j.o.c0;have m:=j.o.c1;have n:=j.o.c2;have o:=j.o.c3;go_wp2;go_ret2;exact ⟨rfl,I.o⟩
section
variable {rest:List Oper} {Q:Exit->Act->W_->Prop}
def Y3 {W:W_} (base:Nat) (S:o.guard=none) (s x:Operand) (t e:TypeId) (z:Value) (size bytes:Nat)
  (I:o.op=.call { callee:=.builtin .append,args:=#[s,x],argTypes:=#[t,t] })
  (J:P.underlying t=some (.slice e)) (y:(P.info? e).map (fun i=>(i.zero,i.size,i.bytes))=some (some z,size,bytes)) (hz:z.cells.size=size) (q:0<size) (R:0<bytes)
  (v:Value) (k:Nat) (xs ys:List Value) (p:ys.length=size) (hs:a.eval s=v) (N:a.eval x=.slice (some ⟨W.heap.size,0,none⟩) 1 1) (E:∀u∈ys,u.oneCell'=true)
  (n:W.ownsRow base e size v k xs) (T:base<=W.heap.size) (hl:(k+1)*bytes<=140737488355328)
  (h:∀g m,m.ownsRow base e size g (k+1) (xs++ys)->W.grownBy m v.ownBlock->(g.ownBlock=v.ownBlock\/∃b,g.ownBlock=some b/\W.heap.size<=b)->wpList P ah Q rest (a.put o.dst g) m) :
  wpList P ah Q (o::rest) a (W.alloc (.cells ys.toArray e)):=by
 obtain ⟨O,G,d,c,f⟩:=info_parts y;have U:k+1<=140737488355328:=cL (Nat.le_mul_of_pos_right _ R) hl
 refine wpList_append_own_at (W.alloc (.cells ys.toArray e)) S s x t I base e O z size bytes J G d c f hz q v k xs hs (World.ownsRow.alloc n _) ⟨W.heap.size,0,none⟩ 1 1 ys N (by rw[p,Nat.one_mul])
  (fun j u M=>by rw[SN,jm,cell_of_row _ _ _ _ _ _ (heap_alloc_new W _)];simpa using M) E (by simp only[maxLen];omega) hl (by simp;omega) ?_
 intro g m r hg _ l;refine h g m r (z_az (World.grownBy_alloc W _ _) hg) ?_;rcases l with l|l
 ·exact .inl l
 exact .inr ⟨_,l,s_⟩
end
def Gr (w:W_) (F e:Nat->Prop):Prop:=∀q,q<w.heap.size->e q->F q
section
variable {w'':W_} {F' F'':Nat->Prop}
def Gr.refl (w:W_) (F:Nat->Prop):Gr w F F:=fun _ _ h=>h
def Gr.then (h:Gr w F F') (k:Gr w' F' F'') (hs:w.heap.size<=w'.heap.size):Gr w F F'':=fun q e g=>h q e (k q (ea e hs) g)
def Gr.no (h:Gr w F F') (hg:g<w.heap.size) (hn:¬F g):¬F' g:=fun e=>hn (h g hg e)
def Xn (h:Kp F w w') (g:Gr w F F') (k:Kp F' w' w''):Kp F w w'':=h.then k fun q i e=>g q i e
def ab.ne_ {i j:Nat} {cs':Array Value} (h:ab w g t cs) (e:ab w i j cs') (k:t≠j):g≠i:=by
 rintro rfl;unfold ab at h e;rw[h] at e;injection e with e;injection e with _ l;exact k l
def iZ (h:w.ownsRow base e size v n xs) (g:v.ownBlock=some q):base<=q/\q<w.heap.size:=World.ownsRow.lt h q g
def hH (h:w.ownsRow base e size v n xs) (hb:ab w g t cs) (j:e≠t):v.ownBlock≠some g:=by
 intro i;rcases h.2 with ⟨rfl,_⟩|⟨k,o,p,rfl,_,l,_⟩
 ·cases i
 have:k=g:=by simpa[Value.ownBlock] using i
 subst this;unfold ab at hb;rw[l] at hb;injection hb with hb;injection hb with _ m;exact j m
end
structure ao where
 dead:Bool
 now:List B_
 last:List B_
 wait:Nat
structure Dk (w:W_) (d:Nat) (σ:ao) (F:Nat->Prop):Prop where
 ex:∃la na vw xs,ab w d 136 #[.slice (some ⟨la,0,none⟩) 140 140,.slice (some ⟨na,0,none⟩) 140 140,vw,.bool σ.dead]/\ab w la 9 (sv σ.last).toArray/\ab w na 9 (sv σ.now).toArray/\la≠na /\
  w.ownsRow 10 242 2 vw σ.wait xs/\10<=d/\10<=la/\10<=na/\∀q,F q↔(q=d\/q=la\/q=na\/vw.ownBlock=some q)
 hn:σ.now.length=140
 hl:σ.last.length=140
section
variable {σ:ao} {S:Nat->Prop}
def Dk.lt (h:Dk w d σ F) (e:F q):10<=q/\q<w.heap.size:=by
 obtain ⟨la,r,s,xs,g,i,j,p,k,l,m,n,o⟩:=h.ex;rcases (o q).1 e with rfl|rfl|rfl|e
 ·exact ⟨l,g.lt⟩
 ·exact ⟨m,i.lt⟩
 ·exact ⟨n,j.lt⟩
 exact iZ k e
def Dk.own (h:Dk w d σ F):F d:=by
 obtain ⟨la,p,q,xs,g,i,j,k,l,m,n,o,e⟩:=h.ex;exact (e d).2 (.inl rfl)
def Dk.kp (h:Dk w d σ F) (k:Kp S w w') (g:∀q,S q->¬F q):Dk w' d σ F:=by
 obtain ⟨⟨la,t,u,xs,i,j,l,m,n,o,p,r,e⟩,hn,hl⟩:=h;refine ⟨⟨la,t,u,xs,i.kp k fun hs=>g _ hs ((e _).2 (.inl rfl)),j.kp k fun hs=>g _ hs ((e _).2 (.inr (.inl rfl))),l.kp k fun hs=>g _ hs ((e _).2 (.inr (.inr (.inl rfl)))),m,dL n k fun q s hs=>g _ hs ((e _).2 (.inr (.inr (.inr s)))),o,p,r,e⟩,hn,hl⟩
end
def mr (m:Nat) (hm:m<=1000):∀W:W_,(Instr.makeSlice 38 (.int .i64 m) (.int .i64 m)).run prog W=.ok (.slice (some ⟨W.heap.size,0,none⟩) m m) (W.alloc (.cells (madeCells #[.string ⟨#[]⟩] m) 9)):=by
 intro W;have e:(prog.info? 9).map (fun i=>(i.zero,i.size,i.bytes))=some (some (.string ⟨#[]⟩),1,16):=k_;exact run_make_row' 38 9 (.string ⟨#[]⟩) 16 underlying38 e rfl .i64 .i64 m o_ o_ W
def EY (m:Nat):madeCells #[.string ⟨#[]⟩] m=(sv (List.replicate m ByteArray.empty)).toArray:=by
 have:(madeCells #[Value.string ⟨#[]⟩] m).toList=sv (List.replicate m ByteArray.empty):=by rw[toList_madeCells_one];simp only[sv,List.map_replicate];rfl
 rw[<-this]
def En (w:W_) (V:10<=w.heap.size) :
  Cl 91 #[.int .i64 140] w fun e w'=>∃d F,e=.returned (.pointer (some ⟨d,0,none⟩))/\Dk w' d ⟨false,List.replicate 140 ByteArray.empty,List.replicate 140 ByteArray.empty,0⟩ F/\(∀q,F q->w.heap.size<=q)/\Kp ac w w':=by
 have I:=mr 140 d_
 have N:Hid (∀W:W_,(Instr.makeSlice 38 (.int .i64 140) (.int .i64 140)).run prog W=.ok (.slice (some ⟨W.heap.size,0,none⟩) 140 140) (W.alloc (.cells (sv (List.replicate 140 ByteArray.empty)).toArray 9))):=Zz fun W=>by
  rw[<-EY];exact I W
 have G:Hid ((List.replicate 140 ByteArray.empty).length=140):=Zz s_;clear I;generalize List.replicate 140 ByteArray.empty=E at *
 have a:Hid (∀(W:W_) (la j d:Nat),w.heap.size<=la->w.heap.size<=j->w.heap.size<=d->la≠j->ab W d 136 #[.slice (some ⟨la,0,none⟩) 140 140,.slice (some ⟨j,0,none⟩) 140 140,.slice none 0 0,.bool false]->ab W la 9 (sv E).toArray->ab W j 9 (sv E).toArray ->
   ∃F,Dk W d ⟨false,E,E,0⟩ F/\∀q,F q->w.heap.size<=q):=Zz fun W la j d O P Q R S T U =>
  ⟨fun q=>q=d\/q=la\/q=j\/(Value.slice none 0 0).ownBlock=some q,⟨⟨la,j,_,[],S,T,U,R,World.ownsRow_nil W 10 _ 2,o_,o_,o_,fun q=>Iff.rfl⟩,G.o,G.o⟩,fun q c=>by
   rcases c with rfl|rfl|rfl|c
   ·exact Q
   ·exact O
   ·exact P
   cases c⟩
 have J:=Zz (Kp.refl ac w).drew;have X:min (140:Int) 512=140:=d_;have Z:max (1:Int) 140=140:=d_;go_enter func91,ntmps91
 go_upto_region 2 with fail
 have f:w.heap.size=w.drew.heap.size:=rfl;rw[f] at a;refine fs ?_;generalize w.drew=w0 at *;have Y:=N.o w0;have M:=N.o (w0.alloc (.cells (sv E).toArray 9));have v:=Zz (ab.new w0 9 (sv E).toArray);have u:=Zz (ab.new (w0.alloc (.cells (sv E).toArray 9)) 9 (sv E).toArray);have l:(w0.alloc (.cells (sv E).toArray 9)).heap.size=w0.heap.size+1:=s_;have m:((w0.alloc (.cells (sv E).toArray 9)).alloc (.cells (sv E).toArray 9)).heap.size=w0.heap.size+2:=s_;refine fp 0 ?_;refine fp 2 ?_;refine v_p 1 3 k_ ?_ ?_
 ·refine C9 1 rfl (fun K p g=>?_)
  go_simp;refine g _ _ oN ?_;clear g K;obtain ⟨h,i⟩:∃h,w0.alloc (.cells (sv E).toArray 9)=h:=⟨_,rfl⟩;have b:=Zz i;rw[i] at M v u l m ⊢;clear i;refine fd 3 fun K p g=>?_;go_simp;refine g _ _ oN ?_;clear g K;refine fp 4 ?_;refine fd 5 fun K p g=>?_;go_simp;refine g _ _ oN ?_;clear g K;refine fp 6 ?_;refine fe ?_;have r:=(v.o.alloc (.cells (sv E).toArray 9)).alloc (.cells #[.slice (some ⟨w0.heap.size,0,none⟩) 140 140,.slice (some ⟨h.heap.size,0,none⟩) 140 140,.slice none 0 0,.bool false] 136);have t:=u.o.alloc (.cells #[.slice (some ⟨w0.heap.size,0,none⟩) 140 140,.slice (some ⟨h.heap.size,0,none⟩) 140 140,.slice none 0 0,.bool false] 136);have s:=ab.new (h.alloc (.cells (sv E).toArray 9)) 136 #[.slice (some ⟨w0.heap.size,0,none⟩) 140 140,.slice (some ⟨h.heap.size,0,none⟩) 140 140,.slice none 0 0,.bool false];have k:=((J.o.alloc (.cells (sv E).toArray 9)).alloc (.cells (sv E).toArray 9)).alloc (.cells #[.slice (some ⟨w0.heap.size,0,none⟩) 140 140,.slice (some ⟨h.heap.size,0,none⟩) 140 140,.slice none 0 0,.bool false] 136);rw[b.o] at k;have x:=Zz (a.o _ (w0.heap.size) (h.heap.size) _ o_ o_ (by rw[m];omega) o_ s r t);have z:=Zz k;clear r t s k;go_wp2;go_ret;obtain ⟨F,n,y⟩:=x.o;rw[l,m] at n;have o:=z.o;rw[l] at o;exact ⟨_,F,rfl,n,by rw[f];exact y,o⟩
 refine C9 3 rfl (fun K p g=>?_);go_simp;refine g _ _ oN ?_;clear g K;obtain ⟨h,i⟩:∃h,w0.alloc (.cells (sv E).toArray 9)=h:=⟨_,rfl⟩;have b:=Zz i;rw[i] at M v u l m ⊢;clear i;refine fd 1 fun K p g=>?_;go_simp;refine g _ _ oN ?_;clear g K;refine fp 4 ?_;refine fd 5 fun K p g=>?_;go_simp;refine g _ _ oN ?_;clear g K;refine fp 6 ?_;refine fe ?_;have r:=(v.o.alloc (.cells (sv E).toArray 9)).alloc (.cells #[.slice (some ⟨h.heap.size,0,none⟩) 140 140,.slice (some ⟨w0.heap.size,0,none⟩) 140 140,.slice none 0 0,.bool false] 136);have t:=u.o.alloc (.cells #[.slice (some ⟨h.heap.size,0,none⟩) 140 140,.slice (some ⟨w0.heap.size,0,none⟩) 140 140,.slice none 0 0,.bool false] 136);have s:=ab.new (h.alloc (.cells (sv E).toArray 9)) 136 #[.slice (some ⟨h.heap.size,0,none⟩) 140 140,.slice (some ⟨w0.heap.size,0,none⟩) 140 140,.slice none 0 0,.bool false];have k:=((J.o.alloc (.cells (sv E).toArray 9)).alloc (.cells (sv E).toArray 9)).alloc (.cells #[.slice (some ⟨h.heap.size,0,none⟩) 140 140,.slice (some ⟨w0.heap.size,0,none⟩) 140 140,.slice none 0 0,.bool false] 136);rw[b.o] at k;have x:=Zz (a.o _ (h.heap.size) (w0.heap.size) _ o_ o_ (by rw[m];omega) o_ s t r);have z:=Zz k;clear r t s k;go_wp2;go_ret;obtain ⟨F,n,y⟩:=x.o;rw[l,m] at n;have o:=z.o;rw[l] at o;exact ⟨_,F,rfl,n,by rw[f];exact y,o⟩
def lM (h:w.ownsRow base e size v n xs):∃A c,v=.slice A n c:=by
 rcases h.2 with ⟨rfl,rfl⟩|⟨g,i,j,rfl,_⟩
 ·exact ⟨none,0,rfl⟩
 exact ⟨_,i,rfl⟩
section
variable {σ:ao} 
def w_b (h:Dk w d σ F) (i:Nat) (y:i<140) :
  Cl 81 #[.pointer (some ⟨d,0,none⟩),.int .i64 i] w fun e w'=>e=.returned (.int .i64 (if σ.dead then 20 else 0))/\w'=w:=by
 obtain ⟨la,z,a,xs,g,m,n,o,p,q,r,s,t⟩:=h.ex;have x:=g.c1;have j:=g.c3;have l:¬((140:Int)<=(i:Int)):=o_;have hn:¬((i:Int)<0):=o_;have u:decide ((i:Int)<0)=false:=h_ hn;have v:decide ((140:Int)<=(i:Int))=false:=h_ l;clear h g m n o p q r s t
 cases k:σ.dead with
 | false =>
  rw[k] at j;go_enter func81,ntmps81;go_wp2;go_ret
  exact ⟨rfl,rfl⟩
 | true =>
  rw[k] at j;go_enter func81,ntmps81;go_wp2;go_ret;exact ⟨rfl,rfl⟩
def JA (h:Dk w d σ F) :
  Cl 129 #[.pointer (some ⟨d,0,none⟩)] w fun e w'=>e=.returned (.int .i64 140)/\w'=w:=by
 obtain ⟨la,r,s,xs,g,i,j,k,l,m,n,o,p⟩:=h.ex;have q:=g.c1;clear h g i j k l m n o p;go_enter func129,ntmps129;go_wp2;go_ret;exact ⟨rfl,rfl⟩
def KN (h:Dk w d σ F) (i:Nat) (m:i<140) :
  Cl 182 #[.pointer (some ⟨d,0,none⟩),.int .i64 i] w fun e w'=>e=.returned (.tuple #[.string (if σ.dead then ByteArray.empty else tl σ.now i),.int .i64 (if σ.dead then 20 else 0)])/\w'=w:=by
 have g:=Zz (w_b h i m);obtain ⟨la,v,b,xs,j,n,k,o,p,q,r,s,u⟩:=h.ex;have z:=j.c1
 have a:w.cell? ⟨v,i,none⟩=some (.string (tl σ.now i)):=by rw[k.cell,lP,iQ _ _ (by rw[h.hn];exact m)]
 have y:(i:Int)<140:=o_;clear h j n k o p q r s u;generalize tl σ.now i=t at *
 cases l:σ.dead with
 | false =>
  rw[l] at g;go_enter func182,ntmps182;go_wp2_with fail;refine g.o.mono ?_;rintro e x ⟨rfl,rfl⟩;simp only[Bool.false_eq_true,if_false];go_wp2;go_ret2
  exact ⟨rfl,rfl⟩
 | true =>
  rw[l] at g;go_enter func182,ntmps182;go_wp2_with fail;refine g.o.mono ?_;rintro e x ⟨rfl,rfl⟩;simp only[if_true];go_wp2;go_ret2;exact ⟨rfl,rfl⟩
def ao.write (σ:ao) (i:Nat) (s:B_):ao:=if σ.dead then σ else { σ with now:=σ.now.set i s,wait:=σ.wait+1 }
def ao.flush (σ:ao):ao:=if σ.dead then σ else { σ with last:=σ.now,wait:=0 }
def infoDW:(prog.info? 242).map (fun i=>(i.zero,i.size,i.bytes))=some (some (.agg #[.int .i64 0,.string ⟨#[]⟩]),2,24):=k_
def CV (h:Dk w d σ F) (i:Nat) (X:i<140) (s:B_) (hs:s.size<=2048) (x1:σ.wait<=100000) :
  Cl 193 #[.pointer (some ⟨d,0,none⟩),.int .i64 i,.string s] w fun e w'=>e=.returned (.int .i64 (if σ.dead then 20 else 0))/\∃t,Gr w F t/\Dk w' d (σ.write i s) t/\Kp F w w':=by
 have c:=Zz (w_b h i X);have B:=Zz h
 cases x:σ.dead with
 | true =>
  rw[x] at c
  have P:σ.write i s=σ:=by unfold ao.write;rw[if_pos x]
  rw[P];clear h;go_enter func193,ntmps193;go_wp2_with fail;refine c.o.mono ?_;rintro e k ⟨rfl,rfl⟩;simp only[if_true];go_wp2;go_ret
  exact ⟨rfl,F,Gr.refl _ _,B.o,Kp.refl _ _⟩
 | false =>
  rw[x] at c
  have P:σ.write i s=⟨false,σ.now.set i s,σ.last,σ.wait+1⟩:=by simp[ao.write,x]
  rw[P];obtain ⟨la,g,n,xs,l,f,r,W,v,h6,h7,h8,J⟩:=h.ex;rw[x] at l;have H:=Zz h.hn;have D:=Zz h.hl;have h3:=l.c1
  have h9:w.cell? ⟨g,i,none⟩=some (.string (tl σ.now i)):=by rw[r.cell,lP,iQ _ _ (by rw[h.hn];exact X)]
  have H4:=r.frozen i;have H8:(i:Int)<140:=o_;have H1:¬(2048<(s.size:Int)):=o_;have Y:=ab.ne_ l r d_;have H2:=ab.ne_ l f d_;have Q:=hH v r d_;have E:=hH v l d_;have H5:=hH v f d_;have h0:=l.lt;have a:=Zz (l.far (p:=⟨g,i,none⟩) Y (.string s));have N:=Zz (f.far (p:=⟨g,i,none⟩) W (.string s));have M:Hid (ab (w.setCell ⟨g,i,none⟩ (.string s)) g 9 (sv (σ.now.set i s)).toArray):=Zz (by have:=r.set_ i (.string s);rwa [F6,w_M] at this);have Z:Hid ((w.setCell ⟨g,i,none⟩ (.string s)).ownsRow 10 242 2 n σ.wait xs):=Zz (dL v ((Kp.refl (·=g) w).setCell ⟨g,i,none⟩ (.string s) (.inl rfl)) fun q m y=>Q (by rw[m,y]));have A:=Zz ((Kp.refl F w).setCell ⟨g,i,none⟩ (.string s) (.inl ((J g).2 (.inr (.inr (.inl rfl))))));have o:=Zz J;clear h l f r v J;go_enter func193,ntmps193;go_wp2_with fail;refine c.o.mono ?_;rintro e k ⟨rfl,rfl⟩;simp only[Bool.false_eq_true,if_false]
  go_upto_region 7 with fail
  have h2:Hid (∀(w3:W_) (j:Value),w3.ownsRow 10 242 2 j (σ.wait+1) (xs++[.int .i64 i,.string s])->(k.setCell ⟨g,i,none⟩ (.string s)).grownBy w3 n.ownBlock->(j.ownBlock=n.ownBlock\/∃b,j.ownBlock=some b/\(k.setCell ⟨g,i,none⟩ (.string s)).heap.size<=b) ->
    ∃t,Gr k F t/\Dk (w3.setCell ⟨d,2,none⟩ j) d ⟨false,σ.now.set i s,σ.last,σ.wait+1⟩ t/\Kp F k (w3.setCell ⟨d,2,none⟩ j)):=Zz fun w3 j h5 hg U=>by
   have T:(k.setCell ⟨g,i,none⟩ (.string s)).heap.size=k.heap.size:=by simp[World.setCell]
   rw[T] at U;have y8:=N.o.lt;have L:=M.o.lt;rw[T] at y8 L
   have hv:∀q,q<k.heap.size->j.ownBlock=some q->n.ownBlock=some q:=fun q m hv=>by
    rcases U with h|⟨b,h,hb⟩
    ·rw[<-h];exact hv
    rw[h] at hv
    have:b=q:=by simpa using hv
    omega
   have H6:=A.o.then (Kp.of_grown hg (S:=F) fun q m=>(o.o q).2 (.inr (.inr (.inr m.symm)))) (fun _ _ h=>h);refine ⟨(fun q=>q=d\/q=la\/q=g\/j.ownBlock=some q:Nat->Prop),?_,⟨⟨la,g,j,xs++[.int .i64 i,.string s],?_,?_,?_,W,?_,h6,h7,h8,fun _=>Iff.rfl⟩,by rw[iO];exact H.o,D.o⟩,H6.setCell _ _ (.inl ((o.o d).2 (.inl rfl)))⟩
   ·intro q m H0
    rcases H0 with h|h|h|h
    ·exact (o.o q).2 (.inl h)
    ·exact (o.o q).2 (.inr (.inl h))
    ·exact (o.o q).2 (.inr (.inr (.inl h)))
    exact (o.o q).2 (.inr (.inr (.inr (hv q m h))))
   ·have:=(a.o.grown hg (Ne.symm E)).set_ 2 j
    exact this
   ·exact (N.o.grown hg (Ne.symm H5)).far (p:=⟨d,2,none⟩) (Ne.symm H2) j
   ·exact (M.o.grown hg (Ne.symm Q)).far (p:=⟨d,2,none⟩) (Ne.symm Y) j
   exact dL h5 ((Kp.refl (·=d) w3).setCell ⟨d,2,none⟩ j (.inl rfl)) fun q m y=>by
    have y:q=d:=y;subst y;exact E (hv q h0 m)
  have H9:(k.setCell ⟨g,i,none⟩ (.string s)).cell? ⟨d,2,none⟩=some n:=a.o.cell 2
  have H3:10<=(k.setCell ⟨g,i,none⟩ (.string s)).heap.size:=by have:=a.o.lt;omega
  have C:=Zz (fun w3 (hg:(k.setCell ⟨g,i,none⟩ (.string s)).grownBy w3 n.ownBlock)=>a.o.grown hg (Ne.symm E))
  have V:∀u∈[Value.int .i64 i,.string s],u.oneCell'=true:=by
   intro u z;rcases List.mem_cons.1 z with rfl|z
   ·rfl
   rcases List.mem_cons.1 z with rfl|z
   ·rfl
   cases z
  have h4:=Zz V;have h1:=Zz Z.o;clear h3 h9 H4 V a N M A Z;generalize k.setCell ⟨g,i,none⟩ (.string s)=x2 at *
  go_wp2_with (at_builtin;refine Y3 10 rfl (.tmp 28) (.tmp 32) 134 242 (.agg #[.int .i64 0,.string ⟨#[]⟩]) 2 24 rfl underlying134 infoDW rfl d_ d_ n σ.wait xs [.int .i64 i,.string s] rfl rfl rfl h4.o h1.o H3 o_ ?_;intro j w3 O I R;obtain ⟨H7,x0,rfl⟩:=lM O;have G:=C.o w3 I;have d2:=G.cell 2;have f2:=G.frozen 2;have K:=Zz (h2.o w3 _ O I R);clear O I R G)
  go_wp2;go_ret;exact ⟨rfl,K.o⟩
def D0 (h:Dk w d σ F) :
  Cl 194 #[.pointer (some ⟨d,0,none⟩)] w fun e w'=>e=.returned (.int .i64 (if σ.dead then 20 else 0))/\∃m,Gr w F m/\Dk w' d σ.flush m/\Kp F w w':=by
 have t:=Zz (w_b h 0 d_);have O:=Zz h
 cases r:σ.dead with
 | true =>
  rw[r] at t
  have c:σ.flush=σ:=by unfold ao.flush;rw[if_pos r]
  rw[c];clear h;go_enter func194,ntmps194;go_wp2_with fail;refine t.o.mono ?_;rintro e N ⟨rfl,rfl⟩;simp only[if_true];go_wp2;go_ret
  exact ⟨rfl,F,Gr.refl _ _,O.o,Kp.refl _ _⟩
 | false =>
  rw[r] at t
  have c:σ.flush=⟨false,σ.now,σ.now,0⟩:=by simp[ao.flush,r]
  rw[c];obtain ⟨la,s,h0,xs,k,n,o,M,v,R,S,T,l⟩:=h.ex;rw[r] at k;have f:=Zz h.hn;have C:=Zz h.hl;have W:=ab.ne_ k o d_;have a:=ab.ne_ k n d_;have B:=hH v o d_;have D:=hH v k d_;have L:=hH v n d_
  have J:(sv σ.last).toArray.size=140:=by rw[tK,cN,h.hl]
  have i:(sv σ.now).length=140:=by rw[cN,h.hn]
  have E:b_ w.drew (.slice (some ⟨s,0,none⟩) 140 140) (sv σ.now):=by
   refine ⟨some ⟨s,0,none⟩,140,by rw[i],by rw[i];decide,d_,fun _=>⟨s,0,rfl,fun j H=>?_⟩⟩;rw[jm];exact (o.cell j).trans (by rw[lP])
  have Q:=Zz E
  have Y:Hid (∀u∈sv σ.now,u.oneCell'=true):=Zz fun u V=>by
   obtain ⟨x,_,rfl⟩:=List.mem_map.1 V;rfl
  have b:=Zz k.drew;have X:=Zz n.drew;have Z:Hid ((List.take 0 (sv σ.last).toArray.toList++sv σ.now++List.drop (0+(sv σ.now).length) (sv σ.last).toArray.toList).toArray=(sv σ.now).toArray):=Zz (by rw[i,List.drop_eq_nil_of_le (by rw[<-Array.length_toList] at J;omega)];simp)
  have P:Hid (∀y:W_,y=(w.drew.setRow la (sv σ.now).toArray).setCell ⟨d,2,none⟩ (.slice none 0 0)->∃m,Gr w F m/\Dk y d ⟨false,σ.now,σ.now,0⟩ m/\Kp F w y):=Zz fun y e=>by
   subst e;refine ⟨(fun q=>q=d\/q=la\/q=s\/(Value.slice none 0 0).ownBlock=some q:Nat->Prop),?_,⟨⟨la,s,.slice none 0 0,[],?_,?_,?_,M,World.ownsRow_nil _ 10 _ 2,R,S,T,fun _=>Iff.rfl⟩,f.o,f.o⟩,((Kp.refl F w).drew.setRow la _ (.inl ((l la).2 (.inr (.inl rfl))))).setCell _ _ (.inl ((l d).2 (.inl rfl)))⟩
   ·intro q K U
    rcases U with h|h|h|h
    ·exact (l q).2 (.inl h)
    ·exact (l q).2 (.inr (.inl h))
    ·exact (l q).2 (.inr (.inr (.inl h)))
    cases h
   ·exact (k.drew.farRow (cs':=(sv σ.now).toArray) a).set_ 2 (.slice none 0 0)
   ·exact (n.drew.setRow (cs':=(sv σ.now).toArray)).far (p:=⟨d,2,none⟩) (Ne.symm a) _
   exact (o.drew.farRow (cs':=(sv σ.now).toArray) (Ne.symm M)).far (p:=⟨d,2,none⟩) (Ne.symm W) _
  clear h k n o v l E;go_enter func194,ntmps194;go_wp2_with fail;refine t.o.mono ?_;rintro e N ⟨rfl,rfl⟩;simp only[Bool.false_eq_true,if_false]
  go_upto_region 4 with fail
  refine fs ?_;generalize N.drew=A at *;have G:=b.o.c0;have I:=b.o.c1;refine fp 0 ?_;refine fp 1 ?_;refine fp 2 ?_;refine cw 3 G ?_;refine fp 4 ?_;refine fp 5 ?_;refine fp 6 ?_;refine cw 7 I ?_;refine Dj 8 rfl rfl k_ ?_;refine jS rfl underlying38 k_ rfl (by rw[<-i];rfl) X.o Q.o (by rw[i];decide) (by rw[i];decide) (by rw[i,J];decide) Y.o ?_;rw[Z.o];refine ⟨oW (oW oN),?_⟩;have z:=b.o.farRow (g:=la) (cs':=(sv σ.now).toArray) a;refine fe ?_;have f2:=z.frozen 2;have d2:=z.cell 2;clear G I z;generalize A.setRow la (sv σ.now).toArray=w3 at *;go_wp2;go_ret;exact ⟨rfl,P.o _ rfl⟩
def ao.fail (σ:ao):ao:=⟨true,σ.now,σ.last,0⟩
def HP (h:Dk w d σ F) :
  Cl 32 #[.pointer (some ⟨d,0,none⟩)] w fun e w'=>e=.returned (.tuple #[])/\∃j,Gr w F j/\Dk w' d σ.fail j/\Kp F w w':=by
 obtain ⟨la,o,E,xs,g,k,l,u,v,x,y,z,i⟩:=h.ex;have s:=Zz h.hn;have r:=Zz h.hl;have n:=ab.ne_ g l d_;have m:=ab.ne_ g k d_
 have t:Hid (∃j,Gr w F j/\Dk ((w.setCell ⟨d,3,none⟩ (.bool true)).setCell ⟨d,2,none⟩ (.slice none 0 0)) d σ.fail j/\Kp F w ((w.setCell ⟨d,3,none⟩ (.bool true)).setCell ⟨d,2,none⟩ (.slice none 0 0))):=Zz (by
  refine ⟨(fun q=>q=d\/q=la\/q=o\/(Value.slice none 0 0).ownBlock=some q:Nat->Prop),?_,⟨⟨la,o,.slice none 0 0,[],?_,?_,?_,u,World.ownsRow_nil _ 10 _ 2,x,y,z,fun _=>Iff.rfl⟩,s.o,r.o⟩,((Kp.refl F w).setCell _ _ (.inl ((i d).2 (.inl rfl)))).setCell _ _ (.inl ((i d).2 (.inl rfl)))⟩
  ·intro q f a
   rcases a with h|h|h|h
   ·exact (i q).2 (.inl h)
   ·exact (i q).2 (.inr (.inl h))
   ·exact (i q).2 (.inr (.inr (.inl h)))
   cases h
  ·exact (g.set_ 3 (.bool true)).set_ 2 (.slice none 0 0)
  ·exact (k.far (p:=⟨d,3,none⟩) (Ne.symm m) _).far (p:=⟨d,2,none⟩) (Ne.symm m) _
  exact (l.far (p:=⟨d,3,none⟩) (Ne.symm n) _).far (p:=⟨d,2,none⟩) (Ne.symm n) _)
 have b:=g.cell 2;have c:=g.cell 3;have f2:=g.frozen 2;have f3:=g.frozen 3;clear h g k l v i;go_enter func32,ntmps32;go_wp2
 go_end0
 exact ⟨rfl,t.o⟩
end
structure g_ (w:W_) (b n:Nat) (σ:Nat->ao) (G c:Nat) (st:Int) (A:Nat->Nat) (Φ:Nat->Nat->Prop):Prop where
 blk:ab w b 119 #[.slice (some ⟨G,0,none⟩) n c,.int .i64 st,.bool false,.int .i64 0]
 row:aH w 10 76 (.slice (some ⟨G,0,none⟩) n c) ((List.range n).map fun i=>.pointer (some ⟨A i,0,none⟩))
 dk:∀i,i<n->Dk w (A i) (σ i) (Φ i)
 sep:∀i j q,i<n->j<n->Φ i q->Φ j q->i=j
 b10:10<=b
 bG:b≠G
 off:∀i,i<n->¬Φ i b/\¬Φ i G
 n1:1<=n
 n12:n<=12
def Er (b n G:Nat) (Φ:Nat->Nat->Prop):Nat->Prop:=fun q=>q=b\/q=G\/∃i,i<n/\Φ i q
def Bk (w:W_) (b n:Nat) (σ:Nat->ao) (F:Nat->Prop):Prop:=∃G c st A Φ,g_ w b n σ G c st A Φ/\∀q,F q↔Er b n G Φ q
def dY (σ:Nat->ao) (i:Nat) (s:ao):Nat->ao:=fun j=>if j=i then s else σ j
def P_ (σ:Nat->ao) (i:Nat) (s:ao):dY σ i s i=s:=if_pos rfl
def Vu (σ:Nat->ao) {j:Nat} (s:ao) (h:j≠i):dY σ i s j=σ j:=if_neg h
def xg (σ:Nat->ao) (i:Nat):dY σ i (σ i)=σ:=by
 funext j;unfold dY;split
 ·rename_i h;rw[h]
 rfl
section
variable {b G c:Nat} {σ:Nat->ao} {st:Int} {A:Nat->Nat} {Φ:Nat->Nat->Prop} {S:Nat->Prop}
def g_.rowBlk (h:g_ w b n σ G c st A Φ):10<=G/\G<w.heap.size:=h.row.lt G rfl
def g_.lt (h:g_ w b n σ G c st A Φ) (e:Er b n G Φ q):10<=q/\q<w.heap.size:=by
 rcases e with rfl|rfl|⟨i,g,e⟩
 ·exact ⟨h.b10,h.blk.lt⟩
 ·exact h.rowBlk
 exact (h.dk i g).lt e
def g_.kp (h:g_ w b n σ G c st A Φ) (k:Kp S w w') (e:∀q,S q->¬Er b n G Φ q):g_ w' b n σ G c st A Φ :=
 ⟨h.blk.kp k fun hs=>e _ hs (.inl rfl),h.row.kp k fun q g hs=>by
  have:G=q:=by simpa[Value.ownBlock] using g
  exact e _ hs (.inr (.inl this.symm)),fun i j=>(h.dk i j).kp k fun q hs g=>e _ hs (.inr (.inr ⟨i,j,g⟩)),h.sep,h.b10,h.bG,h.off,h.n1,h.n12⟩
def Bk.lt (h:Bk w b n σ F) (g:F q):10<=q/\q<w.heap.size:=by
 obtain ⟨G,c,st,A,Φ,e,hF⟩:=h;exact e.lt ((hF q).1 g)
def Bk.kp (h:Bk w b n σ F) (k:Kp S w w') (g:∀q,S q->¬F q):Bk w' b n σ F:=by
 obtain ⟨G,c,st,A,Φ,e,hF⟩:=h;exact ⟨G,c,st,A,Φ,e.kp k fun q hs i=>g q hs ((hF q).2 i),hF⟩
def Bk.no (h:Bk w b n σ F) (k:Kp ac w w'):Bk w' b n σ F:=h.kp k fun _ h=>h.elim
def g_.spent (h:g_ w b n σ G c st A Φ) (z:Int):g_ (w.setCell ⟨b,1,none⟩ (.int .i64 z)) b n σ G c z A Φ:=by
 have k:=(Kp.refl (·=b) w).setCell ⟨b,1,none⟩ (.int .i64 z) (.inl rfl);refine ⟨h.blk.set_ 1 (.int .i64 z),h.row.kp k fun q e hs=>?_,fun i g=>(h.dk i g).kp k fun q hs e=>?_,h.sep,h.b10,h.bG,h.off,h.n1,h.n12⟩
 ·have:G=q:=by simpa[Value.ownBlock] using e
  have hs:q=b:=hs;exact h.bG (by rw[this,hs])
 have hs:q=b:=hs;exact (h.off i g).1 (by rw[<-hs];exact e)
def g_.step (h:g_ w b n σ G c st A Φ) (r:i<n) {s:ao} {Φ':Nat->Prop} (hg:Gr w (Φ i) Φ') (y:Dk w' (A i) s Φ') (k:Kp (Φ i) w w') :
  g_ w' b n (dY σ i s) G c st A (fun j=>if j=i then Φ' else Φ j):=by
 have hb:=h.blk.lt;have hG:=h.rowBlk.2
 have p:∀j,j<n->∀q,(if j=i then Φ' else Φ j) q->q<w.heap.size->Φ j q:=fun j g q l m=>by
  by_cases e:j=i
  ·rw[if_pos e] at l;rw[e];exact hg q m l
  rwa [if_neg e] at l
 have o:∀j,j<n->∀q,(if j=i then Φ' else Φ j) q->¬q<w.heap.size->j=i:=fun j g q l m=>by
  by_cases e:j=i
  ·exact e
  rw[if_neg e] at l;exact absurd ((h.dk j g).lt l).2 m
 refine ⟨h.blk.kp k (h.off i r).1,h.row.kp k fun q l hs=>?_,fun j g=>?_,fun j t q g u v x=>?_,h.b10,h.bG,fun j g=>⟨fun l=>(h.off j g).1 (p j g b l hb),fun l=>(h.off j g).2 (p j g G l hG)⟩,h.n1,h.n12⟩
 ·have:G=q:=by simpa[Value.ownBlock] using l
  exact (h.off i r).2 (by rw[this];exact hs)
 ·by_cases e:j=i
  ·subst e;rw[if_pos rfl,P_];exact y
  rw[if_neg e,Vu _ _ e];exact (h.dk j g).kp k fun q hs l=>e (h.sep j i q g r l hs)
 by_cases m:q<w.heap.size
 ·exact h.sep j t q g u (p j g q v m) (p t u q x m)
 rw[o j g q v m,o t u q x m]
def g_.gr (h:g_ w b n σ G c st A Φ) (m:i<n) {Φ':Nat->Prop} (hg:Gr w (Φ i) Φ'):Gr w (Er b n G Φ) (Er b n G (fun j=>if j=i then Φ' else Φ j)):=by
 intro q l g;rcases g with g|g|⟨j,k,g⟩
 ·exact .inl g
 ·exact .inr (.inl g)
 refine .inr (.inr ⟨j,k,?_⟩);by_cases e:j=i
 ·subst e;rw[if_pos rfl] at g;exact hg q l g
 rwa [if_neg e] at g
def g_.sub (e:i<n):∀q,Φ i q->Er b n G Φ q:=fun q g=>.inr (.inr ⟨i,e,g⟩)
def g_.ptr (h:g_ w b n σ G c st A Φ) (e:i<n):w.cell? ⟨G,i,none⟩=some (.pointer (some ⟨A i,0,none⟩)):=by
 have j:=h.row;have hl:((List.range n).map fun i=>Value.pointer (some ⟨A i,0,none⟩)).length=n:=s_;have:=aH.cell (g:=G) (c:=c) (by rw[hl];exact j) i (by rw[hl];exact e);rw[this,gq,pB e];rfl
def x_m (h:Bk w b n σ F) :
  Cl 21 #[.pointer (some ⟨b,0,none⟩)] w fun e w'=>e=.returned (.int .i64 n)/\w'=w:=by
 obtain ⟨G,c,st,A,Φ,g,hF⟩:=h;have i:=g.blk.c0;clear g hF;go_enter func21,ntmps21;go_wp2;go_ret;exact ⟨rfl,rfl⟩
def w_c (g:g_ w b n σ G c st A Φ) (i:Nat) (j:i<n) :
  Cl 45 #[.pointer (some ⟨b,0,none⟩),.int .i64 i] w fun e w'=>e=.returned (.pointer (some ⟨A i,0,none⟩))/\w'=w:=by
 have o:=g.blk.c0;have p:=g.ptr j;have h:¬((n:Int)<=(i:Int)):=o_;have hn:¬((i:Int)<0):=o_;have k:decide ((i:Int)<0)=false:=h_ hn;have l:decide ((n:Int)<=(i:Int))=false:=h_ h;have m:(i:Int)<(n:Int):=o_;clear g;go_enter func45,ntmps45;go_wp2;go_ret;exact ⟨rfl,rfl⟩
def ni (g:g_ w b n σ G c st A Φ) (i:Nat) (j:i<n) :
  Cl 181 #[.pointer (some ⟨b,0,none⟩),.int .i64 i] w fun e w'=>e=.returned (.int .i64 0)/\w'=w:=by
 have h:=Zz (w_c g i j);clear g;go_enter func181,ntmps181;go_wp2_with fail;refine h.o.mono ?_;rintro e k ⟨rfl,rfl⟩;go_wp2;go_ret;exact ⟨rfl,rfl⟩
def mB (g:g_ w b n σ G c st A Φ) :
  Cl 121 #[.pointer (some ⟨b,0,none⟩)] w fun e w'=>e=.returned (.int .i64 0)/\(∃j,g_ w' b n σ G c j A Φ)/\Kp (·=b) w w':=by
 have k:=g.blk.c1;have l:=g.blk.c2;have f1:=g.blk.frozen 1;have i:=Zz (fun z=>g.spent z);have h:=Zz (fun z=>(Kp.refl (·=b) w).setCell ⟨b,1,none⟩ (.int .i64 z) (.inl rfl));clear g;go_enter func121,ntmps121;go_wp2;go_ret;exact ⟨rfl,⟨_,i.o _⟩,h.o _⟩
def x_n (h:Bk w b n σ F) (i at':Nat) (j:i<n) (l:at'<140) :
  Cl 130 #[.pointer (some ⟨b,0,none⟩),.int .i64 i,.int .i64 at'] w fun e w'=>e=.returned (.tuple #[.string (if (σ i).dead then ByteArray.empty else tl (σ i).now at'),.int .i64 (if (σ i).dead then 20 else 0)])/\w'=w:=by
 obtain ⟨G,c,st,A,Φ,g,hF⟩:=h;have k:=Zz (ni g i j);have HR:=Zz (KN (g.dk i j) at' l);have p:=g.blk.c0;have q:=g.blk.c2;have r:=g.ptr j;have o:(i:Int)<(n:Int):=o_;generalize (if (σ i).dead then ByteArray.empty else tl (σ i).now at')=t at *;generalize (if (σ i).dead then (20:Int) else 0)=s at *;clear g hF;go_enter func130,ntmps130;go_wp2_with fail;refine k.o.mono ?_;rintro e m ⟨rfl,rfl⟩;go_wp2_with fail;refine HR.o.mono ?_;rintro e m ⟨rfl,rfl⟩;go_wp2;go_ret2;exact ⟨rfl,rfl⟩
def z_aq (h:Bk w b n σ F) (i at':Nat) (j:i<n) (f:at'<140) (s:B_) (hs:s.size<=2048) (I:(σ i).wait<=100000) :
  Cl 144 #[.pointer (some ⟨b,0,none⟩),.int .i64 i,.int .i64 at',.string s] w fun e w'=>e=.returned (.int .i64 (if (σ i).dead then 20 else 0))/\∃k,Gr w F k/\Bk w' b n (dY σ i ((σ i).write at' s)) k/\Kp F w w':=by
 obtain ⟨G,c,st,A,Φ,p,hF⟩:=h;have a:=Zz (ni p i j);have y:=Zz (mB p);have d:=Zz (fun (W:W_) (z:Int) (g:g_ W b n σ G c z A Φ)=>CV (g.dk i j) at' f s hs I);have M:(i:Int)<(n:Int):=o_;have o:=Zz hF;generalize (if (σ i).dead then (20:Int) else 0)=P at *;clear p hF;go_enter func144,ntmps144;go_wp2_with fail;refine a.o.mono ?_;rintro e x ⟨rfl,rfl⟩;go_wp2_with fail;refine y.o.mono ?_;rintro e Q ⟨rfl,⟨z,g⟩,r⟩;have N:=g.blk.c0;have O:=g.ptr j;have t:=Zz r;have m:=Zz g;clear g r;go_wp2_with fail;refine (d.o _ z m.o).mono ?_;rintro e w3 ⟨rfl,Φ',hg,v,hk⟩
 have u:∃k,Gr x F k/\Bk w3 b n (dY σ i ((σ i).write at' s)) k/\Kp F x w3 :=
  ⟨_,fun q l J=>(o.o q).2 (m.o.gr j hg q (ea l t.o.size) J),⟨G,c,z,A,_,m.o.step j hg v hk,fun _=>Iff.rfl⟩,
   (t.o.mono fun q _ l=>(o.o q).2 (.inl l)).then hk fun q _ l=>(o.o q).2 (g_.sub j q l)⟩
 have E:=Zz u;clear hg v hk u;go_wp2;go_ret;exact ⟨rfl,E.o⟩
def z_ay (h:Bk w b n σ F) (i:Nat) (j:i<n) :
  Cl 145 #[.pointer (some ⟨b,0,none⟩),.int .i64 i] w fun e w'=>e=.returned (.int .i64 (if (σ i).dead then 20 else 0))/\∃k,Gr w F k/\Bk w' b n (dY σ i (σ i).flush) k/\Kp F w w':=by
 obtain ⟨G,c,st,A,Φ,p,hF⟩:=h;have y:=Zz (ni p i j);have x:=Zz (mB p);have a:=Zz (fun (W:W_) (z:Int) (g:g_ W b n σ G c z A Φ)=>D0 (g.dk i j));have E:(i:Int)<(n:Int):=o_;have o:=Zz hF;generalize (if (σ i).dead then (20:Int) else 0)=M at *;clear p hF;go_enter func145,ntmps145;go_wp2_with fail;refine y.o.mono ?_;rintro e v ⟨rfl,rfl⟩;go_wp2_with fail;refine x.o.mono ?_;rintro e N ⟨rfl,⟨z,g⟩,r⟩;have I:=g.blk.c0;have J:=g.ptr j;have s:=Zz r;have m:=Zz g;clear g r;go_wp2_with fail;refine (a.o _ z m.o).mono ?_;rintro e w3 ⟨rfl,Φ',hg,u,hk⟩
 have t:∃k,Gr v F k/\Bk w3 b n (dY σ i (σ i).flush) k/\Kp F v w3 :=
  ⟨_,fun q l f=>(o.o q).2 (m.o.gr j hg q (ea l s.o.size) f),⟨G,c,z,A,_,m.o.step j hg u hk,fun _=>Iff.rfl⟩,
   (s.o.mono fun q _ l=>(o.o q).2 (.inl l)).then hk fun q _ l=>(o.o q).2 (g_.sub j q l)⟩
 have d:=Zz t;clear hg u hk t;go_wp2;go_ret;exact ⟨rfl,d.o⟩
end
def x_Y {a:Addr} (h:w'.heap[a.block]?=w.heap[a.block]?):w'.cell? a=w.cell? a:=by simp only[World.cell?,h]
def ao.crash (σ:ao):ao:=if σ.dead then σ else ⟨false,σ.last,σ.last,0⟩
section
variable {σ:ao} 
def Fe (h:Dk w d σ F) (V:σ.wait=0) (N:Value) (P:Option Addr) (H T:Nat) (Q:N=.slice P H T) :
  Cl 95 #[.pointer (some ⟨d,0,none⟩),N] w fun e w'=>e=.returned (.tuple #[])/\∃n,Gr w F n/\Dk w' d σ.crash n/\Kp F w w':=by
 subst Q;have r:=Zz (w_b h 0 d_);have R:=Zz h
 cases o:σ.dead with
 | true =>
  rw[o] at r
  have c:σ.crash=σ:=by unfold ao.crash;rw[if_pos o]
  rw[c];clear h;go_enter func95,ntmps95;go_wp2_with fail;refine r.o.mono ?_;rintro e O ⟨rfl,rfl⟩;simp only[if_true];go_wp2;refine bodyPost_ret (results_none rfl _ _ _) rfl ?_
  exact ⟨rfl,F,Gr.refl _ _,R.o,Kp.refl _ _⟩
 | false =>
  rw[o] at r
  have c:σ.crash=⟨false,σ.last,σ.last,0⟩:=by simp[ao.crash,o]
  rw[c];obtain ⟨la,l,h9,xs,k,s,t,M,z,W,X,Y,m⟩:=h.ex;rw[o] at k;rw[V] at z;have h3:=Zz h.hn;have f:=Zz h.hl;have a:=ab.ne_ k t d_;have C:=ab.ne_ k s d_
  have J:(sv σ.now).toArray.size=140:=by rw[tK,cN,h.hn]
  have i:(sv σ.last).length=140:=by rw[cN,h.hl]
  have E:b_ w.drew (.slice (some ⟨la,0,none⟩) 140 140) (sv σ.last):=by
   refine ⟨some ⟨la,0,none⟩,140,by rw[i],by rw[i];decide,d_,fun _=>⟨la,0,rfl,fun j h6=>?_⟩⟩;rw[jm];exact (s.drew.cell j).trans (by rw[lP])
  have U:=Zz E
  have L:Hid (∀u∈sv σ.last,u.oneCell'=true):=Zz fun u A=>by
   obtain ⟨x,_,rfl⟩:=List.mem_map.1 A;rfl
  have b:=Zz k.drew;have K:=Zz t.drew;have h0:Hid ((List.take 0 (sv σ.now).toArray.toList++sv σ.last++List.drop (0+(sv σ.last).length) (sv σ.now).toArray.toList).toArray=(sv σ.last).toArray):=Zz (by rw[i,List.drop_eq_nil_of_le (by rw[<-Array.length_toList] at J;omega)];simp)
  have S:Hid (∀v:W_,v=(w.drew.setRow l (sv σ.last).toArray).setCell ⟨d,2,none⟩ (.slice none 0 0)->∃n,Gr w F n/\Dk v d ⟨false,σ.last,σ.last,0⟩ n/\Kp F w v):=Zz fun v e=>by
   subst e;refine ⟨(fun q=>q=d\/q=la\/q=l\/(Value.slice none 0 0).ownBlock=some q:Nat->Prop),?_,⟨⟨la,l,.slice none 0 0,[],?_,?_,?_,M,World.ownsRow_nil _ 10 _ 2,W,X,Y,fun _=>Iff.rfl⟩,f.o,f.o⟩,((Kp.refl F w).drew.setRow l _ (.inl ((m l).2 (.inr (.inr (.inl rfl)))))).setCell _ _ (.inl ((m d).2 (.inl rfl)))⟩
   ·intro q h7 Z
    rcases Z with h|h|h|h
    ·exact (m q).2 (.inl h)
    ·exact (m q).2 (.inr (.inl h))
    ·exact (m q).2 (.inr (.inr (.inl h)))
    cases h
   ·exact (k.drew.farRow (cs':=(sv σ.last).toArray) a).set_ 2 (.slice none 0 0)
   ·exact (s.drew.farRow (cs':=(sv σ.last).toArray) M).far (p:=⟨d,2,none⟩) (Ne.symm C) _
   exact (t.drew.setRow (cs':=(sv σ.last).toArray)).far (p:=⟨d,2,none⟩) (Ne.symm a) _
  obtain ⟨h2,h5,rfl⟩:=lM z;have B:=k.c2;have h4:Hid (∃w0:W_,w0=w):=Zz ⟨w,rfl⟩;clear h s t z m E k;go_enter func95,ntmps95;go_wp2_with fail;refine r.o.mono ?_;rintro e O ⟨rfl,rfl⟩;simp only[Bool.false_eq_true,if_false]
  go_upto_region 2 with fail
  go_loopw [14] (fun D wr=>D=.int .i64 0/\wr=O) (fun _ _=>0)
  case atStart=>exact ⟨rfl,rfl⟩
  case round =>
   obtain ⟨rfl,rfl⟩:=hrel
   go_upto_region 7 with fail
   clear B;refine fs ?_;generalize wr.drew=h1 at *;have G:=b.o.c0;have I:=b.o.c1;refine fp 0 ?_;refine fp 1 ?_;refine fp 2 ?_;refine cw 3 I ?_;refine fp 4 ?_;refine fp 5 ?_;refine fp 6 ?_;refine cw 7 G ?_;refine Dj 8 rfl rfl k_ ?_;refine jS rfl underlying38 k_ rfl (by rw[<-i];rfl) K.o U.o (by rw[i];decide) (by rw[i];decide) (by rw[i,J];decide) L.o ?_;rw[h0.o];refine ⟨oW (oW oN),?_⟩;have y:=b.o.farRow (g:=l) (cs':=(sv σ.last).toArray) a;refine fe ?_;have h8:=y.cell 2;have f3:=y.frozen 2;clear G I y;generalize h1.setRow l (sv σ.last).toArray=w3 at *;go_wp2
   go_end0
   exact ⟨rfl,S.o _ rfl⟩
end
section
variable {b m:Nat} {σ:Nat->ao} 
def I0 (σ:Nat->ao) (i:Nat):Nat->ao:=fun j=>if j<i then (σ j).crash else σ j
def Fa (σ:Nat->ao):I0 σ 0=σ:=by funext j;simp[I0]
def Cf (σ:Nat->ao) (i:Nat):dY (I0 σ i) i (σ i).crash=I0 σ (i+1):=by
 funext j;unfold dY I0;by_cases e:j=i
 ·subst e;rw[if_pos rfl,if_pos o_]
 rw[if_neg e];by_cases h:j<i
 ·rw[if_pos h,if_pos o_]
 rw[if_neg h,if_neg o_]
def xd (σ:Nat->ao) (i:Nat):I0 σ i i=σ i:=by unfold I0;rw[if_neg o_]
def RowsB (w:W_) (v:Value) (m:Nat):Prop:=∃e g c,v=.slice (some ⟨e,g,none⟩) m c/\m<=c/\∀i,i<m->∃A k h,w.cell? ⟨e,g+i,none⟩=some (.slice A k h)
def He (h:Bk w b n σ F) (T:∀i,i<n->(σ i).wait=0) (v:Value) (hv:RowsB w v n) (O:∀l o c,v=.slice (some ⟨l,o,none⟩) n c->¬F l) :
  Cl 55 #[.pointer (some ⟨b,0,none⟩),v] w fun e w'=>e=.returned (.tuple #[])/\∃t,Gr w F t/\Bk w' b n (I0 σ n) t/\Kp F w w':=by
 obtain ⟨l,o,cv,rfl,h7,Q⟩:=hv;have h5:=Zz (O l o cv rfl);obtain ⟨G,c,st,A,Φ,r,hF⟩:=h;have H:=Zz Q;have h4:=Zz T;have Y:Hid (¬Er b n G Φ l):=Zz fun h=>h5.o ((hF l).2 h);have U:Hid (∃Φ',Gr w (Er b n G Φ) (Er b n G Φ')/\g_ w b n (I0 σ 0) G c st A Φ'):=Zz ⟨Φ,Gr.refl _ _,by rw[Fa];exact r⟩;have R:=Zz (Kp.refl (Er b n G Φ) w);have L:=r.blk.c0;have W:=Zz hF;have H1:=r.n12;clear r hF Q T O;go_enter func55,ntmps55
 go_upto_region 2 with fail
 clear L
 go_loopw [4,5,13] (fun _ _ z wr=>∃i:Nat,i<=n/\z=.int .i64 i/\Hid (∃Φ',Gr w (Er b n G Φ) (Er b n G Φ')/\g_ wr b n (I0 σ i) G c st A Φ')/\Hid (Kp (Er b n G Φ) w wr)) (fun _ _ z _=>n-(intOf z).toNat)
 case atStart=>exact ⟨0,o_,rfl,U,R⟩
 case round =>
  clear U R;obtain ⟨i,H2,rfl,u,p⟩:=hrel;by_cases m:i<n
  ·have H0:(i:Int)<(n:Int):=o_
   obtain ⟨Φ',hg,hb⟩:=u.o;have M:=Zz hg;have J:=Zz hb;have h0:=hb.ptr m;obtain ⟨s,E,y,I⟩:=H.o i m;have N:=(p.o.block l (fV w ⟨l,o+i,none⟩ I) Y.o)
   have Z:wr.cell? ⟨l,o+i,none⟩=some (.slice s E y):=by rw[<-I];exact x_Y N
   have P:=Zz (Fe (hb.dk i m) (by rw[xd];exact h4.o i m) (.slice s E y) s E y rfl);rw[xd] at P;have B:=Zz (Cf σ i);clear hg hb I N u;go_wp2_with fail;refine P.o.mono ?_;rintro e h6 ⟨rfl,t,a,g2,d⟩;have x:=J.o.step m a g2 d;rw[B.o] at x;have h3:Hid (∃Φ',Gr w (Er b n G Φ) (Er b n G Φ')/\g_ h6 b n (I0 σ (i+1)) G c st A Φ'):=Zz ⟨_,M.o.then (J.o.gr m a) p.o.size,x⟩;have C:=Zz (p.o.then d fun q g f=>M.o q g (g_.sub m q f));clear a g2 d x h0 Z;go_wp2;go_roundw
   case rel=>exact ⟨i+1,o_,by go_num,h3,C⟩
   case measure=>simp[intOf];omega
  obtain rfl:i=n:=o_;obtain ⟨Φ',hg,hb⟩:=u.o;have h8:=hb.blk.c2;have h9:=hb.blk.c3;have h1:=hb.blk.frozen 2;have h2:=hb.blk.frozen 3;have k:=((Kp.refl (·=b) wr).setCell ⟨b,2,none⟩ (.bool false) (.inl rfl)).setCell ⟨b,3,none⟩ (.int .i64 0) (.inl rfl)
  have K:Hid (g_ ((wr.setCell ⟨b,2,none⟩ (.bool false)).setCell ⟨b,3,none⟩ (.int .i64 0)) b i (I0 σ i) G c st A Φ'):=Zz (by
   refine ⟨(hb.blk.set_ 2 (.bool false)).set_ 3 (.int .i64 0),hb.row.kp k fun q g hs=>?_,fun j V=>(hb.dk j V).kp k fun q hs g=>?_,hb.sep,hb.b10,hb.bG,hb.off,hb.n1,hb.n12⟩
   ·have:G=q:=by simpa[Value.ownBlock] using g
    have hs:q=b:=hs;exact hb.bG (by rw[this,hs])
   have hs:q=b:=hs
   exact (hb.off j V).1 (by rw[<-hs];exact g))
  have D:=Zz ((p.o.then k fun q g hs=>by have hs:q=b:=hs;exact .inl hs).mono (S:=F) fun q _ g=>(W.o q).2 g);have X:Hid (Gr w F (Er b i G Φ')):=Zz fun q g f=>(W.o q).2 (hg q g f);clear hg hb k;go_wp2
  go_end0
  exact ⟨rfl,_,X.o,⟨G,c,st,A,Φ',K.o,fun _=>Iff.rfl⟩,D.o⟩
end
def S8 (w:W_) (cs:Array Value) (e:TypeId) (h:cs.size<=maxLen):b_ (w.alloc (.cells cs e)) (.slice (some ⟨w.heap.size,0,none⟩) cs.size cs.size) cs.toList:=(aH.lit_ w w.heap.size e cs (bS _) h).reads
def infoPD:(prog.info? 76).map (fun i=>(i.zero,i.size,i.bytes))=some (some (.pointer none),1,8):=k_
def ry (A:Nat->Nat) (i:Nat):List Value:=(List.range i).map fun j=>.pointer (some ⟨A j,0,none⟩)
def rA (A:Nat->Nat) (i:Nat):(ry A i).length=i:=by simp[ry]
def Q1 (A:Nat->Nat) (i d:Nat):ry (fun j=>if j=i then d else A j) (i+1)=ry A i++[.pointer (some ⟨d,0,none⟩)]:=by
 unfold ry;rw[List.range_succ,List.map_append];congr 1
 ·apply List.map_congr_left
  intro j e;have:j<i:=List.mem_range.1 e;simp[show j≠i by omega]
 simp
def dk0:ao:=⟨false,List.replicate 140 ByteArray.empty,List.replicate 140 ByteArray.empty,0⟩
def Dk.not_row {σ:ao} (h:Dk w d σ F) (g:aH w base 76 v xs) (i:v.ownBlock=some q):¬F q:=by
 obtain ⟨la,z,a,ys,l,m,n,t,o,u,x,y,p⟩:=h.ex;intro e;rcases (p q).1 e with rfl|rfl|rfl|e
 ·exact hH g l d_ i
 ·exact hH g m d_ i
 ·exact hH g n d_ i
 rcases o.2 with ⟨rfl,_⟩|⟨j,s,k,rfl,_,r,_⟩
 ·cases e
 have:j=q:=by simpa[Value.ownBlock] using e
 subst this;exact hH g (show ab w j 242 k from r) d_ i
def BN (w0:Nat) (W:W_) (i:Nat):Prop:=∃(v:Value) (A:Nat->Nat) (Φ:Nat->Nat->Prop),ab W w0 119 #[v,.int .i64 0,.bool false,.int .i64 0]/\aH W w0 76 v (ry A i)/\(∀j,j<i->Dk W (A j) dk0 (Φ j))/\(∀j e q,j<i->e<i->Φ j q->Φ e q->j=e)/\(∀j,j<i->∀q,Φ j q->w0+1<=q)
def Zt (w:W_) (n:Nat) (hw:10<=w.heap.size) (hn:1<=n/\n<=12) :
  Cl 51 #[.int .i64 n,.int .i64 140] w fun e w'=>∃b F,e=.returned (.pointer (some ⟨b,0,none⟩))/\Bk w' b n (fun _=>dk0) F/\(∀q,F q->w.heap.size<=q)/\Kp ac w w':=by
 have iS:min (n:Int) 12=(n:Int):=o_;have lU:max (1:Int) (n:Int)=(n:Int):=o_;have y0:=Zz (fun (W:W_) (h:10<=W.heap.size)=>En W h);have C:Hid (BN w.heap.size (w.alloc (.cells #[.slice none 0 0,.int .i64 0,.bool false,.int .i64 0] 119)) 0):=Zz ⟨_,fun _=>0,fun _ _=>False,ab.new w _ _,aH.nil_ _ _ _,fun j k=>o_,fun j m q k=>o_,fun j k=>o_⟩;have h8:=Zz ((Kp.refl ac w).alloc (.cells #[.slice none 0 0,.int .i64 0,.bool false,.int .i64 0] 119));have B:Hid (w.heap.size+1<=(w.alloc (.cells #[.slice none 0 0,.int .i64 0,.bool false,.int .i64 0] 119)).heap.size):=Zz s_;go_enter func51,ntmps51
 go_upto_region 3 with fail
 generalize x2:w.alloc (.cells #[.slice none 0 0,.int .i64 0,.bool false,.int .i64 0] 119)=w1 at *;clear x2;obtain ⟨b,hb⟩:∃b,w.heap.size=b:=⟨_,rfl⟩;rw[hb] at C B ⊢;have s:=Zz hb
 go_loopw [11] (fun h0 wr=>∃i:Nat,i<=n/\h0=.int .i64 i/\Hid (BN b wr i)/\Hid (Kp ac w wr)/\Hid (b+1<=wr.heap.size)) (fun h0 _=>n-(intOf h0).toNat)
 case atStart=>exact ⟨0,o_,rfl,C,h8,B⟩
 case round =>
  clear C h8 B;obtain ⟨i,hi,rfl,V,X,h1⟩:=hrel;by_cases y7:i<n
  ·have y9:(i:Int)<(n:Int):=o_
   obtain ⟨v,A,Φ,y,p,E,U,G⟩:=V.o;have L:=Zz y.drew;have h2:=Zz (show aH wr.drew b 76 v (ry A i) from p);have S:Hid (∀j,j<i->Dk wr.drew (A j) dk0 (Φ j)):=Zz fun j k=>(E j k).kp (Kp.refl ac wr).drew (fun _ h=>h.elim);have H3:=Zz U;have H8:=Zz G;have H6:=Zz X.o.drew;have T:Hid (b+1<=wr.drew.heap.size):=h1;clear y p E U G V X h1
   go_upto_region 4 with fail
   refine fs ?_;generalize wr.drew=w2 at *;have N:=L.o.c0;refine fp 0 ?_;refine fp 1 ?_;refine fp 2 ?_;refine fp 3 ?_;refine cw 4 N ?_;refine fp 5 ?_;refine fd 6 fun K h3 r=>?_;go_simp;refine (y0.o _ (by have:=T.o;have:=s.o;omega)).mono ?_;rintro e w3 ⟨d,F,rfl,hD,hF,t⟩;have Z:=Zz (L.o.kp t fun h=>h);have H5:=Zz (h2.o.kp t fun _ _ h=>h);have h6:=Zz (H6.o.trans t);have H2:Hid (b+1<=w3.heap.size):=Zz (cL T.o t.size)
   have J:Hid ((∀j,j<i+1->Dk w3 (if j=i then d else A j) dk0 (if j=i then F else Φ j))/\(∀j m q,j<i+1->m<i+1->(if j=i then F else Φ j) q->(if m=i then F else Φ m) q->j=m)/\(∀j,j<i+1->∀q,(if j=i then F else Φ j) q->b+1<=q)):=Zz (by
    refine ⟨fun j k=>?_,fun j m q k jO l x=>?_,fun j k q l=>?_⟩
    ·by_cases e:j=i
     ·rw[if_pos e,if_pos e];exact hD
     rw[if_neg e,if_neg e];exact (S.o j o_).kp t fun _ h=>h.elim
    ·by_cases e:j=i
     ·by_cases P:m=i
      ·omega
      rw[if_pos e] at l;rw[if_neg P] at x;have:=hF q l;have:=((S.o m o_).lt x).2;omega
     by_cases P:m=i
     ·rw[if_neg e] at l;rw[if_pos P] at x
      have:=hF q x;have:=((S.o j o_).lt l).2;omega
     rw[if_neg e] at l;rw[if_neg P] at x;exact H3.o j m q o_ o_ l x
    by_cases e:j=i
    ·rw[if_pos e] at l;have:=hF q l;have:=T.o;omega
    rw[if_neg e] at l;exact H8.o j o_ q l)
   refine r _ _ (oK (Z.o.cell 0) oN) ?_;clear r K N t hD hF L h2 H6 T S H3 H8;refine fd 7 fun K h3 r=>?_;go_simp;have f:=Zz (H5.o.alloc (.cells #[.pointer (some ⟨d,0,none⟩)] 76));have Q:=Zz (Z.o.alloc (.cells #[.pointer (some ⟨d,0,none⟩)] 76));have H0:=Zz (h6.o.alloc (.cells #[.pointer (some ⟨d,0,none⟩)] 76));have H1:Hid (b_ (w3.alloc (.cells #[.pointer (some ⟨d,0,none⟩)] 76)) (.slice (some ⟨w3.heap.size,0,none⟩) 1 1) [.pointer (some ⟨d,0,none⟩)]):=Zz (S8 w3 #[.pointer (some ⟨d,0,none⟩)] 76 (by simp[maxLen]));have H:Hid (b+1<=(w3.alloc (.cells #[.pointer (some ⟨d,0,none⟩)] 76)).heap.size):=Zz (by have:=H2.o;simp;omega);have Y:Hid (∀j,j<i+1->Dk (w3.alloc (.cells #[.pointer (some ⟨d,0,none⟩)] 76)) (if j=i then d else A j) dk0 (if j=i then F else Φ j)):=Zz fun j k=>(J.o.1 j k).kp ((Kp.refl ac w3).alloc _) fun _ h=>h.elim;refine r _ _ (oK (Q.o.cell 0) oN) ?_;clear r K Z H5 h6 H2;generalize w3.alloc (.cells #[.pointer (some ⟨d,0,none⟩)] 76)=y6 at *;refine Dj 8 rfl rfl k_ ?_;refine x_2 rfl underlying117 infoPD rfl d_ rfl rfl (fun u H4=>by simp at H4;subst H4;rfl) f.o H1.o (by show 0<1;decide) (by have:=H.o;omega) (by rw[rA];show (i+1)*8<=140737488355328;omega) ?_;intro v1 z R hg;rw[<-Q1 A i d] at R;have a:Kp (fun q=>some q=v.ownBlock) y6 z:=Kp.of_grown hg fun _ h=>h;have h4:∀q,some q=v.ownBlock->b<=q:=fun q h=>(f.o.lt q h.symm).1;have M:=Zz (Q.o.kp a fun h=>hH f.o Q.o d_ h.symm);have H7:=Zz R;have x3:=Zz (H0.o.then a fun q o h=>(by have:=h4 q h;have:=s.o;omega:False));have y4:Hid (b+1<=z.heap.size):=Zz (cL H.o a.size);have y5:Hid (∀j,j<i+1->Dk z (if j=i then d else A j) dk0 (if j=i then F else Φ j)):=Zz fun j k=>(Y.o j k).kp a fun q o D=>(Y.o j k).not_row f.o o.symm D;refine ⟨oW oN,?_⟩;obtain ⟨I,O,rfl⟩:=lM R;clear R hg a h4 f Q H0 H1 H Y;have N:=M.o.c0;have f0:=M.o.frozen 0;refine fp 9 ?_;refine fp 10 ?_;refine fd 11 fun K h3 r=>?_;go_simp;refine r _ _ (oW oN) ?_;clear r K;refine fe ?_;have c:=(Kp.refl (fun q=>q=b) z).setCell ⟨b,0,none⟩ (.slice I (ry (fun j=>if j=i then d else A j) (i+1)).length O) (.inl rfl);have h7:=M.o.set_ 0 (.slice I (ry (fun j=>if j=i then d else A j) (i+1)).length O);have h9:=H7.o.kp c fun q o e=>hH H7.o M.o d_ (o.trans (congrArg some e));have y2:Hid (BN b (z.setCell ⟨b,0,none⟩ (.slice I (ry (fun j=>if j=i then d else A j) (i+1)).length O)) (i+1)):=Zz ⟨_,_,fun j=>if j=i then F else Φ j,h7,h9,fun j k=>(y5.o j k).kp c fun q e D=>by have:=J.o.2.2 j k q D;omega,J.o.2.1,J.o.2.2⟩;have x1:=Zz (x3.o.then c fun q o e=>(by have:=s.o;omega:False));have x5:Hid (b+1<=(z.setCell ⟨b,0,none⟩ (.slice I (ry (fun j=>if j=i then d else A j) (i+1)).length O)).heap.size):=Zz (cL y4.o c.size);clear c h7 h9 N f0;go_wp2;go_roundw
   case rel=>exact ⟨i+1,o_,by go_num,y2,x1,x5⟩
   case measure=>simp[intOf];omega
  obtain rfl:i=n:=o_;obtain ⟨v,A,Φ,y,p,E,U,G⟩:=V.o;obtain ⟨g,h5,rfl,br,y8,mw⟩:=p.form (by rw[rA];omega);have H9:b≠g:=fun e=>hH p y d_ (by rw[e];rfl);rw[rA] at p y;go_wp2;go_ret
  have x0:g_ wr b i (fun _=>dk0) g h5 0 A Φ:=by
   refine ⟨y,?_,E,U,by have:=s.o;omega,H9,fun j k=>⟨fun h=>by have:=G j k b h;omega,fun h=>(E j k).not_row p (by rfl) h⟩,o_,o_⟩;obtain ⟨x6,x7|⟨y1,y3,x4,x8,e4,x9⟩⟩:=p
   ·exact absurd x7.1 s_
   exact ⟨x6,.inr ⟨y1,y3,x4,x8,by have:=s.o;omega,x9⟩⟩
  refine ⟨b,Er b i g Φ,rfl,⟨g,h5,0,A,Φ,x0,fun _=>Iff.rfl⟩,fun q o=>?_,X.o⟩;rcases o with rfl|rfl|⟨j,k,o⟩
  ·have:=s.o;omega
  ·have:=s.o;omega
  have:=G j k q o;have:=s.o;omega
def se (e:a_ w) (i v:Nat) (h:(d64L.map fun (n:Nat)=>Value.int .u8 n)[i]?=some (.int .u8 v)):w.cell? ⟨5,i,none⟩=some (.int .u8 v):=by
 obtain ⟨t,f,hz⟩:=e.d64;rw[cell_of_row w _ i _ _ _ hz,lP,h]
def tz_2 (w:W_) (g:a_ w):Cl 258 #[.int .u64 2] w fun e w'=>e=.returned (.int .i64 1)/\w'=w:=by
 have i:=se g 1 1 rfl;clear g;have h:IntKind.u64.wrap (bits .and .u64 2 (IntKind.u64.wrap (-2))*285870213051353865)=571740426102707730:=d_;go_enter func258,ntmps258;go_wp2;go_ret;exact ⟨rfl,rfl⟩
def tzz_2 (w:W_) (g:a_ w):Cl 234 #[.int .u64 2] w fun e w'=>e=.returned (.int .i64 1)/\w'=w:=by
 have H:=Zz (tz_2 w g);clear g;go_enter func234,ntmps234;go_wp2_with fail;refine H.o.mono ?_;rintro e h ⟨rfl,rfl⟩;go_wp2;go_ret;exact ⟨rfl,rfl⟩
def ME (w:W_) (g:a_ w):Cl 191 #[.int .i64 2] w fun e w'=>e=.returned (.int .i64 1)/\w'=w:=by
 have H:=Zz (tzz_2 w g);clear g;have h:bits .and .i64 2 1=0:=d_;go_enter func191,ntmps191;go_wp2_with fail;refine H.o.mono ?_;rintro e i ⟨rfl,rfl⟩;go_wp2;go_ret;exact ⟨rfl,rfl⟩
def tz_4 (w:W_) (g:a_ w):Cl 258 #[.int .u64 4] w fun e w'=>e=.returned (.int .i64 2)/\w'=w:=by
 have i:=se g 3 2 rfl;clear g;have h:IntKind.u64.wrap (bits .and .u64 4 (IntKind.u64.wrap (-4))*285870213051353865)=1143480852205415460:=d_;go_enter func258,ntmps258;go_wp2;go_ret;exact ⟨rfl,rfl⟩
def tzz_4 (w:W_) (g:a_ w):Cl 234 #[.int .u64 4] w fun e w'=>e=.returned (.int .i64 2)/\w'=w:=by
 have H:=Zz (tz_4 w g);clear g;go_enter func234,ntmps234;go_wp2_with fail;refine H.o.mono ?_;rintro e h ⟨rfl,rfl⟩;go_wp2;go_ret;exact ⟨rfl,rfl⟩
def MY (w:W_) (g:a_ w):Cl 191 #[.int .i64 4] w fun e w'=>e=.returned (.int .i64 2)/\w'=w:=by
 have H:=Zz (tzz_4 w g);clear g;have h:bits .and .i64 4 3=0:=d_;go_enter func191,ntmps191;go_wp2_with fail;refine H.o.mono ?_;rintro e i ⟨rfl,rfl⟩;go_wp2;go_ret;exact ⟨rfl,rfl⟩
def tz_16 (w:W_) (g:a_ w):Cl 258 #[.int .u64 16] w fun e w'=>e=.returned (.int .i64 4)/\w'=w:=by
 have i:=se g 15 4 rfl;clear g;have h:IntKind.u64.wrap (bits .and .u64 16 (IntKind.u64.wrap (-16))*285870213051353865)=4573923408821661840:=d_;go_enter func258,ntmps258;go_wp2;go_ret;exact ⟨rfl,rfl⟩
def tzz_16 (w:W_) (g:a_ w):Cl 234 #[.int .u64 16] w fun e w'=>e=.returned (.int .i64 4)/\w'=w:=by
 have H:=Zz (tz_16 w g);clear g;go_enter func234,ntmps234;go_wp2_with fail;refine H.o.mono ?_;rintro e h ⟨rfl,rfl⟩;go_wp2;go_ret;exact ⟨rfl,rfl⟩
def S_ (w:W_) (g:a_ w):Cl 191 #[.int .i64 16] w fun e w'=>e=.returned (.int .i64 4)/\w'=w:=by
 have H:=Zz (tzz_16 w g);clear g;have h:bits .and .i64 16 15=0:=d_;go_enter func191,ntmps191;go_wp2_with fail;refine H.o.mono ?_;rintro e i ⟨rfl,rfl⟩;go_wp2;go_ret;exact ⟨rfl,rfl⟩
def dP (s:Nat):Nat:=if s=2 then 1 else 2
def sf (w:W_) (g:a_ w) (s:Nat) (hs:s=2\/s=4):Cl 221 #[.int .i64 (dP s:Int)] w fun e w'=>e=.returned (.int .i64 s)/\w'=w:=by
 have H:=Zz (S_ w g);clear g;rcases hs with rfl|rfl
 ·change Calls _ _ #[.int .i64 1] w _
  go_enter func221,ntmps221;go_wp2_with fail;refine H.o.mono ?_;rintro e h ⟨rfl,rfl⟩;go_wp2;go_ret;exact ⟨rfl,rfl⟩
 change Calls _ _ #[.int .i64 2] w _;go_enter func221,ntmps221;go_wp2_with fail;refine H.o.mono ?_;rintro e h ⟨rfl,rfl⟩;go_wp2;go_ret;exact ⟨rfl,rfl⟩
def sec (s t i:Nat):Bool:=(t / 2 ^ (dP s-1-i)) % 2==1
def Rr (w:W_):Cl 222 #[.int .i64 0,.int .i64 1,.int .i64 0] w fun e w'=>e=.returned (.bool false)/\w'=w:=by
 have g:bits .and .i64 0 1=0:=d_;go_enter func222,ntmps222;go_wp2;go_ret;exact ⟨rfl,rfl⟩
def Rb (w:W_):Cl 222 #[.int .i64 1,.int .i64 1,.int .i64 0] w fun e w'=>e=.returned (.bool true)/\w'=w:=by
 have g:bits .and .i64 1 1=1:=d_;go_enter func222,ntmps222;go_wp2;go_ret;exact ⟨rfl,rfl⟩
def RR (w:W_):Cl 222 #[.int .i64 0,.int .i64 2,.int .i64 0] w fun e w'=>e=.returned (.bool false)/\w'=w:=by
 have g:bits .and .i64 0 1=0:=d_;go_enter func222,ntmps222;go_wp2;go_ret;exact ⟨rfl,rfl⟩
def Qz (w:W_):Cl 222 #[.int .i64 0,.int .i64 2,.int .i64 1] w fun e w'=>e=.returned (.bool false)/\w'=w:=by
 have g:bits .and .i64 0 1=0:=d_;go_enter func222,ntmps222;go_wp2;go_ret;exact ⟨rfl,rfl⟩
def OA (w:W_):Cl 222 #[.int .i64 1,.int .i64 2,.int .i64 0] w fun e w'=>e=.returned (.bool false)/\w'=w:=by
 have g:bits .and .i64 0 1=0:=d_;go_enter func222,ntmps222;go_wp2;go_ret;exact ⟨rfl,rfl⟩
def Pn (w:W_):Cl 222 #[.int .i64 1,.int .i64 2,.int .i64 1] w fun e w'=>e=.returned (.bool true)/\w'=w:=by
 have g:bits .and .i64 1 1=1:=d_;go_enter func222,ntmps222;go_wp2;go_ret;exact ⟨rfl,rfl⟩
def OD (w:W_):Cl 222 #[.int .i64 2,.int .i64 2,.int .i64 0] w fun e w'=>e=.returned (.bool true)/\w'=w:=by
 have g:bits .and .i64 1 1=1:=d_;go_enter func222,ntmps222;go_wp2;go_ret;exact ⟨rfl,rfl⟩
def RC (w:W_):Cl 222 #[.int .i64 2,.int .i64 2,.int .i64 1] w fun e w'=>e=.returned (.bool false)/\w'=w:=by
 have g:bits .and .i64 2 1=0:=d_;go_enter func222,ntmps222;go_wp2;go_ret;exact ⟨rfl,rfl⟩
def OS (w:W_):Cl 222 #[.int .i64 3,.int .i64 2,.int .i64 0] w fun e w'=>e=.returned (.bool true)/\w'=w:=by
 have g:bits .and .i64 1 1=1:=d_;go_enter func222,ntmps222;go_wp2;go_ret;exact ⟨rfl,rfl⟩
def O1 (w:W_):Cl 222 #[.int .i64 3,.int .i64 2,.int .i64 1] w fun e w'=>e=.returned (.bool true)/\w'=w:=by
 have g:bits .and .i64 3 1=1:=d_;go_enter func222,ntmps222;go_wp2;go_ret;exact ⟨rfl,rfl⟩
def rF (w:W_) (s t i:Nat) (hs:s=2\/s=4) (h:t<s) (g:i<dP s):Cl 222 #[.int .i64 t,.int .i64 (dP s:Int),.int .i64 i] w fun e w'=>e=.returned (.bool (sec s t i))/\w'=w:=by
 rcases hs with rfl|rfl
 ·obtain rfl:i=0:=by have:dP 2=1:=rfl;omega
  rcases (by omega:t=0\/t=1) with rfl|rfl
  ·exact Rr w
  exact Rb w
 rcases (by have:dP 4=2:=rfl;omega:i=0\/i=1) with rfl|rfl
 ·rcases (by omega:t=0\/t=1\/t=2\/t=3) with rfl|rfl|rfl|rfl
  ·exact RR w
  ·exact OA w
  ·exact OD w
  exact OS w
 rcases (by omega:t=0\/t=1\/t=2\/t=3) with rfl|rfl|rfl|rfl
 ·exact Qz w
 ·exact Pn w
 ·exact RC w
 exact O1 w
def jh (p:B_) (b:Bool):B_:=if b then p.extract 32 64 else p.extract 0 32
def C3 (w:W_) (p:B_) (hp:p.size=64) (b:Bool):Cl 223 #[.string p,.bool b] w fun e w'=>e=.returned (.string (jh p b))/\w'=w:=by
 cases b
 ·go_enter func223,ntmps223
  go_wp2;go_ret;exact ⟨rfl,rfl⟩
 go_enter func223,ntmps223;go_wp2;go_ret;exact ⟨rfl,rfl⟩
end Go.Proofs.YtdkheklakfbeeaaGreatDoor
