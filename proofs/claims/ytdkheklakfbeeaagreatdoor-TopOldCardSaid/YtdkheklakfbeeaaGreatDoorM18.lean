/- Part 18 of the proof. -/
import Derived.DeepKeys4
import Derived.Maps.RangeWalk
import Derived.Test.YtdkheklakfbeeaaGreatDoorM17
set_option linter.all false
set_option maxRecDepth 100000
set_option maxHeartbeats 16000000
namespace Go.Proofs.YtdkheklakfbeeaaGreatDoor
open Go.RowKit Go.Proofs.Tryz
variable {B:Nat->B_}{C:List B_}{S:cj}{an b bz c d g i n p s sp st t:Nat}{f:Nat->Option B_}{key:List UInt8}{l:List fu}{vm vs:Value}{w w':W_}{σ:ao}
section
variable {P:Program} {k e t:TypeId} {α:Type} {M:KM P k α} {r:Nat} {f:α->Option Value} {dom dn:List α} [DecidableEq α]
def FU (M:KM P k α) (w:W_) (b r:Nat) (f:α->Option Value) (dom dn:List α):Prop :=
 ∃D left cS,w.ranges P k HR b r dom.length D left cS/\(∀a∈dom,left (M.kk a)=decide (a∉dn))/\(∀e,left e=true->∃a,a∈dom/\M.kk a=e)/\(∀a v,f a=some v->∀z,D.atKey (M.kk a) z=.held v)/\(∀a∈dom,M.ok a/\(f a).isSome=true)
def aS.range (h:aS M w b f dom) (K:Maps.Keyed P k) (o:P.underlying t=some (.map k e)) :
  ∃w',(Instr.range t (.map (some b))).run P w=.ok (.pointer (some ⟨w.heap.size,0,none⟩)) w'/\FU M w' b w.heap.size f dom []/\Kp ac w w'/\w'.heap.size=w.heap.size+1:=by
 obtain ⟨D,g,s,i,j,l⟩:=h.own;obtain ⟨w',n,r,hg,hs⟩:=g.range K o;refine ⟨w',n,⟨D,_,_,r,fun a ha=>?_,fun p hk=>l p hk,j,fun a ha=>⟨h.oks a ha,(h.isSome a).2 ha⟩⟩,Kp.of_grown hg (fun q m=>by cases m),hs⟩;rw[i a (h.oks a ha),(h.isSome a).2 ha];simp
def FU.next (h:FU M w b r f dom dn) (K:Maps.Keyed P k) (p:TypeId) :
  ((∀a∈dom,a∈dn)/\(Instr.next (.pointer (some ⟨r,0,none⟩)) false p).run P w=.ok (.tuple #[.bool false]) w) \/
  ∃a v w',a∈dom/\a∉dn/\f a=some v/\(Instr.next (.pointer (some ⟨r,0,none⟩)) false p).run P w=.ok (.tuple #[.bool true,M.kv a,v]) w'/\FU M w' b r f dom (dn++[a])/\Kp (·=r) w w'/\w'.heap.size=w.heap.size/\w'.rangeLeft b r<w.rangeLeft b r /\
   (Instr.entry (.pointer (some ⟨r,0,none⟩))).run P w'=.ok (.tuple #[M.kv a,v]) w':=by
 obtain ⟨D,left,cS,c,hl,z,t,m⟩:=h;rcases c.next K p with ⟨_,S,n⟩|⟨key,v,o,y,w',G,U,s,hv,R,n,E,O,hg,Q,I⟩
 ·refine .inl ⟨fun a ha=>?_,n⟩
  have:=hl a ha;rw[S] at this;simpa using this.symm
 obtain ⟨a,ha,rfl⟩:=z o s;obtain ⟨i,hs⟩:=m a ha;obtain ⟨u,x⟩:=Option.isSome_iff_exists.1 hs;have N:key=M.kv a:=K.inj U (M.key a i)
 have J:v=u:=by
  have j:=t a u x .nil;rw[R] at j;have l:some ((DataW.held v,[]):DataW Value × List MemPlace)=some y:=hv;injection l with l;rw[<-l] at j;injection j
 subst N J
 have hn:a∉dn:=by
  have:=hl a ha;rw[s] at this;simpa using this.symm
 refine .inr ⟨a,v,w',ha,hn,x,n,⟨D,_,G,E,fun g d=>?_,fun o hk=>?_,t,m⟩,Kp.of_grown hg (fun q T=>by injection T),Q,by rw[c.left_eq,E.left_eq];exact O,I⟩
 ·show (left (M.kk g) && !(M.kk g).sameKey (M.kk a))=_
  rw[hl g d];by_cases e:g=a
  ·subst e
   rw[WideAt.sameKey_self (K.key (M.key _ i))];simp
  have:(M.kk g).sameKey (M.kk a)=false:=by
   cases hs:(M.kk g).sameKey (M.kk a)
   ·rfl
   exact absurd (M.inj _ _ (m g d).1 i (WideAt.sameKey_eq hs)) e
  rw[this];simp[e]
 simp only[Bool.and_eq_true] at hk;exact z o hk.1
def FU.lt (h:FU M w b r f dom dn):r<w.heap.size/\b<w.heap.size:=by
 obtain ⟨D,left,cS,e,_⟩:=h;exact ⟨e.lt,e.owns.lt⟩
def FU.kp {S:Nat->Prop} (h:FU M w b r f dom dn) (e:Kp S w w') (hb:¬S b) (q:¬S r):FU M w' b r f dom dn/\w'.rangeLeft b r=w.rangeLeft b r:=by
 obtain ⟨o,p⟩:=h.lt;obtain ⟨D,left,cS,g,j⟩:=h;have m:=e.block b p hb;have n:=e.block r o q
 have i:w'.ranges P k HR b r dom.length D left cS:=by
  obtain ⟨es,clock,since,seen,l,s,t,u,v,x,y⟩:=g;exact ⟨es,clock,since,seen,l,m.trans s,t,u,v,n.trans x,y⟩
 exact ⟨⟨D,left,cS,i,j⟩,by rw[g.left_eq,i.left_eq]⟩
end
section
variable {P:Program} {k e t:TypeId} {α:Type} {M:KM P k α} {f:α->Option Value} {dom:List α}
def aS.clear (h:aS M w b f dom) (j:P.underlying t=some (.map k e)) (l:TypeId) :
  ∃w',(Builtin.clear_ #[t] l #[.map (some b)]).run P w=.ok (.tuple #[]) w'/\aS M w' b (fun _=>none) []/\Kp (·=b) w w':=by
 obtain ⟨es,clock,hb⟩:=h.map;have g:=MapKept.heap_set (o':=.map #[] clock) hb;refine ⟨ChangeMaps.setBlock w b (.map #[] clock),?_,?_,⟨rfl,rfl,rfl,by simp[ChangeMaps.setBlock],fun q _ i=>g.2 q i⟩⟩
 ·simp[Builtin.clear_,run_underlying j,MapKept.run_getObj_map hb,MapKept.run_setObj_map _ hb,Result.andThen,ChangeMaps.setBlock]
 exact ⟨s_,List.nodup_nil,s_,.map [],⟨#[],clock,g.1,⟨s_,MapKept.stamped_empty clock,s_⟩,bS _,rfl⟩,rfl,fun a _=>rfl,s_,by intro m h;cases h⟩
end
def Tryz.laidOut:laidOutB prog=true:=k_
def z_an:Maps.Keyed prog 148:=Maps.Keyed.of_law (deep_law_laid Tryz.laidOut (m:=2) o_ (of_decide_eq_true k_) k_ k_)
def TA (a b:Nat) (ha:a<=100000) (hb:b<=100000):keyOf prog 148 (.agg #[.int .i64 a,.int .i64 b])=some (.string (keyBytes [.int .i64 a,.int .i64 b])):=by
 have g:∀n:Nat,n<=100000->(Lit.int .i64 n).wf=true:=fun n h=>Xl n o_;have i:prog.keyType 148=true:=k_;have e:prog.cellsOf 148=2:=k_;have j:prog.cellsOf 3=1:=k_;obtain ⟨m,hm⟩:∃m,prog.types.size=m+1:=⟨_,rfl⟩;unfold keyOf;simp only[underlying148];rw[if_pos (by simp[i,Value.formed,underlying148,e]),hm];unfold Program.keyLits;simp only[underlying148,Value.cells];rw[if_pos (by simp[e])];simp[j,Program.keyLits,zk,g a ha,g b hb]
noncomputable def KPl:KM prog 148 (Nat × Nat) where
 kk a:=.string (keyBytes [.int .i64 a.1,.int .i64 a.2])
 kv a:=.agg #[.int .i64 a.1,.int .i64 a.2]
 ok a:=a.1<=100000/\a.2<=100000
 key a h:=TA a.1 a.2 h.1 h.2
 inj a b ha hb h:=by
  have e:=TA a.1 a.2 ha.1 ha.2;have g:=TA b.1 b.2 hb.1 hb.2;rw[h] at e;have i:=z_an.inj e g;have j:=congrArg (fun z:Array Value=>z.toList) (Value.agg.inj i);simp only[List.cons.injEq,Value.int.injEq,true_and,and_true] at j;exact Prod.ext o_ o_
def B1 (d:Nat) (f:Nat->Option B_) (e:List Nat):Nat × Nat->Option Value:=fun p=>if p.2<d/\p.1*d+p.2∈e then dg f (p.1*d+p.2) else none
def wpl (d:Nat) (f:Nat->Option B_):Nat × Nat->Option Value:=fun p=>if p.2<d then dg f (p.1*d+p.2) else none
def UF (d:Nat) (f:Nat->Option B_):B1 d f []=fun _=>none:=by funext p;simp[B1]
def Tb (m:0<d) (f:Nat->Option B_) (j:List Nat) (a:Nat) (y:B_) (h:f a=some y):lu (B1 d f j) (a / d,a % d) (.string y)=B1 d f (j++[a]):=by
 have hm:=gx a m;have i:=Nat.div_add_mod a d;rw[Nat.mul_comm] at i;funext p;obtain ⟨x,z⟩:=p;unfold lu B1;by_cases e:(x,z)=(a / d,a % d)
 ·obtain ⟨rfl,rfl⟩:=Prod.mk.inj e
  rw[if_pos rfl,if_pos ⟨hm,by rw[i];exact List.mem_append_right _ List.mem_cons_self⟩];show _=dg f (a / d*d+a % d);rw[i];unfold dg;rw[h];rfl
 rw[if_neg e]
 have o:¬(z<d/\x*d+z=a):=fun ⟨hz,n⟩=>e (by
  subst n
  rw[Nat.mul_comm x d,Nat.mul_add_div m,Nat.mul_add_mod,Nat.div_eq_of_lt hz,Nat.mod_eq_of_lt hz,Nat.add_zero])
 by_cases g:z<d/\x*d+z∈j
 ·rw[if_pos g,if_pos ⟨g.1,List.mem_append_left _ g.2⟩]
 rw[if_neg g,if_neg fun k=>?_];rcases List.mem_append.1 k.2 with l|l
 ·exact g ⟨k.1,l⟩
 exact o ⟨k.1,List.mem_singleton.1 l⟩
def Yd (d:Nat) (f:Nat->Option B_) (dom e:List Nat) (g:∀k,(f k).isSome=true->k∈dom) (i:∀k∈dom,k∈e):B1 d f e=wpl d f:=by
 funext p;unfold B1 wpl;by_cases hz:p.2<d
 ·rw[if_pos hz]
  by_cases hm:p.1*d+p.2∈e
  ·rw[if_pos ⟨hz,hm⟩]
  rw[if_neg fun h=>hm h.2]
  have:f (p.1*d+p.2)=none:=by
   cases j:f (p.1*d+p.2) with
   | none=>rfl
   | some y=>exact absurd (i _ (g _ (by rw[j];rfl))) hm
  unfold dg;rw[this];rfl
 rw[if_neg hz,if_neg fun h=>hz h.1]
def Pk (n:Nat):∀l:List Nat,l.Nodup->(∀a∈l,a<n)->l.length<=n:=by
 induction n with
 | zero =>
  intro l _ h
  cases l with
  | nil=>exact bS _
  | cons a l=>exact absurd (h a List.mem_cons_self) (Nat.not_lt_zero _)
 | succ n i =>
  intro l hn h
  have e:=i (l.erase n) (hn.erase n) fun a ha=>by
   have g:=(hn.mem_erase_iff).1 ha;have:=h a g.2;omega
  rw[List.length_erase] at e;split at e<;>omega
def Xf:prog.underlying 98=some (.map 148 9):=underlying98
section
variable {v:Nat} {dom:List Nat}
def Hi (H3:a_ w) (hv:ab w v 88 (i3 b an key (some ⟨st,0,none⟩) (some g))) (hs:ab w st 116 (gU b an key S vs vm sp)) (hM:aS KI w g (dg f) dom) (s:pJ S.data S.slots) (Y:∀k∈dom,k<S.slots*S.data) :
  Cl 38 #[.pointer (some ⟨v,0,none⟩)] w fun e w'=>∃B dm,e=.returned (.map (some B))/\aS KPl w' B (wpl S.data f) dm/\Kp ac w w':=by
 have rR:0<S.data:=by have:=s.1;omega
 have zy:S.slots*S.data<=1000:=by
  obtain ⟨o,p,X⟩:=s;exact cL (Nat.mul_le_mul (show S.slots<=4 by omega) p) d_
 have x7:=Zz (fun W (l:Kp ac w W)=>x_b (hs.kp l fun h=>h));have x5:=Zz (fun W (l:Kp ac w W) k hk=>z_as W (H3.no l) S.data S.slots s k hk);have x8:=Zz hv;have x6:=Zz (Tb rR f);have y1:=Zz (fun i=>Yd S.data f dom i fun k hk=>(hM.isSome k).1 (by unfold dg;cases r:f k with|none=>rw[r] at hk;cases hk|some y=>rfl));have x2:=Zz (fun k hk=>(⟨Y k hk,ea (Y k hk) zy⟩:k<S.slots*S.data/\k<1000));have H0:=hM.alloc (.map #[] 0);obtain ⟨w2,H7,Z,Q,y7⟩:=H0.range sY Bq;have G:Kp ac w (w.alloc (.map #[] 0)):=(Kp.refl ac w).alloc _;have h8:=Zz (G.trans Q);have I:=Zz ((aS.made (M:=KPl) w).no Q);have c4:(w.alloc (.map #[] 0)).cell? ⟨v,4,none⟩=some (.map (some g)):=(hv.kp G fun h=>h).cell 4;rw[World.size_alloc] at H7 Z;have C:=Zz Z;have H6:Hid (g<w.heap.size):=Zz hM.lt
 have vh:Hid (∀a y,dg f a=some y->∃z,f a=some z/\y=.string z):=Zz fun a y h=>by
  unfold dg at h
  cases r:f a with
  | none=>rw[r] at h;cases h
  | some z=>rw[r] at h;injection h with h;exact ⟨z,rfl,h.symm⟩
 clear H3 hv hs hM H0 s Y Q G Z y7;obtain ⟨B,D⟩:∃B,w.heap.size=B:=⟨_,rfl⟩;rw[D] at H7 I C H6;have P:=Zz D;clear D;have nB:=@run_makeMap prog;go_enter func38,ntmps38
 go_upto_region 3 with fail
 rw[P.o]
 go_loopw [4,5,6,7,8] (fun _ _ _ _ _ wr=>∃i dm,Hid (FU KI wr g (B+1) (dg f) dom i)/\Hid (aS KPl wr B (B1 S.data f i) dm)/\Hid (dm.length<=i.length/\i.Nodup/\∀a∈i,a<1000)/\Hid (Kp ac w wr)) (fun _ _ _ _ _ wr=>wr.rangeLeft g (B+1))
 case atStart=>exact ⟨[],[],C,by rw[UF];exact I,Zz ⟨bS _,List.nodup_nil,fun a h=>by cases h⟩,h8⟩
 case round =>
  clear I C h8;obtain ⟨i,dm,HR,N,O,J⟩:=hrel;rcases HR.o.next sY 0 with ⟨h7,h3⟩|⟨a,y0,w3,ha,h2,h0,h3,L,V,wL,h1,x9⟩
  ·have x4:=Zz (y1.o i h7)
   clear h7;go_wp2;go_ret;exact ⟨B,dm,rfl,by rw[<-x4.o];exact N.o,J.o⟩
  rw[show KI.kv a=.int .i64 a from rfl] at h3 x9;obtain ⟨y,h4,rfl⟩:=vh.o a y0 h0;obtain ⟨H,h5⟩:=x2.o a ha;have T:=Zz (J.o.then V fun q hq e=>by have e:q=B+1:=e;have:=P.o;omega);have x1:=Zz (N.o.kp V fun e=>by have e:B=B+1:=e;omega);have y2:=Zz L;have y3:=Zz h1;have H4:=Zz H;have h6:=Zz (x6.o i a y h4)
  have A:Hid ((i++[a]).Nodup/\(∀x∈i++[a],x<1000)/\i.length<1000):=Zz (by
   obtain ⟨_,n2,n3⟩:=O.o
   have o:(i++[a]).Nodup:=by
    rw[List.nodup_append];refine ⟨n2,List.nodup_cons.2 ⟨s_,List.nodup_nil⟩,?_⟩;intro x j z hz e;subst e;rw[List.mem_singleton] at hz;subst hz;exact h2 j
   have p:∀x∈i++[a],x<1000:=fun x j=>by
    rcases List.mem_append.1 j with j|j
    ·exact n3 x j
    rw[List.mem_singleton.1 j];exact h5
   have X:=Pk 1000 _ o p;rw[cd] at X
   exact ⟨o,p,by simp only[A_] at X;omega⟩)
  have K:Hid (a / S.data<=100000/\a % S.data<=100000):=Zz ⟨cL (Nat.div_le_self _ _) o_,cL (Nat.mod_le _ _) o_⟩;have H9:=Zz (fun W l=>x5.o W l a H4.o);have y9:w3.cell? ⟨v,3,none⟩=some (.pointer (some ⟨st,0,none⟩)):=(x8.o.kp T.o fun h=>h).cell 3;clear h0 V L h1 h4 ha H h5 h2 HR N J H4;obtain ⟨t,H5⟩:∃q,a / S.data=q:=⟨_,rfl⟩;obtain ⟨u,H2⟩:∃q,a % S.data=q:=⟨_,rfl⟩;rw[H5,H2] at H9 h6 K;clear H5 H2;go_wp2_with fail;refine (x7.o w3 T.o).mono ?_;rintro e w4 ⟨rfl,n⟩;have h9:=Zz (T.o.trans n);have H8:=Zz (x1.o.no n);have c:=Zz (y2.o.kp n (fun h=>h) (fun h=>h));clear n x1 y9;go_wp2_with fail;refine (H9.o w4 h9.o).mono ?_;rintro e w5 ⟨rfl,m⟩;have y8:=Zz (h9.o.trans m);have F:=H8.o.no m;have d:=c.o.1.kp m (fun h=>h) (fun h=>h);obtain ⟨x0,H1,R,U⟩:=F.put z_an Xf (by have:=O.o.1;have:=A.o.2.2;simp only[maxLen];omega) (a:=(t,u)) K.o (.string y);replace H1:(Instr.mapUpdate 98 (.map (some B)) (.agg #[.int .i64 t,.int .i64 u]) (.string y)).run prog w5=.ok () x0:=H1;have y6:=Zz (y8.o.then U fun q hq e=>by have e:q=B:=e;have:=P.o;omega);have E:=d.1.kp U (fun e=>by have e:g=B:=e;have:=H6.o;omega) (fun e=>by have e:B+1=B:=e;omega);rw[h6.o] at R;have x3:=Zz R;have y4:=Zz E.1;have y5:Hid (x0.rangeLeft g (B+1)<wr.rangeLeft g (B+1)):=Zz (by rw[E.2,d.2,c.o.2];exact y3.o)
  have mI:Hid ((e8 dm (t,u)).length<=(i++[a]).length):=Zz (by
   have o:(e8 dm (t,u)).length<=dm.length+1:=by unfold e8;split<;>simp
   have:=O.o.1;rw[cd,A_]
   omega)
  clear m U F R d E c H8;go_wp2;go_roundw
  case rel=>exact ⟨_,_,y4,x3,Zz ⟨mI.o,A.o.1,A.o.2.1⟩,y6⟩
  case measure=>exact y5.o
end
def ao.write_len (σ:ao) (i:Nat) (s:B_):(σ.write i s).now.length=σ.now.length:=by
 unfold ao.write;split
 ·rfl
 exact iO
def ao.wrs_cons (σ:ao) (x:Wr) (l:List Wr):σ.wrs (x::l)=(σ.write x.at' x.cell).wrs l:=rfl
def ao.wrs_len (l:List Wr):∀σ:ao,(σ.wrs l).now.length=σ.now.length:=by
 induction l with
 | nil=>intro σ;rfl
 | cons x l e=>intro σ;rw[ao.wrs_cons,e,ao.write_len]
def ao.write_off (σ:ao) (i k:Nat) (s:B_) (h:i≠k):tl (σ.write i s).now k=tl σ.now k:=by
 unfold ao.write;split
 ·rfl
 show (σ.now.set i s).getD k _=σ.now.getD k _;rw[be,be,List.getElem?_set_ne h]
def ao.write_on (σ:ao) (i:Nat) (s:B_) (e:σ.dead=false) (g:i<σ.now.length):tl (σ.write i s).now i=s:=by
 unfold ao.write;rw[e];show tl (σ.now.set i s) i=s;rw[yW _ _ _ _ g,if_pos rfl]
def ao.wrs_off (l:List Wr):∀(σ:ao) (k:Nat),(∀x∈l,x.at'≠k)->tl (σ.wrs l).now k=tl σ.now k:=by
 induction l with
 | nil=>intro σ k _;rfl
 | cons x l g =>
  intro σ k h;rw[ao.wrs_cons,g _ _ fun y e=>h y (List.mem_cons_of_mem _ e),ao.write_off _ _ _ _ (h x List.mem_cons_self)]
def ao.wrs_at (P:B_->Prop) (l:List Wr):∀(σ:ao) (k:Nat),σ.dead=false->k<σ.now.length->(∀x∈l,x.at'=k->P x.cell)->(P (tl σ.now k)\/∃x∈l,x.at'=k)->P (tl (σ.wrs l).now k):=by
 induction l with
 | nil =>
  intro σ k _ _ _ h;rcases h with h|⟨x,i,_⟩
  ·exact h
  cases i
 | cons x l n =>
  intro σ k m hk i h;rw[ao.wrs_cons];refine n _ _ (by rw[ao.write_dead];exact m) (by rw[ao.write_len];exact hk) (fun y g=>i y (List.mem_cons_of_mem _ g)) ?_;by_cases e:x.at'=k
  ·refine .inl ?_
   subst e;rw[ao.write_on _ _ _ m hk];exact i x List.mem_cons_self rfl
  rw[ao.write_off _ _ _ _ e];rcases h with h|⟨y,g,j⟩
  ·exact .inl h
  rcases List.mem_cons.1 g with rfl|g
  ·exact absurd j e
  exact .inr ⟨y,g,j⟩
def ao.wrs_same (l:List Wr):∀(σ:ao),σ.now.length=140->(∀x∈l,x.at'<140/\tl σ.now x.at'=x.cell)->(σ.wrs l).now=σ.now:=by
 induction l with
 | nil=>intro σ _ _;rfl
 | cons x l o =>
  intro σ h i
  have g:(σ.write x.at' x.cell).now=σ.now:=by
   unfold ao.write;split
   ·rfl
   show σ.now.set x.at' x.cell=σ.now;obtain ⟨k,m⟩:=i x List.mem_cons_self;rw[<-m];refine C8 fun j=>?_;by_cases e:x.at'=j
   ·subst e
    rw[List.getElem?_set_self (by rw[h];exact k),NA _ _ (by rw[h];exact k)]
   rw[List.getElem?_set_ne e]
  rw[ao.wrs_cons,o _ (by rw[g];exact h) (fun y n=>by rw[g];exact i y (List.mem_cons_of_mem _ n)),g]
def ao.flush_now (σ:ao):σ.flush.now=σ.now:=by
 unfold ao.flush;split<;>rfl
def ao.flush_dead (σ:ao):σ.flush.dead=σ.dead:=by
 unfold ao.flush;split<;>rfl
def ao.write_of_dead (h:σ.dead=true) (i:Nat) (s:B_):σ.write i s=σ:=by unfold ao.write;rw[h];rfl
def ao.flush_of_dead (h:σ.dead=true):σ.flush=σ:=by unfold ao.flush;rw[h];rfl
structure ao.Whole (σ:ao):Prop where
 len:σ.now.length=140
 wait:σ.wait=0
 last:σ.dead=false->σ.last=σ.now
def ao.Whole.flush (h:σ.now.length=140) (g:σ.dead=true->σ.wait=0):σ.flush.Whole:=by
 refine ⟨by rw[ao.flush_now];exact h,?_,fun e=>?_⟩
 ·unfold ao.flush
  split
  ·rename_i e;exact g e
  rfl
 rw[ao.flush_dead] at e;unfold ao.flush;rw[e];rfl
def ao.Whole.crash (h:σ.Whole):σ.crash=σ:=by
 unfold ao.crash;split
 ·rfl
 rename_i m
 have e:σ.dead=false:=by simpa using m
 have k:=h.last e;have l:=h.wait;obtain ⟨a,b,c,d⟩:=σ;have g:a=false:=e;have i:c=b:=k;have j:d=0:=l;show (⟨false,c,c,0⟩:ao)=⟨a,b,c,d⟩;rw[g,i,j]
def yD {x y:Nat} (k:x<n) (l:y<n) (i:(x+t) % n=(y+t) % n):x=y:=by
 have g:=Nat.div_add_mod (x+t) n;have j:=Nat.div_add_mod (y+t) n;rw[i] at g;rcases Nat.lt_trichotomy ((x+t) / n) ((y+t) / n) with e|e|e
 ·have:=Nat.mul_le_mul_left n e
  have h:n*((x+t) / n).succ=n*((x+t) / n)+n:=Nat.mul_succ _ _;omega
 ·rw[e] at g;omega
 have:=Nat.mul_le_mul_left n e;have h:n*((y+t) / n).succ=n*((y+t) / n)+n:=Nat.mul_succ _ _;omega
def YW (t:Nat) {a:Nat} (ha:a<n):∃c,c<n/\(c+t) % n=a:=by
 refine ⟨(a+(n-t % n)) % n,gx _ o_,?_⟩;have h:=gx t (show 0<n by omega);have g:=Nat.div_add_mod t n;rw[Nat.mod_add_mod]
 have e:a+(n-t % n)+t=a+n*(t / n+1):=by
  rw[Nat.mul_succ];omega
 rw[e,Nat.add_mul_mod_self_left,Nat.mod_eq_of_lt ha]
def QT (n t:Nat) (hn:0<n):((List.range n).map fun c=>(c+t) % n).Perm (List.range n):=by
 refine (List.perm_ext_iff_of_nodup ?_ List.nodup_range).2 fun a=>?_
 ·unfold List.Nodup
  rw[List.pairwise_map]
  exact List.pairwise_lt_range.imp_of_mem fun ha hb i h=>by
   have:=yD (List.mem_range.1 ha) (List.mem_range.1 hb) h;omega
 rw[List.mem_map,List.mem_range];constructor
 ·rintro ⟨c,_,rfl⟩
  exact gx _ hn
 intro ha;obtain ⟨c,g,e⟩:=YW t ha;exact ⟨c,List.mem_range.2 g,e⟩
def cS (p:Nat->Bool) (n:Nat):Nat:=(List.range n).countP p
def v_L (p:Nat->Bool) (n:Nat):cS p (n+1)=cS p n+(if p n=true then 1 else 0):=by
 unfold cS;rw[List.range_succ,List.countP_append,List.countP_singleton]
def QX (p:Nat->Bool) (n t:Nat) (hn:0<n):cS (fun c=>p ((c+t) % n)) n=cS p n:=by
 have h:=(QT n t hn).countP_eq p;rw[List.countP_map] at h;exact h
def w_B {p q:Nat->Bool} (n:Nat) (h:∀i,i<n->p i=q i):cS p n=cS q n:=by
 unfold cS
 exact List.countP_congr fun x e=>by rw[h x (List.mem_range.1 e)]
def Ty (p:Nat->Bool) (n:Nat):cS p n<=n:=by
 unfold cS;have:=List.countP_le_length (p:=p) (l:=List.range n);rw[zH] at this;exact this
def pk_cnt (n:Nat) (E:Nat->Int) (m:Nat) (hm:m<=n):(pk (hJ n E n) m).length+cS (fun c=>decide (E c≠0)) m=m:=by
 induction m with
 | zero=>rfl
 | succ m i =>
  have h:=i o_;rw[v_L]
  have g:(hJ n E n).getD m false=decide (E m=0):=by
   unfold hJ;rw[be,gq,pB o_];simp[show m<n by omega]
  by_cases e:E m=0
  ·rw[I4 (by rw[g];exact decide_eq_true e),cd,if_neg (by simp[e])]
   simp only[A_];omega
  rw[jN (by rw[g];exact h_ e),if_pos (by simp[e])];omega
def TL {k:Nat} (n:2<=k) (j:k<=8) (m:C.length=k) (hs:MU C 32) (A:Nat->B_) (E:Nat->Int) (l:∀c,c<k+2->E c=0->A c=tl (eg C) c) {T:List B_} {e:Int} (h:DecR (i4 (k+2) A E (k+2)) (hJ (k+2) E (k+2)) T e) :
  (cS (fun c=>decide (E c≠0)) (k+2)<=2->T=eg C/\e=0)/\(2<cS (fun c=>decide (E c≠0)) (k+2)->e=24):=by
 have hp:=pk_cnt (k+2) E (k+2) (bS _);have hl:=za (k+2) A E (k+2);have hb:=zn (k+2) E (k+2);constructor
 ·intro hg
  refine RD h o_ j hl hb m (hs.enE o_ o_ o_) o_ fun s g i=>?_
  have hE:E s=0:=by
   unfold hJ at i;rw[be,gq,pB g] at i;simpa[g] using i
  have:tl (i4 (k+2) A E (k+2)) s=A s:=by
   unfold i4 tl;rw[be,gq,pB g];simp[g,hE]
  rw[this,l s g hE];rfl
 intro hg;exact (Zu h o_ o_ o_ (by rw[hl];omega)).2
def WQ {p:Nat->Bool} (h:cS p n=n):∀i,i<n->p i=true:=by
 induction n with
 | zero=>intro i g;omega
 | succ n j =>
  rw[v_L] at h;have:=Ty p n;intro i g;by_cases hp:p n=true
  ·rw[if_pos hp] at h
   by_cases e:i=n
   ·subst e;exact hp
   exact j o_ i o_
  rw[if_neg hp] at h;omega
def go (d:Nat) (f:Nat->Option B_) (t:Nat):Nat->Bool:=fun c=>(f (t*d+c)).isSome
def Ga (d:Nat) (f:Nat->Option B_) (D:List B_) (t:Nat):Nat->B_:=fun c=>(f (t*d+c)).getD (tl D c)
def i1 (d:Nat) (f:Nat->Option B_) (D:List B_) (t:Nat):List B_:=(List.range d).map (Ga d f D t)
def x_6 (d:Nat) (f:Nat->Option B_) (D:List B_) (t:Nat):(i1 d f D t).length=d:=by simp[i1]
def mixC_fl {D:List B_} {p:Nat->Bool} (h:∀c,c<d->p c=true):fl (Ga d f D t) p d=i1 d f D t:=by
 unfold fl i1
 exact List.map_congr_left fun c e=>by rw[if_pos (h c (List.mem_range.1 e))]
def wpl_at (e:c<d):wpl d f (t,c)=dg f (t*d+c):=if_pos e
section
variable {v B:Nat} {dm:List (Nat × Nat)}
def Lt (H9:a_ w) (hv:ab w v 88 (i3 b an key (some ⟨st,0,none⟩) (some g))) (hs:ab w st 116 (gU b an key S vs vm sp)) (hR:ja w S vs vm) (s:a7 S) (ht:t<S.slots) (hP:aS KPl w B (wpl S.data f) dm) (D:List B_) (z:Int)
  (hz:∀c,c<S.data->(Ga S.data f D t c).size=32) (y2:S.data<=D.length) (Qy:D.length<=100)
  (y7:∀W u,Kp ac w W->iB W u 6 (S.data+2) (i5 b S.slots key (iV S t))->Cl 61 #[u,.int .i64 t] W fun e w'=>∃u vl,e=.returned (.tuple #[u,vl,.int .i64 z])/\(z=0->aH w' W.heap.size 9 u (sv D))/\Kp ac W w') :
  Cl 39 #[.pointer (some ⟨v,0,none⟩),.int .i64 t,.map (some B)] w fun e w'=>∃u C,e=.returned (.tuple #[u,.int .i64 C])/\Kp ac w w' /\
   (cS (go S.data f t) S.data=0/\C=0/\u=.slice none 0 0\/0<cS (go S.data f t) S.data/\cS (go S.data f t) S.data<S.data/\z≠0/\C=z/\u=.slice none 0 0 \/
    0<cS (go S.data f t) S.data/\(cS (go S.data f t) S.data=S.data\/z=0)/\C=0/\aH w' w.heap.size 9 u (sv (eg (i1 S.data f D t)))):=by
 have iJ:pJ S.data S.slots:=⟨s.d2,by have:=s.d8;omega,s.sl⟩
 have kA:S.slots<=4:=by rcases s.sl with h|h<;>omega
 have y1:=Zz (fun W (J:Kp ac w W)=>x_b (hs.kp J fun h=>h));have oT:=Zz (fun W (J:Kp ac w W)=>z_ar W (H9.no J) S.data S.slots iJ t ht);have gI:=Zz (fun W (J:Kp ac w W)=>z_ak (H9.no J) (hs.kp J fun h=>h) (hR.no J) s ht);have ov:=Zz (fun W u k h=>y7 W u k h);have x8:=Zz (fun W=>mr S.data (by have:=s.d8;omega) W)
 have H8:Hid (∀W u,b_ W u (sv (i1 S.data f D t))->Cl 65 #[u] W fun e w'=>∃u,e=.returned (.tuple #[u,.int .i64 0])/\aH w' W.heap.size 9 u (sv (eg (i1 S.data f D t)))/\Kp ac W w'):=Zz fun W u h=>X_ W u _ h (by rw[x_6];have:=s.d2;have:=s.d8;omega) (fun j P=>by
  rw[x_6] at P
  have:tl (i1 S.data f D t) j=Ga S.data f D t j:=by
   unfold i1 tl;rw[be,gq,pB P];rfl
  rw[this]
  exact hz j P)
 have HV:=Zz hv;have h5:=Zz hP;have cD:=s.d2;have Dy:=s.d8;have ky:=Zz (v_L (go S.data f t));have x0:=Zz (Ty (go S.data f t));have xN:=Zz (fun (h:cS (go S.data f t) S.data=S.data)=>WQ h);have x2:=Zz (fun c (x:c<S.data)=>wpl_at (f:=f) (t:=t) x);have y0:=Zz (fun p x5 i (h:i<S.data) M h2=>zg (Ga S.data f D t) p x5 S.data i M h2);have y8:=Zz (fun p h=>qF (Ga S.data f D t) p S.data h);have U:=Zz (fun p x5 h=>fl_eq (Ga S.data f D t) p x5 S.data h);have h1:=Zz (fun p h=>mixC_fl (d:=S.data) (f:=f) (D:=D) (t:=t) (p:=p) h)
 have x1:Hid (∀c y,f (t*S.data+c)=some y->Ga S.data f D t c=y):=Zz fun c y h=>by unfold Ga;rw[h];rfl
 have x4:Hid (∀c,f (t*S.data+c)=none->Ga S.data f D t c=tl D c):=Zz fun c h=>by unfold Ga;rw[h];rfl
 have Q:Hid (∀c,go S.data f t c=(f (t*S.data+c)).isSome):=Zz fun c=>rfl;have H5:=hv.c3;clear H9 hv hs hR s hP hz y7 iJ;obtain ⟨d,hd⟩:∃d,S.data=d:=⟨_,rfl⟩;rw[hd] at y1 oT gI ov x8 H8 h5 cD Dy ky x0 xN x2 y0 y8 U h1 x1 x4 Q y2 ⊢;have y5:Hid ((i1 d f D t).length=d):=Zz (x_6 d f D t);generalize go d f t=p at *;generalize Ga d f D t=X at *;generalize i1 d f D t=MC at *;clear hd;go_enter func39,ntmps39;go_wp2_with fail;refine (y1.o w (Kp.refl ac w)).mono ?_;rintro e w2 ⟨rfl,ae⟩;have E:=Zz ae;clear ae;go_wp2_with fail;refine (oT.o w2 E.o).mono ?_;rintro e w3 ⟨rfl,aw⟩;have ap:=Zz (E.o.trans aw);clear aw E H5;have b6:=x8.o w3;have H7:=Zz (ab.new w3 9 (madeCells #[.string ⟨#[]⟩] d));have ay:=Zz (ap.o.alloc (.cells (madeCells #[.string ⟨#[]⟩] d) 9));have HE:Hid (madeCells #[.string ⟨#[]⟩] d=(sv (fl X (fun c=>decide (c<0) && p c) d)).toArray):=Zz (by rw[EY,<-y8.o (fun c=>decide (c<0) && p c) (fun c _=>s_)]);have cq:Hid (w.heap.size<=w3.heap.size):=Zz ap.o.size
 go_upto_region 4 with fail
 clear b6;generalize w3.alloc (.cells (madeCells #[.string ⟨#[]⟩] d) 9)=w4 at *;rw[HE.o] at H7;generalize w3.heap.size=G at *
 go_loopw [9,10,11,12,29] (fun s9 _ _ _ x7 wr=>∃i:Nat,i<=d/\x7=.int .i64 i/\s9=.int .i64 (cS p i:Nat)/\Hid (ab wr G 9 (sv (fl X (fun c=>decide (c<i) && p c) d)).toArray)/\Hid (Kp ac w wr)) (fun _ _ _ _ x7 _=>d-(intOf x7).toNat)
 case atStart=>exact ⟨0,o_,rfl,rfl,H7,ay⟩
 case round =>
  clear H7 ay;obtain ⟨i,hi,rfl,rfl,l,n⟩:=hrel;by_cases H1:i<d
  ·have bL:(i:Int)<(d:Int):=o_
   have o:=((h5.o.no n.o).look z_an Xf (jW wr) (a:=(t,i)) ⟨by show t<=100000;omega,by show i<=100000;omega⟩).2;rw[x2.o i H1] at o;have Z:=ky.o i;have cH:=x0.o i
   cases r:f (t*d+i) with
   | some y =>
    rw[show dg f (t*d+i)=some (.string y) by unfold dg;rw[r];rfl] at o;replace o:(Instr.lookup 98 (.map (some B)) (.agg #[.int .i64 t,.int .i64 i]) true).run prog wr=.ok (.tuple #[.string y,.bool true]) wr:=o
    have hp:p i=true:=by rw[Q.o,r];rfl
    rw[if_pos hp] at Z
    have H6:i<(sv (fl X (fun c=>decide (c<i) && p c) d)).length:=by rw[cN,Gb];exact H1
    obtain ⟨T,x3⟩:∃T,wr.cell? ⟨G,i,none⟩=some T:=⟨_,by rw[l.o.cell,lP];exact cr H6⟩;have h6:=l.o.frozen i;have m:=Zz (w_V l.o i (.string y))
    rw[w_M,<-x1.o i y r,y0.o _ (fun c=>decide (c<i+1) && p c) i H1 (fun j _ P=>by
     have:decide (j<i+1)=decide (j<i):=by rw[decide_eq_decide];omega
     rw[this]) (by simp[hp]),x1.o i y r] at m
    have E:=Zz (n.o.setCell ⟨G,i,none⟩ (.string y) (.inr cq.o));clear r hp l n;generalize Y:cS p i=H4 at *
    go_upto_region 9 with fail
    clear o x3 h6;generalize wr.setCell ⟨G,i,none⟩ (.string y)=N at *;go_wp2;go_roundw
    case rel=>exact ⟨i+1,o_,by go_num,by rw[Z];go_num,m,E⟩
    case measure=>simp[intOf];omega
   | none =>
    rw[show dg f (t*d+i)=none by unfold dg;rw[r];rfl] at o;replace o:(Instr.lookup 98 (.map (some B)) (.agg #[.int .i64 t,.int .i64 i]) true).run prog wr=.ok (.tuple #[.string ⟨#[]⟩,.bool false]) wr:=o
    have hp:p i=false:=by rw[Q.o,r];rfl
    rw[if_neg (by rw[hp];decide),Nat.add_zero] at Z;have m:=l
    rw[U.o _ (fun c=>decide (c<i+1) && p c) (fun j _=>by
     by_cases e:j=i
     ·subst e;simp[hp]
     have:decide (j<i+1)=decide (j<i):=by rw[decide_eq_decide];omega
     rw[this])] at m
    clear r hp l;go_wp2;go_roundw
    case rel=>exact ⟨i+1,o_,by go_num,by rw[Z];rfl,m,n⟩
    case measure=>simp[intOf];omega
  obtain rfl:i=d:=o_;have cH:=x0.o i;clear x8;by_cases h0:cS p i=0
  ·have h3:=Zz h0
   rw[h0];go_wp2;go_ret2;exact ⟨_,0,rfl,n.o,.inl ⟨h3.o,rfl,rfl⟩⟩
  have h7:((cS p i:Nat):Int)≠0:=o_
  have y6:(((cS p i:Nat):Int)==0)=false:=by rw[pN];exact h7
  have H:Hid (0<cS p i):=Zz o_;have zJ:Hid (G<wr.heap.size):=Zz l.o.lt;by_cases M:cS p i=i
  ·have aF:=xN.o M
   have m:=l;rw[h1.o _ (fun c x=>by simp[x,aF c x])] at m;have h8:=Zz (v_6 m.o i (by rw[cN];exact y5.o) o_);have h3:=Zz M;clear aF l;rw[M] at h7 y6 ⊢;go_wp2_with fail;refine (H8.o _ _ h8.o).mono ?_;rintro e w7 ⟨u,rfl,I,aI⟩;obtain ⟨Au,cu,rfl⟩:=lM I;have h4:=Zz (I.more n.o.size);have bH:=Zz (n.o.trans aI);clear I aI;go_wp2;go_ret2;exact ⟨_,0,rfl,bH.o,.inr (.inr ⟨H.o,.inl h3.o,rfl,h4.o⟩)⟩
  have ML:((cS p i:Nat):Int)<(i:Int):=o_;have jc:Hid (cS p i<i):=Zz o_;obtain ⟨H4,Y⟩:∃H4,cS p i=H4:=⟨_,rfl⟩;have x6:=Zz Y;rw[Y] at h7 y6 ML H jc ⊢;clear Y h0 M;have H5:wr.cell? ⟨v,3,none⟩=some (.pointer (some ⟨st,0,none⟩)):=(HV.o.kp n.o fun h=>h).cell 3;go_wp2_with fail;refine (gI.o wr n.o).mono ?_;rintro e w5 ⟨u5,rfl,y3,H0⟩;have h9:=Zz (l.o.kp H0 fun h=>h);have H3:=Zz (n.o.trans H0);have pR:Hid (G<w5.heap.size):=Zz h9.o.lt;have kz:=Zz (ov.o w5 u5 H3.o (Sy y3));clear H0 y3 l n H5;go_wp2_with fail;refine kz.o.mono ?_;rintro e N ⟨u6,vl,rfl,x9,H2⟩;have bA:=Zz (h9.o.kp H2 fun h=>h);have y9:=Zz (H3.o.trans H2);clear H2 kz h9 H3;by_cases F:z=0
  ·have A:=Zz (x9 F)
   subst F;obtain ⟨R,aC,rfl,br,bC,mw⟩:=A.o.form (by rw[cN];omega);rw[cN] at A ⊢;have qe:Hid (R≠G/\R<N.heap.size):=Zz ⟨by have:=pR.o;omega,bC⟩;have bM:Hid (∀c,c<i->N.cell? ⟨R,c,none⟩=some (.string (tl D c))):=Zz fun c x=>Ra A.o rfl c o_;obtain ⟨dl,lW⟩:∃dl,D.length=dl:=⟨_,rfl⟩;rw[lW] at y2 Qy ⊢;have y4:Hid (Kp (·=G) N N):=Zz (Kp.refl _ _);have K:=bA;rw[U.o _ (fun c=>p c || decide (c<0)) (fun c x=>by simp[x])] at K;clear x9 br bC mw lW bA A
   go_upto_region 18 with fail
   go_loopw [16,17,18,71] (fun _ _ _ L wr=>∃j:Nat,j<=i/\L=.int .i64 j/\Hid (ab wr G 9 (sv (fl X (fun c=>p c || decide (c<j)) i)).toArray)/\Hid (Kp (·=G) N wr)) (fun _ _ _ L _=>i-(intOf L).toNat)
   case atStart=>exact ⟨0,o_,rfl,K,y4⟩
   case round =>
    clear K y4;obtain ⟨j,P,rfl,l,n⟩:=hrel;have O:=Zz (y9.o.then n.o fun q hq e=>by have e:q=G:=e;have:=cq.o;omega);by_cases V:j<i
    ·have pY:(j:Int)<(i:Int):=o_
     have o:=((h5.o.no O.o).look z_an Xf (jW wr) (a:=(t,j)) ⟨by show t<=100000;omega,by show j<=100000;omega⟩).2;rw[x2.o j V] at o
     cases r:f (t*i+j) with
     | some y =>
      rw[show dg f (t*i+j)=some (.string y) by unfold dg;rw[r];rfl] at o;replace o:(Instr.lookup 98 (.map (some B)) (.agg #[.int .i64 t,.int .i64 j]) true).run prog wr=.ok (.tuple #[.string y,.bool true]) wr:=o
      have hp:p j=true:=by rw[Q.o,r];rfl
      have m:=l
      rw[U.o _ (fun c=>p c || decide (c<j+1)) (fun c _=>by
       by_cases e:c=j
       ·subst e;simp[hp]
       have:decide (c<j+1)=decide (c<j):=by rw[decide_eq_decide];omega
       rw[this])] at m
      clear r hp l O;go_wp2;go_roundw
      case rel=>exact ⟨j+1,o_,by go_num,m,n⟩
      case measure=>simp[intOf];omega
     | none =>
      rw[show dg f (t*i+j)=none by unfold dg;rw[r];rfl] at o;replace o:(Instr.lookup 98 (.map (some B)) (.agg #[.int .i64 t,.int .i64 j]) true).run prog wr=.ok (.tuple #[.string ⟨#[]⟩,.bool false]) wr:=o
      have hp:p j=false:=by rw[Q.o,r];rfl
      have nN:wr.cell? ⟨R,j,none⟩=some (.string (tl D j)):=(x_Y (n.o.block R qe.o.2 qe.o.1)).trans (bM.o j V)
      have H6:j<(sv (fl X (fun c=>p c || decide (c<j)) i)).length:=by rw[cN,Gb];exact V
      obtain ⟨T,x3⟩:∃T,wr.cell? ⟨G,j,none⟩=some T:=⟨_,by rw[l.o.cell,lP];exact cr H6⟩;have h6:=l.o.frozen j;have m:=Zz (w_V l.o j (.string (tl D j)))
      rw[w_M,<-x4.o j r,y0.o _ (fun c=>p c || decide (c<j+1)) j V (fun c _ x=>by
       have:decide (c<j+1)=decide (c<j):=by rw[decide_eq_decide];omega
       rw[this]) s_,x4.o j r] at m
      have E:=Zz (n.o.setCell ⟨G,j,none⟩ (.string (tl D j)) (.inl rfl));have Lm:j<dl:=o_;clear r hp l n O;generalize tl D j=y at *
      go_upto_region 23 with fail
      clear o x3 h6 nN;generalize wr.setCell ⟨G,j,none⟩ (.string y)=w8 at *;go_wp2;go_roundw
      case rel=>exact ⟨j+1,o_,by go_num,m,E⟩
      case measure=>simp[intOf];omega
    obtain rfl:j=i:=o_;have m:=l;rw[h1.o _ (fun c x=>by simp[x])] at m;have h8:=Zz (v_6 m.o j (by rw[cN];exact y5.o) o_);clear l m;go_wp2_with fail;refine (H8.o _ _ h8.o).mono ?_;rintro e w9 ⟨u,rfl,I,bK⟩;obtain ⟨Au,cu,rfl⟩:=lM I;have h4:=Zz (I.more O.o.size);have aL:=Zz (O.o.trans bK);clear I bK;go_wp2;go_ret2;exact ⟨_,0,rfl,aL.o,.inr ⟨by rw[x6.o];exact H.o,rfl,h4.o⟩⟩
  have dv:(z != 0)=true:=by rw[bne_iff_ne];exact F
  clear x9;go_wp2;go_ret2;exact ⟨_,z,rfl,y9.o,.inr (.inl ⟨by rw[x6.o];exact H.o,by rw[x6.o];exact jc.o,F,rfl,rfl⟩)⟩
end
def fi (d:Nat) (B:Nat->B_) (t:Nat):List B_:=(List.range d).map fun c=>B (t*d+c)
def w_I (d:Nat) (B:Nat->B_) (t:Nat):(fi d B t).length=d:=by simp[fi]
def z6 (d:Nat) (B:Nat->B_) (t c:Nat) (h:c<d):tl (fi d B t) c=B (t*d+c):=by
 unfold fi tl;rw[be,gq,pB h];rfl
def QQ {B':Nat->B_} (h:∀c,c<d->B (t*d+c)=B' (t*d+c)):fi d B t=fi d B' t:=List.map_congr_left fun c e=>h c (List.mem_range.1 e)
def Wv (e:t<s) (g:c<d):t*d+c<s*d:=by
 have:=Nat.mul_le_mul_right d (Nat.succ_le_of_lt e);rw[Nat.succ_mul] at this;omega
def stp_siz (h:∀k,k<s*d->(B k).size=32) (g:t<s):MU (fi d B t) 32:=fun j e=>by
 rw[w_I] at e;rw[z6 _ _ _ _ e];exact h _ (Wv g e)
def bad (S:cj) (σ:Nat->ao) (i:Nat):Bool:=decide (dT S i≠1) || (σ i).dead
def c_ {σ:Nat->ao} :bad S σ i=false↔dT S i=1/\(σ i).dead=false:=by
 unfold bad;rw[Bool.or_eq_false_iff,decide_eq_false_iff_not,Decidable.not_not]
def y_ (S:cj) (i:Nat):B_:=(S.mem[i]?.map fv.log).getD ByteArray.empty
def NM (h:i<S.mem.length):y_ S i=(S.mem[i]'h).log:=by simp[y_,h]
def a7.act (g:a7 S) (h:dT S i=1):i<S.data+2/\i<S.mem.length:=by
 by_cases e:i<S.mem.length
 ·refine ⟨Nat.lt_of_not_le fun hn=>?_,e⟩
  have:=(g.mem i e).2.2.2 hn;rw[SH e] at h;omega
 have:dT S i=0:=by
  unfold dT;rw[pD o_];rfl
 omega
structure gQ (n:Nat) (key:List UInt8) (S:cj) (σ:Nat->ao) (ch:Nat->Nat->B_) (B:Nat->B_):Prop where
 ok:a7 S
 len:S.mem.length=n
 dk:∀i,i<n->(σ i).Whole
 top:∀i,bad S σ i=false->Gl S i=e9 S.slots (ch i)
 tree:∀i,bad S σ i=false->∀q,1<=q->q<S.slots->tl (σ i).now (100+q)=dD S.slots (ch i) q
 cell:∀i,bad S σ i=false->∀t,t<S.slots->tl (σ i).now (120+t)=ch i t
 csz:∀j t,(ch j t).size<=2032
 chk:∀t,t<S.slots->∀c,c<S.data+2->bad S σ ((c+t) % (S.data+2))=false->lx key ((c+t) % (S.data+2)) t (ch ((c+t) % (S.data+2)) t) (tl (eg (fi S.data B t)) c).data.toList
 bsz:∀k,k<S.slots*S.data->(B k).size=32
 rc:∀i,i<n->(σ i).dead=false->tl (σ i).now (S.count % 2)=bs (bh S)
def zX (S:cj) (σ:Nat->ao) (L:Nat->Option (List Wr)):Prop:=∀i,bad S σ i=false->M8 (σ i) (y_ S i) (L i)/\∀l,L i=some l->∀x∈l,tl (σ i).now x.at'=x.cell
def WN (P:B_->Prop) (t:Nat) (l:List Wr):∀g:Nat->B_,(∀x∈l,x.at'=t->P x.cell)->(P (g t)\/∃x∈l,x.at'=t)->P (dp g l t):=by
 induction l with
 | nil =>
  intro g _ h;rcases h with h|⟨x,j,_⟩
  ·exact h
  cases j
 | cons x l n =>
  intro g j h;refine n (nP g x.at' x.cell) (fun y i=>j y (List.mem_cons_of_mem _ i)) ?_;by_cases e:t=x.at'
  ·refine .inl ?_
   unfold nP;rw[if_pos e];exact j x List.mem_cons_self e.symm
  have m:nP g x.at' x.cell t=g t:=if_neg e;rw[m];rcases h with h|⟨y,i,k⟩
  ·exact .inl h
  rcases List.mem_cons.1 i with rfl|i
  ·exact absurd k.symm e
  exact .inr ⟨y,i,k⟩
def M4 (l:List Wr) (t:Nat):t∈iE l↔∃x∈l,x.at'=t:=by
 have h:∀(l:List Wr) (d:List Nat),t∈l.foldl (fun d x=>e8 d x.at') d↔t∈d\/∃x∈l,x.at'=t:=by
  intro l
  induction l with
  | nil=>intro d;simp
  | cons x l i =>
   intro d;rw[List.foldl_cons,i,MF];constructor
   ·rintro ((h|rfl)|⟨y,e,g⟩)
    ·exact .inl h
    ·exact .inr ⟨x,List.mem_cons_self,rfl⟩
    exact .inr ⟨y,List.mem_cons_of_mem _ e,g⟩
   rintro (h|⟨y,e,g⟩)
   ·exact .inl (.inl h)
   rcases List.mem_cons.1 e with rfl|e
   ·exact .inl (.inr g.symm)
   exact .inr ⟨y,e,g⟩
 have:=h l [];simpa[iE] using this
def mQ (l:List fu) (i:Nat) (x:Wr):x∈lC l i↔∃y∈l,y.disk=i/\x=⟨y.slot,y.cell⟩:=by
 unfold lC;rw[List.mem_map];constructor
 ·rintro ⟨y,e,rfl⟩
  obtain ⟨g,h⟩:=List.mem_filter.1 e;exact ⟨y,g,by simpa using h,rfl⟩
 rintro ⟨y,e,j,rfl⟩;exact ⟨y,List.mem_filter.2 ⟨e,by simpa using j⟩,rfl⟩
section
variable (S:cj) (σ:Nat->ao) (n:Nat)
def Nw (j:Nat):dT (f_ S σ n) j=if j<n/\dT S j=1/\(σ j).dead=true then 2 else dT S j:=by
 unfold dT f_ R8;rw[List.getElem?_mapIdx]
 cases h:S.mem[j]? with
 | none=>simp
 | some m =>
  simp only[Option.map_some,Option.getD_some];split<;>rfl
def xq (j:Nat):dT (e7 S) j=dT S j:=rfl
def EI (S:cj) (G:Nat->Option (B_ × B_)) (k j:Nat) (e:j<k) (hm:j<S.mem.length) (t d:B_) (hG:G j=some (t,d)):Gl (nL S G k) j=t/\y_ (nL S G k) j=d:=by
 unfold Gl y_ nL pu;rw[List.getElem?_mapIdx,cr hm];simp only[Option.map_some,Option.getD_some];rw[if_pos e,hG];exact ⟨rfl,rfl⟩
variable (ch:Nat->Nat->B_) (l:List fu)
def N4 (j:Nat):dT (dZ S σ n ch l) j=if j<n/\dT S j=1/\(σ j).dead=true then 2 else dT S j:=by
 unfold dZ;rw[Lv,Nw,xq]
def Nv (σ:Nat->ao) (dom:List Nat) (T:Nat->List Wr) (k j:Nat) (h:j<k/\j∈dom):gE σ dom T k j=((σ j).wrs (T j)).flush:=if_pos h
def MG (σ:Nat->ao) (dom:List Nat) (T:Nat->List Wr) (k j:Nat) (h:¬(j<k/\j∈dom)):gE σ dom T k j=σ j:=if_neg h
def v_7 (j:Nat):(l1 S σ n ch l j).dead=(σ j).dead:=by
 unfold l1 JQ Fy;rw[kW,w_x,kW]
def LG (j:Nat) (g:j<n):bad (dZ S σ n ch l) (l1 S σ n ch l) j=bad S σ j:=by
 unfold bad;rw[N4,v_7];by_cases e:(σ j).dead=true
 ·rw[e];simp
 rw[if_neg fun h=>e h.2.2]
def EE (j:Nat) (e:j<n) (h:bad S σ j=false):j<n/\j∈cZ (e7 S) σ n:=by
 obtain ⟨g,i⟩:=c_.1 h;exact ⟨e,(j1 _ _ _ _).2 ⟨e,g,i⟩⟩
end
def zl (T:List B_) (x:Wr) (h:x∈fD T):∃k,k<T.length/\x.at'=2+k/\x.cell=tl T k:=by
 unfold fD at h;obtain ⟨k,hk,rfl⟩:=List.mem_map.1 h;exact ⟨k,List.mem_range.1 hk,rfl,rfl⟩
def prW_mem (s:Nat) (e:Nat->B_) (l:List Wr) (x:Wr) (h:x∈gj s e l):(∃q,q∈ib s l/\x.at'=100+q/\x.cell=dD s (dp e l) q)\/∃t,t∈iE l/\x.at'=120+t/\x.cell=dp e l t:=by
 unfold gj at h;rcases List.mem_append.1 h with h|h
 ·obtain ⟨q,g,rfl⟩:=List.mem_map.1 h
  exact .inl ⟨q,(Kq _ _).1 g,rfl,rfl⟩
 obtain ⟨q,g,rfl⟩:=List.mem_map.1 h;exact .inr ⟨q,(Kq _ _).1 g,rfl,rfl⟩
def YG (s:Nat) (e:Nat->B_) (l:List Wr) (q:Nat) (h:q∈ib s l):⟨100+q,dD s (dp e l) q⟩∈gj s e l:=List.mem_append_left _ (List.mem_map.2 ⟨q,(Kq _ _).2 h,rfl⟩)
def Cs (s:Nat) (e:Nat->B_) (l:List Wr) (t:Nat) (h:t∈iE l):⟨120+t,dp e l t⟩∈gj s e l:=List.mem_append_right _ (List.mem_map.2 ⟨t,(Kq _ _).2 h,rfl⟩)
def DV (hs:sl s) (σ:ao) (c:σ.dead=false) (a:σ.now.length=140) (g:Nat->B_) (l:List Wr) (hl:∀x∈l,x.at'<s) (V:(gj s g l).length<96) (i:Nat) (B:i<2) (rc:B_) (σ':ao)
  (z:σ'=((((((σ.wrs (fD (bm (gj s g l)))).flush).write i rc).flush).wrs (gj s g l)).flush))
  (A:∀q,1<=q->q<s->tl σ.now (100+q)=dD s g q) (Y:∀t,t<s->tl σ.now (120+t)=g t) :
  (∀q,1<=q->q<s->tl σ'.now (100+q)=dD s (dp g l) q)/\(∀t,t<s->tl σ'.now (120+t)=dp g l t)/\tl σ'.now i=rc/\tl σ'.now (1-i)=tl σ.now (1-i)/\(∀k,k<=(gj s g l).length->tl σ'.now (2+k)=tl (bm (gj s g l)) k)/\(∀x∈gj s g l,tl σ'.now x.at'=x.cell)/\σ'.Whole/\σ'.dead=false:=by
 have C:s<=4:=by rcases hs with rfl|rfl<;>decide
 obtain ⟨X,T⟩:∃X,gj s g l=X:=⟨_,rfl⟩;have v:=prW_mem s g l;have G:=YG s g l;have I:=Cs s g l;rw[T] at V z v G I ⊢;have R:=zu hs l hl;have S:=Gq l hl
 have o:(((σ.wrs (fD (bm X))).flush).write i rc).flush.dead=false:=by rw[ao.flush_dead,ao.write_dead,ao.flush_dead,ao.wrs_dead];exact c
 have y:(((σ.wrs (fD (bm X))).flush).write i rc).flush.now.length=140:=by rw[ao.flush_now,ao.write_len,ao.flush_now,ao.wrs_len];exact a
 have J:∀k,98<k->tl (((σ.wrs (fD (bm X))).flush).write i rc).flush.now k=tl σ.now k:=fun k hk=>by
  rw[ao.flush_now,ao.write_off _ _ _ _ o_,ao.flush_now,ao.wrs_off];intro x h;obtain ⟨j,d,e,_⟩:=zl _ _ h;rw[Nd] at d;omega
 have b:∀k,k<100->tl σ'.now k=tl (((σ.wrs (fD (bm X))).flush).write i rc).flush.now k:=fun k hk=>by
  rw[z,ao.flush_now,ao.wrs_off];intro x h;rcases v x h with ⟨q,_,e,_⟩|⟨q,_,e,_⟩<;>omega
 have M:∀(P:B_->Prop) k,k<140->(∀x∈X,x.at'=k->P x.cell)->(P (tl (((σ.wrs (fD (bm X))).flush).write i rc).flush.now k)\/∃x∈X,x.at'=k)->P (tl σ'.now k):=fun P k hk r u=>by
  rw[z,ao.flush_now];exact ao.wrs_at P X _ k o (by rw[y];exact hk) r u
 have Q:∀q,1<=q->q<s->tl σ'.now (100+q)=dD s (dp g l) q:=fun q r u=>by
  refine M (·=dD s (dp g l) q) (100+q) o_ (fun x h e=>?_) ?_
  ·rcases v x h with ⟨E,_,n,m⟩|⟨t,_,n,_⟩
   ·obtain rfl:E=q:=o_
    exact m
   omega
  by_cases p:q∈ib s l
  ·exact .inr ⟨_,G q p,rfl⟩
  refine .inl ?_;have:=D9 hs g l hl q r u l.length (bS _) (by rw[List.take_length];exact p);rw[List.take_length] at this;rw[J _ o_,A q r u,this]
 have O:∀t,t<s->tl σ'.now (120+t)=dp g l t:=fun t f=>by
  refine M (·=dp g l t) (120+t) o_ (fun x h e=>?_) ?_
  ·rcases v x h with ⟨E,U,n,m⟩|⟨Z,_,n,m⟩
   ·have:=R E U
    omega
   obtain rfl:Z=t:=o_;exact m
  by_cases p:t∈iE l
  ·exact .inr ⟨_,I t p,rfl⟩
  refine .inl ?_;rw[J _ o_,Y t f];have W:∀x∈l,x.at'≠t:=fun x h e=>p ((M4 l t).2 ⟨x,h,e⟩);exact (WN (·=g t) t l g (fun x h e=>absurd e (W x h)) (.inl rfl)).symm
 refine ⟨Q,O,?_,?_,?_,?_,?_,?_⟩
 ·rw[b i o_,ao.flush_now,ao.write_on _ _ _ (by rw[ao.flush_dead,ao.wrs_dead];exact c) (by rw[ao.flush_now,ao.wrs_len,a];omega)]
 ·rw[b _ o_,ao.flush_now,ao.write_off _ _ _ _ o_,ao.flush_now,ao.wrs_off]
  intro x h;obtain ⟨j,d,e,_⟩:=zl _ _ h;omega
 ·intro k hk
  rw[b _ o_,ao.flush_now,ao.write_off _ _ _ _ o_,ao.flush_now];refine ao.wrs_at (·=tl (bm X) k) _ _ _ c (by rw[a];omega) (fun x h e=>?_) (.inr ⟨⟨2+k,tl (bm X) k⟩,?_,rfl⟩)
  ·obtain ⟨j,d,n,m⟩:=zl _ _ h
   obtain rfl:j=k:=o_;exact m
  exact List.mem_map.2 ⟨k,List.mem_range.2 (by rw[Nd];omega),rfl⟩
 ·intro x h
  rcases v x h with ⟨q,p,n,m⟩|⟨t,f,n,m⟩
  ·rw[n,m]
   obtain ⟨r,u⟩:=R q p;exact Q q r u
  rw[n,m];exact O t (S t f)
 ·rw[z]
  refine ao.Whole.flush (by rw[ao.wrs_len];exact y) fun N=>?_;rw[ao.wrs_dead,o] at N;cases N
 rw[z,ao.flush_dead,ao.wrs_dead];exact o
structure pF (S:cj) (key:List UInt8) (t:Nat) (C:List B_) (c:Nat) (l:List fu):Prop where
 mem:∀x∈l,x.slot=t/\dT S x.disk=1/\x.cell.size<=2032/\∃j,j<c/\(j+t) % (S.data+2)=x.disk/\lx key x.disk t x.cell (tl C j).data.toList
 all:∀j,j<c->dT S ((j+t) % (S.data+2))=1->∃x∈l,x.disk=(j+t) % (S.data+2)
 one:∀i,(lC l i).length<=1
 len:l.length<=c
def pF.zero (S:cj) (key:List UInt8) (t:Nat) (C:List B_):pF S key t C 0 []:=⟨fun x e=>(by cases e),fun j g=>o_,fun i=>Nat.zero_le _,bS _⟩
def pF.no (h:pF S key t C c l) (hn:dT S ((c+t) % (S.data+2))≠1):pF S key t C (c+1) l where
 mem x hx:=by
  obtain ⟨g,i,k,j,o,m,n⟩:=h.mem x hx;exact ⟨g,i,k,j,o_,m,n⟩
 all j o hs:=by
  by_cases e:j=c
  ·subst e;exact absurd hs hn
  exact h.all j o_ hs
 one:=h.one
 len:=by have:=h.len;omega
def pF.yes (h:pF S key t C c l) (b:c<S.data+2) (hn:dT S ((c+t) % (S.data+2))=1) (x:B_) (d:x.size<=2032) (hk:lx key ((c+t) % (S.data+2)) t x (tl C c).data.toList) :
  pF S key t C (c+1) (l++[⟨(c+t) % (S.data+2),t,x⟩]) where
 mem y g:=by
  rcases List.mem_append.1 g with g|g
  ·obtain ⟨s,u,v,j,p,m,a⟩:=h.mem y g
   exact ⟨s,u,v,j,o_,m,a⟩
  rw[List.mem_singleton.1 g];exact ⟨rfl,hn,d,c,o_,rfl,hk⟩
 all j p hs:=by
  by_cases e:j=c
  ·subst e;exact ⟨_,List.mem_append_right _ List.mem_cons_self,rfl⟩
  obtain ⟨y,g,r⟩:=h.all j o_ hs;exact ⟨y,List.mem_append_left _ g,r⟩
 one i:=by
  have e:lC (l++[⟨(c+t) % (S.data+2),t,x⟩]) i=lC l i++lC [⟨(c+t) % (S.data+2),t,x⟩] i:=by unfold lC;rw[List.filter_append,List.map_append]
  rw[e,cd];by_cases o:(c+t) % (S.data+2)=i
  ·have k:lC l i=[]:=by
    refine List.eq_nil_iff_forall_not_mem.2 fun y g=>?_;obtain ⟨z,hz,q,_⟩:=(mQ l i y).1 g;obtain ⟨_,_,_,j,p,m,_⟩:=h.mem z hz;have:=yD (n:=S.data+2) (t:=t) (x:=j) (y:=c) o_ b (by rw[m,q,o]);omega
   rw[k];have:=Ta [⟨(c+t) % (S.data+2),t,x⟩] i;simpa using this
  have k:lC [⟨(c+t) % (S.data+2),t,x⟩] i=[]:=by
   unfold lC;rw[List.filter_cons_of_neg (by simpa using o)];rfl
  rw[k];have:=h.one i;simpa using this
 len:=by rw[cd,A_];have:=h.len;omega
def pC (S:cj) (key:List UInt8) (t:Nat) (C:List B_) (q:Nat):Nat->List fu
 | 0=>[]
 | c+1=>if dT S ((c+t) % (S.data+2))=1 then pC S key t C q c++[⟨(c+t) % (S.data+2),t,Ac key (lO S.epoch (q+(pC S key t C q c).length)) ((c+t) % (S.data+2)) t (tl C c).data.toList⟩] else pC S key t C q c
def PT (w:W_) (bz sp p:Nat):Nat->Prop:=fun x=>x=sp\/x=p\/(bz<=x/\∃cs,ab w x 154 cs)
def w_D {w'':W_} {T:Nat->Prop} (h:Kp (PT w bz sp p) w w') (k:Kp T w' w'') (j:∀q,T q->PT w' bz sp p q):Kp (PT w bz sp p) w w'':=h.then k fun q l m=>by
 by_cases g:PT w bz sp p q
 ·exact g
 rcases j q m with e|e|⟨i,cs,hb⟩
 ·exact .inl e
 ·exact .inr (.inl e)
 exact .inr (.inr ⟨i,cs,(h.block q l g).symm.trans hb⟩)
def Na {w'':W_} (h:Kp ac w w') (k:Kp (PT w' bz sp p) w' w''):Kp (PT w bz sp p) w w'':=(h.mono fun _ _ h=>h.elim).then k fun q i j=>by
 rcases j with e|e|⟨g,cs,hb⟩
 ·exact .inl e
 ·exact .inr (.inl e)
 exact .inr (.inr ⟨g,cs,(h.block q i fun h=>h).symm.trans hb⟩)
def PT_row {size:Nat} {v:Value} {i:List Value} (h:w.ownsRow bz 154 size v n i):∀q,some q=v.ownBlock->PT w bz sp p q:=fun q e=>by
 obtain ⟨cs,g⟩:=fj h e.symm;exact .inr (.inr ⟨(iZ h e.symm).1,cs,g⟩)
def AQ {cs n j:Array Value} (hb:ab w g t cs) (k:ab w sp 226 n) (l:ab w p 97 j) (e:t≠226) (o:t≠97) (i:t≠154):¬PT w bz sp p g:=fun h=>by
 rcases h with rfl|rfl|⟨_,q,m⟩
 ·exact e (hb.ty_eq k)
 ·exact o (hb.ty_eq l)
 exact i (hb.ty_eq m)
def infoCG:(prog.info? 154).map (fun i=>(i.zero,i.size,i.bytes))=some (some (.agg #[.int .i64 0,.int .i64 0,.string ⟨#[]⟩]),3,32):=k_
def Yp (l m:List fu) (a t:Nat) (x:B_):pS (l++(m++[⟨a,t,x⟩]))=pS (l++m)++[.int .i64 a,.int .i64 t,.string x]:=by
 rw[<-List.append_assoc,Lu];rfl
section
variable {base0:Nat} {σ:Nat->ao} {F:Nat->Prop} {pz pA u cv:Value} {q0:Nat} 
def put_any (y6:a_ w) (hw:10<=w.heap.size) (hb:Bk w b n σ F) (hs:ab w st 116 (gU b an key S vs vm sp)) (hsp:ab w sp 226 #[.int .u64 S.epoch,.int .u64 q0]) (hR:bg w base0 S vs vm) (J:a7 S) (eH:S.mem.length=n) (hk:key.length=32) (ht:t<S.slots)
  (hp:ab w p 97 (i_ S pz pA cv)) (ag:w.ownsRow bz 154 3 cv l.length (pS l)) (ZT:10<=bz) (fS:bz<=w.heap.size) (mY:10<=sp) (pO:10<=p) (H6:aH w base0 9 u (sv C)) (y1:C.length=S.data+2) (UQ:∀c,c<C.length->(tl C c).size=32) (H7:q0<=100000) (hl:l.length<=100) :
  Cl 40 #[.pointer (some ⟨st,0,none⟩),.pointer (some ⟨p,0,none⟩),.int .i64 t,u] w fun e w'=>e=.returned (.int .i64 0)/\∃(Lo:Value) (r:List fu) (q':Nat),ab w' p 97 (i_ S pz pA Lo)/\w'.ownsRow bz 154 3 Lo (l++r).length (pS (l++r))/\ab w' sp 226 #[.int .u64 S.epoch,.int .u64 q']/\(r=pC S key t C q0 (S.data+2)/\q'=q0+r.length) /\
   pF S key t C (S.data+2) r/\Kp (PT w bz sp p) w w':=by
 have cD:=J.d2;have BD:=J.d8;have cE:=J.n12;have he:=J.e;have gI:=Zz (z_ak y6 hs hR.reads J ht);have xV:=Zz (I5 b S.slots key (iV S t));have jU:=Zz (zh S t);have fE:=Zz (w_Z S t);have HZ:=Zz J.sl;have jc:=Zz J.n1;obtain ⟨gu,cu,rfl,ZU,ZV,E9⟩:=H6.form (by rw[cN];omega);rw[cN,y1] at H6 ⊢;have jF:=Zz H6;have nv:=Zz hb;have kI:=Zz hs;have Je:=Zz hsp;have KO:=Zz hp;have yw:=Zz ag;have ZW:=Zz UQ;have Jf:=Zz y6;clear y6 hb hs hsp hR J hp ag H6 UQ;go_enter func40,ntmps40;go_wp2_with fail;refine gI.o.mono ?_;rintro e E ⟨ux,rfl,V,z⟩;obtain ⟨a,cx,rfl,ZX,ZY⟩:=LF V o_;have HX:=Zz V;have am:=Zz z;have h0:=Zz (KO.o.kp z fun h=>h);have rG:=Zz (dL yw.o z fun _ _ h=>h);have h5:=Zz (Je.o.kp z fun h=>h);have fx:=Zz (kI.o.kp z fun h=>h);have ak:=Zz (nv.o.no z);have jR:=Zz (jF.o.kp z fun _ _ h=>h);have lV:=Zz (Jf.o.no z)
 have fH:10<=E.heap.size:=by have:=z.size;omega
 have ZZ:bz<=E.heap.size:=by have:=z.size;omega
 have dM:¬((S.data:Int)+2=0):=o_
 have Z0:(((S.data:Int)+2)==0)=false:=by rw[pN];exact dM
 have qe:Hid (¬PT E bz sp p a/\¬PT E bz sp p gu):=Zz (by
  obtain ⟨H,h1⟩:=fj V (q:=a) rfl;obtain ⟨c2,U⟩:=Sz jR.o (q:=gu) rfl
  exact ⟨AQ h1 h5.o h0.o d_ d_ d_,AQ U h5.o h0.o d_ d_ d_⟩)
 have Jg:Hid (Kp (PT E bz sp p) E E):=Zz (Kp.refl _ _);have Jh:=Zz (pF.zero S key t C);have zx:Hid (([]:List fu)=pC S key t C q0 0/\q0=q0+([]:List fu).length):=Zz ⟨rfl,rfl⟩;have x7:=rG;rw[<-List.append_nil l] at x7;clear V z gI KO yw Je kI nv jF Jf
 go_upto_region 7 with fail
 go_loopw [10,11,12,13,35] (fun _ _ _ _ vN wr=>∃(c:Nat) (P:Value) (r:List fu) (q:Nat),c<=S.data+2/\vN=.int .i64 c/\Hid (ab wr p 97 (i_ S pz pA P))/\Hid (wr.ownsRow bz 154 3 P (l++r).length (pS (l++r)))/\Hid (ab wr sp 226 #[.int .u64 S.epoch,.int .u64 q])/\Hid (r=pC S key t C q0 c/\q=q0+r.length)/\Hid (pF S key t C c r)/\Hid (Kp (PT E bz sp p) E wr)) (fun _ _ _ _ vN _=>S.data+2-(intOf vN).toNat)
 case atStart=>exact ⟨0,cv,[],q0,o_,rfl,h0,x7,h5,zx,Jh,Jg⟩
 case round =>
  clear x7 zx Jh Jg;obtain ⟨c,P,r,q,hc,rfl,A,HR,h2,H0,X,y⟩:=hrel
  have HF:Hid (∀g,PT E bz sp p g->¬F g):=Zz fun g hg hf=>by
   obtain ⟨t2,dj,y3,W⟩:=ak.o.ty hf;rcases hg with rfl|rfl|⟨_,Jd,b9⟩
   ·have e:=y3.ty_eq h5.o
    rw[e] at W;exact absurd W (by unfold ci;decide)
   ·have e:=y3.ty_eq h0.o
    rw[e] at W;exact absurd W (by unfold ci;decide)
   have e:=y3.ty_eq b9;rw[e] at W;exact absurd W (by unfold ci;decide)
  have y4:=Zz (ak.o.kp y.o HF.o);have jp:=Zz (fx.o.kp y.o (AQ fx.o h5.o h0.o d_ d_ d_))
  have y7:=Zz (lV.o.kp y.o fun g h6 hg=>by
   rcases hg with e|e|⟨bn,_⟩<;>omega)
  have UR:=Zz (dL HX.o y.o fun g hg=>by
   have e:a=g:=by injection hg
   subst e
   exact qe.o.1)
  have x1:=Zz (jR.o.kp y.o fun g hg=>by
   have e:gu=g:=by injection hg
   subst e
   exact qe.o.2)
  have Di:10<=wr.heap.size:=by have:=y.o.size;omega
  have Z1:bz<=wr.heap.size:=by have:=y.o.size;omega
  by_cases B:c<S.data+2
  ·have bL:(c:Int)<(S.data:Int)+2:=o_
   have gP:c<(iV S t).length:=by rw[fE.o];exact B
   have G:∀j,j<6->wr.cell? ⟨a,c*6+j,none⟩=(gb b S.slots key ((iV S t)[c]'gP)).toList[j]?:=fun j hj=>by
    rw[Ho UR.o (c*6+j) o_];exact xV.o c gP j hj
   rw[jU.o c B] at G;have hr:(c+t) % (S.data+2)<S.data+2:=gx _ o_;have H1:=Zz (fun hn x V hk=>X.o.yes B hn x V hk);have x3:=Zz (fun hn=>X.o.no hn);have x8:=Zz (ZW.o c o_);have h7:=Ra x1.o y1 c B;obtain ⟨d,y2⟩:∃d,tl C c=d:=⟨_,rfl⟩;have Z2:=Zz y2;rw[y2] at H1 x8 h7;clear y2;obtain ⟨dk,y8⟩:∃dk,(c+t) % (S.data+2)=dk:=⟨_,rfl⟩;have o5:=Zz y8;rw[y8] at G hr H1 x3;clear y8;generalize Gl S dk=f at *;have k0:wr.cell? ⟨a,c*6,none⟩=some (.pointer (some ⟨b,0,none⟩)):=G 0 d_;have k1:wr.cell? ⟨a,c*6+1,none⟩=some (.int .i64 dk):=G 1 d_;have k2:wr.cell? ⟨a,c*6+2,none⟩=some (.int .i64 S.slots):=G 2 d_;have k3:wr.cell? ⟨a,c*6+3,none⟩=some (.string (bs key)):=G 3 d_;have k4:wr.cell? ⟨a,c*6+4,none⟩=some (.string f):=G 4 d_;have H9:wr.cell? ⟨a,c*6+5,none⟩=some (.bool (decide (dT S dk=1))):=G 5 d_;clear G UR;by_cases v:dT S dk=1
   ·rw[decide_eq_true v] at H9
    have aR:=Zz v;clear v x3;have L:=Zz (ab.new wr 141 #[.pointer (some ⟨b,0,none⟩),.int .i64 dk,.int .i64 S.slots,.string (bs key),.string f,.bool true]);have o:=(Kp.refl ac wr).alloc (.cells #[.pointer (some ⟨b,0,none⟩),.int .i64 dk,.int .i64 S.slots,.string (bs key),.string f,.bool true] 141);have H3:=Zz (w_D y.o o fun _ h=>h.elim);have x6:=Zz (A.o.kp o fun h=>h);have x0:=Zz (dL HR.o o fun _ _ h=>h);have x5:=Zz (h2.o.kp o fun h=>h);have iX:=Zz (jp.o.kp o fun h=>h);have Ji:=Zz (y4.o.no o);have Lq:=Zz (y7.o.no o);have Z3:=Ra (x1.o.kp o fun _ _ h=>h) y1 c B;have vW:=Zz (show (wr.alloc (.cells #[.pointer (some ⟨b,0,none⟩),.int .i64 dk,.int .i64 S.slots,.string (bs key),.string f,.bool true] 141)).cell? ⟨gu,c,none⟩=some (.string d) from (o.below0.cell (fV wr _ h7)).trans h7)
    have US:10<=(wr.alloc (.cells #[.pointer (some ⟨b,0,none⟩),.int .i64 dk,.int .i64 S.slots,.string (bs key),.string f,.bool true] 141)).heap.size:=by have:=o.size;omega
    have UT:bz<=(wr.alloc (.cells #[.pointer (some ⟨b,0,none⟩),.int .i64 dk,.int .i64 S.slots,.string (bs key),.string f,.bool true] 141)).heap.size:=by have:=o.size;omega
    clear o Z3 h7 A HR h2 jp y4 y7 x1 y
    go_upto_region 9 with fail
    clear k0 k1 k2 k3 k4 H9;generalize y5:wr.alloc (.cells #[.pointer (some ⟨b,0,none⟩),.int .i64 dk,.int .i64 S.slots,.string (bs key),.string f,.bool true] 141)=O at *;clear y5;generalize wr.heap.size=D at *;have d5:=L.o.c5
    go_upto_region 10 with fail
    clear d5;have h4:=Zz H3.o.drew;have N:=Zz L.o.drew;have Q:=Zz x6.o.drew;have T:Hid (O.drew.ownsRow bz 154 3 P (l++r).length (pS (l++r))):=x0;have M:=Zz x5.o.drew;have o6:=Zz iX.o.drew;have Jj:=Zz (Ji.o.no (Kp.refl ac O).drew);have ov:=Zz (Lq.o.no (Kp.refl ac O).drew);have UU:Hid (O.drew.cell? ⟨gu,c,none⟩=some (.string d)):=vW;have Lr:10<=O.drew.heap.size:=US;have UV:bz<=O.drew.heap.size:=UT;clear H3 L x6 x0 x5 iX Ji Lq vW US UT;refine fs ?_;generalize O.drew=w6 at *;have d1:=N.o.c1;have g1:=UU.o;refine fp 0 ?_;refine fp 1 ?_;refine fp 2 ?_;refine cw 3 d1 ?_;refine fp 4 ?_;refine fp 5 ?_;refine fp 6 ?_;refine fp 7 ?_;refine cw 8 g1 ?_;refine fd 9 fun K Qx I=>?_;go_simp;have rq:=Q3 (ep:=S.epoch) (q:=q) ov.o Jj.o Lr o6.o M.o mY (i:=dk) (by have:=jc.o;omega) HZ.o hk ht o_ (by have:=H0.o.2;have:=X.o.len;omega) d.data.toList (by rw[g5];exact x8.o);rw[NP] at rq;refine rq.mono ?_;rintro e x4 ⟨rfl,tF,R⟩;have wN:=Zz tF;have bH:=Zz (w_D h4.o R fun q h=>.inl h);have dy:=Zz (N.o.kp R fun e=>ab.ne_ N.o M.o d_ e);have fM:=Zz (Q.o.kp R fun e=>ab.ne_ Q.o M.o d_ e);have pg:=Zz (dL T.o R fun q H7 e=>hH T.o M.o d_ (H7.trans (congrArg some e)))
    have UW:bz<=x4.heap.size:=by have:=R.size;omega
    have y9:Hid ((Ac key (lO S.epoch q) dk t d.data.toList).size<=2032/\lx key dk t (Ac key (lO S.epoch q) dk t d.data.toList) d.data.toList):=Zz (by
     have UX:d.data.toList.length=32:=by rw[g5];exact x8.o
     exact ⟨by rw[mH _ _ _ _ _ (AY _ _) UX];decide,UX,.inr ⟨_,AY _ _,rfl⟩⟩)
    refine I _ _ (oW (oW oN)) ?_;clear I K d1 g1 rq tF R h4 N Q T M o6 Jj ov UU Lr UV;obtain ⟨s,oe⟩:∃s,Ac key (lO S.epoch q) dk t d.data.toList=s:=⟨_,rfl⟩;have yP:=Zz oe;rw[oe] at y9 ⊢;clear oe;refine fp 10 ?_;refine fp 11 ?_;refine fp 12 ?_;refine fp 13 ?_;refine fp 14 ?_;refine fe ?_
    go_upto_region 13 with fail
    have h4:=Zz bH.o.drew;have N:=Zz dy.o.drew;have Q:=Zz fM.o.drew;have T:Hid (x4.drew.ownsRow bz 154 3 P (l++r).length (pS (l++r))):=pg;have M:=Zz wN.o.drew;have UV:bz<=x4.drew.heap.size:=UW;clear bH dy fM pg wN UW;refine fs ?_;generalize x4.drew=Z at *;have x2:=Q.o.c10;have d1:=N.o.c1;refine fp 0 ?_;refine fp 1 ?_;refine fp 2 ?_;refine fp 3 ?_;refine cw 4 x2 ?_;refine fp 5 ?_;refine fp 6 ?_;refine cw 7 d1 ?_;refine fp 8 ?_;refine fp 9 ?_;refine fp 10 ?_;refine fp 11 ?_;refine fd 12 fun K Qx I=>?_;go_simp;have o:=(Kp.refl ac Z).alloc (.cells #[.int .i64 dk,.int .i64 t,.string s] 154);have eE:=Zz (w_D h4.o o fun _ h=>h.elim);have H8:=Zz (Q.o.kp o fun h=>h);have gG:=Zz (N.o.kp o fun h=>h);have h8:=Zz (dL T.o o fun _ _ h=>h);have x9:=Zz (M.o.kp o fun h=>h);have fC:Hid (iB (Z.alloc (.cells #[.int .i64 dk,.int .i64 t,.string s] 154)) (.slice (some ⟨Z.heap.size,0,none⟩) 1 1) 3 1 [.int .i64 dk,.int .i64 t,.string s]):=Zz (v_B Z 154 3 [.int .i64 dk,.int .i64 t,.string s] rfl d_)
    have UY:bz<=(Z.alloc (.cells #[.int .i64 dk,.int .i64 t,.string s] 154)).heap.size:=by have:=o.size;omega
    refine I _ _ (oW (oK (H8.o.cell 10) oN)) ?_;clear I K x2 d1 o h4 Q N T M;generalize Z.alloc (.cells #[.int .i64 dk,.int .i64 t,.string s] 154)=w9 at *;refine Dj 13 rfl rfl k_ ?_;have iW:=X.o.len;refine v_v (m:=1) (k:=(l++r).length) rfl underlying95 infoCG rfl d_ d_ rfl rfl (fun u hu=>by simp at hu;rcases hu with rfl|rfl|rfl<;>rfl) h8.o fC.o d_ UY (by rw[cd];omega) ?_;intro v1 H4 h3 hg;have H2:Kp (fun q=>some q=P.ownBlock) w9 H4:=Kp.of_grown hg fun _ h=>h;have Ce:=Zz (w_D eE.o H2 (PT_row h8.o));have Y:=Zz (H8.o.kp H2 fun h=>hH h8.o H8.o d_ h.symm);have y0:=Zz (x9.o.kp H2 fun h=>hH h8.o x9.o d_ h.symm);refine ⟨oW (oW oN),?_⟩;rw[<-Yp l r dk t s,show (l++r).length+1=(l++(r++[(⟨dk,t,s⟩:fu)])).length by simp[Nat.add_assoc]] at h3;obtain ⟨m,hm⟩:∃m,(l++(r++[(⟨dk,t,s⟩:fu)])).length=m:=⟨_,rfl⟩;have gD:=Zz hm;rw[hm] at h3;obtain ⟨h9,H,rfl⟩:=lM h3;have jY:=Zz h3;clear hm;clear h3 hg H2 eE H8 x9 gG h8 fC UY iW;have x2:=Y.o.c10;have f10:=Y.o.frozen 10;refine fp 14 ?_;refine fp 15 ?_;refine fd 16 fun K Qx I=>?_;go_simp;refine I _ _ (oW (oW oN)) ?_;clear I K;refine fe ?_;have H5:=(Kp.refl (fun q=>q=p) H4).setCell ⟨p,10,none⟩ (.slice h9 m H) (.inl rfl);have fm:=Zz (w_D Ce.o H5 fun q h=>.inr (.inl h));have lp:Hid (ab (H4.setCell ⟨p,10,none⟩ (.slice h9 m H)) p 97 (i_ S pz pA (.slice h9 m H))):=Zz (Y.o.set_ 10 _);have tS:=Zz (dL jY.o H5 fun q H7 e=>hH jY.o Y.o d_ (H7.trans (congrArg some e)));have QD:=Zz (y0.o.kp H5 fun e=>ab.ne_ y0.o Y.o d_ e);have QE:=Zz (H1.o aR.o s y9.o.1 y9.o.2)
    have Z4:Hid (r++[(⟨dk,t,s⟩:fu)]=pC S key t C q0 (c+1)/\q+1=q0+(r++[(⟨dk,t,s⟩:fu)]).length):=Zz (by
     obtain ⟨h1,U⟩:=H0.o;refine ⟨?_,by rw[U,cd];rfl⟩;have v:=aR.o;rw[<-o5.o] at v;unfold pC
     rw[if_pos v,<-h1,<-U,o5.o,Z2.o,yP.o])
    clear H5 x2 f10 Ce Y jY y0;generalize H4.setCell ⟨p,10,none⟩ (.slice h9 m H)=fN at *;go_wp2;go_roundw
    case rel=>exact ⟨c+1,_,_,q+1,o_,by go_num,lp,by rw[gD.o];exact tS,QD,Z4,QE,fm⟩
    case measure=>simp[intOf];omega
   rw[h_ v] at H9;have QG:=Zz (x3.o v);have lJ:=Zz v;clear v H1 x3 X;have o:=(Kp.refl ac wr).alloc (.cells #[.pointer (some ⟨b,0,none⟩),.int .i64 dk,.int .i64 S.slots,.string (bs key),.string f,.bool false] 141);have L:=Zz (ab.new wr 141 #[.pointer (some ⟨b,0,none⟩),.int .i64 dk,.int .i64 S.slots,.string (bs key),.string f,.bool false]);have H3:=Zz (w_D y.o o fun _ h=>h.elim);have x6:=Zz (A.o.kp o fun h=>h);have x0:=Zz (dL HR.o o fun _ _ h=>h);have x5:=Zz (h2.o.kp o fun h=>h)
   have Z5:Hid (r=pC S key t C q0 (c+1)/\q=q0+r.length):=Zz (by
    obtain ⟨h1,U⟩:=H0.o;refine ⟨?_,U⟩;have v:=lJ.o;rw[<-o5.o] at v;unfold pC;rw[if_neg v]
    exact h1)
   clear o h7 A HR h2 jp y4 y7 x1 y
   go_upto_region 9 with fail
   clear k0 k1 k2 k3 k4 H9;generalize y5:wr.alloc (.cells #[.pointer (some ⟨b,0,none⟩),.int .i64 dk,.int .i64 S.slots,.string (bs key),.string f,.bool false] 141)=O at *;clear y5;generalize wr.heap.size=D at *;have d5:=L.o.c5;go_wp2;go_roundw
   case rel=>exact ⟨c+1,_,_,q,o_,by go_num,x6,x0,x5,Z5,QG,H3⟩
   case measure=>simp[intOf];omega
  obtain rfl:c=S.data+2:=o_;go_wp2;go_ret;exact ⟨rfl,P,r,q,A.o,HR.o,h2.o,H0.o,X.o,Na am.o y.o⟩
end
def MN (S:cj) (σ:Nat->ao) (t c:Nat):Int:=if dT S ((c+t) % (S.data+2))=1 then (if (σ ((c+t) % (S.data+2))).dead=true then 20 else 0) else 24
noncomputable def sfA (S:cj) (σ:Nat->ao) (B:Nat->B_) (t c:Nat):B_:=if bad S σ ((c+t) % (S.data+2))=true then ByteArray.empty else tl (eg (fi S.data B t)) c
def v_T (S:cj) (σ:Nat->ao) (t c:Nat):MN S σ t c=0↔bad S σ ((c+t) % (S.data+2))=false:=by
 unfold MN;rw[c_];by_cases e:dT S ((c+t) % (S.data+2))=1
 ·rw[if_pos e]
  by_cases g:(σ ((c+t) % (S.data+2))).dead=true
  ·rw[if_pos g];simp[g]
  rw[if_neg g];simp[e,g]
 rw[if_neg e];simp[e]
def Y2 (S:cj) (σ:Nat->ao) (t c:Nat):MN S σ t c≠21:=by
 unfold MN;split
 ·split<;>decide
 decide
def i7 (S:cj) (σ:Nat->ao):Int:=if cS (bad S σ) (S.data+2)<=2 then 0 else 24
def An (B:Nat->B_) (t c:Nat) (e:c<d):tl (eg (fi d B t)) c=B (t*d+c):=by
 unfold eg;rw[z_ac,w_I,if_pos e,z6 _ _ _ _ e]
section
variable {σ:Nat->ao} {F:Nat->Prop} {ch:Nat->Nat->B_} 
def DW (u:a_ w) (h:Bk w b n σ F) (E:10<=w.heap.size) (hk:key.length=32) (g:gQ n key S σ ch B) (l:t<S.slots) (v:c<S.data+2) (z:c<(iV S t).length) :
  Cl 60 #[.agg (gb b S.slots key ((iV S t)[c]'z)),.int .i64 t] w fun e w'=>e=.returned (.tuple #[.string (sfA S σ B t c),.int .i64 (MN S σ t c)])/\Kp ac w w':=by
 rw[zh S t c v];have p:=v_T S σ t c;have f:(c+t) % (S.data+2)<S.data+2:=gx _ (by have:=g.ok.d2;omega);have y:=g.chk t l c v;unfold sfA;unfold MN at p ⊢;generalize (c+t) % (S.data+2)=i at *
 have r:i<n:=by have:=g.ok.n1;have:=g.len;omega
 by_cases m:dT S i=1
 ·rw[if_pos m] at p ⊢
  refine YV w b S.slots key ⟨i,Gl S i,decide (dT S i=1)⟩ t (decide_eq_true m) _ _ fun W k=>?_;by_cases o:(σ i).dead=true
  ·have hb:bad S σ i=true:=by unfold bad;rw[o];simp
   rw[if_pos o,if_pos hb];exact Dd RX (u.no k) (h.no k) (by have:=k.size;omega) r g.ok.sl hk l o _
  have hb:bad S σ i=false:=c_.2 ⟨m,by simpa using o⟩;rw[if_neg o,if_neg (by rw[hb];decide)]
  have hg:=TY (i:=i) (s:=S.slots) (t:=t) (key:=key) RX (u.no k) (h.no k) (by have:=k.size;omega) r (by have:=g.ok.n12;have:=g.len;omega) g.ok.sl hk l (by simpa using o) (RG S.slots t (ch i)) (tl (eg (fi S.data B t)) c).data.toList (fun j x=>by
   obtain ⟨a,d⟩:=nj g.ok.sl l (q:=(dJ S.slots t).getD j 0) (by
    rw[x_9 (by rw[KU];exact x)]
    exact rY _)
   rw[g.tree i hb _ a d]
   exact Kb g.ok.sl l (ch i) j x) (by rw[E4 g.ok.sl,g.cell i hb t l]) (by rw[g.cell i hb t l];exact y hb)
  rw[q8,<-g.top i hb,NP] at hg;exact hg
 have hb:bad S σ i=true:=by unfold bad;rw[decide_eq_true m];rfl
 rw[if_neg m,if_pos hb];exact sget_no w b S.slots key ⟨i,Gl S i,decide (dT S i=1)⟩ t (h_ m)
def MS (e:gQ n key S σ ch B) (m:t<S.slots) (T:List B_) (g:Int) (hD:DecR (i4 (S.data+2) (sfA S σ B t) (MN S σ t) (S.data+2)) (hJ (S.data+2) (MN S σ t) (S.data+2)) T g) :
  g=i7 S σ/\(i7 S σ=0->T=eg (fi S.data B t)):=by
 have l:=e.ok.d2;have r:=e.ok.d8
 obtain ⟨i,j⟩:=TL l o_ (w_I S.data B t) (stp_siz e.bsz m) (sfA S σ B t) (MN S σ t) (fun c s h=>by
  unfold sfA
  rw[if_neg (by rw[(v_T S σ t c).1 h];decide)]) hD
 have o:cS (fun c=>decide (MN S σ t c≠0)) (S.data+2)=cS (bad S σ) (S.data+2):=by
  rw[<-QX (bad S σ) (S.data+2) t o_];refine w_B _ fun c _=>?_;have:=v_T S σ t c
  cases hb:bad S σ ((c+t) % (S.data+2)) with
  | false=>rw[hb] at this;simp[this.2 rfl]
  | true =>
   rw[hb] at this;refine decide_eq_true fun k=>?_;have:=this.1 k;cases this
 rw[o] at i j;unfold i7;by_cases h:cS (bad S σ) (S.data+2)<=2
 ·rw[if_pos h]
  obtain ⟨p,q⟩:=i h;exact ⟨q,fun _=>p⟩
 rw[if_neg h];exact ⟨j o_,fun h=>by cases h⟩
def Zc (m:a_ w) (h:Bk w b n σ F) (r:10<=w.heap.size) (hk:key.length=32) (g:gQ n key S σ ch B) (j:t<S.slots) (v:Value) (hv:iB w v 6 (S.data+2) (i5 b S.slots key (iV S t))) :
  Cl 61 #[v,.int .i64 t] w fun e w'=>∃u o,e=.returned (.tuple #[u,o,.int .i64 (i7 S σ)])/\(i7 S σ=0->aH w' w.heap.size 9 u (sv (eg (fi S.data B t))))/\Kp ac w w':=by
 have p:=g.ok.d2;have q:=g.ok.d8;have hl:=w_Z S t;refine Cr w b S.slots t key v (iV S t) (by rw[hl];exact hv) (by rw[hl];omega) (sfA S σ B t) (MN S σ t) (Y2 S σ t) (fun c i W k=>?_) (eg (fi S.data B t)) (i7 S σ) (fun T l hD=>?_)
 ·exact DW (m.no k) (h.no k) (by have:=k.size;omega) hk g j (by rw[hl] at i;exact i) i
 rw[hl] at hD;exact MS g j T l hD
def rdB (S:cj) (σ:Nat->ao) (B:Nat->B_) (k:Nat):B_:=if bad S σ ((k % S.data+k / S.data) % (S.data+2))=true/\2<cS (bad S σ) (S.data+2) then ByteArray.empty else B k
def rdE (S:cj) (σ:Nat->ao) (k:Nat):Int:=if bad S σ ((k % S.data+k / S.data) % (S.data+2))=true/\2<cS (bad S σ) (S.data+2) then 24 else 0
def one_vol (t:a_ w) (h:Bk w b n σ F) (z:10<=w.heap.size) (hk:key.length=32) (i:gQ n key S σ ch B) {k:Nat} (u:k<S.slots*S.data) (v:Value) (hv:iB w v 6 (S.data+2) (i5 b S.slots key (iV S (k / S.data)))) :
  Cl 36 #[v,.int .i64 (k / S.data:Nat),.int .i64 (k % S.data:Nat)] w fun e w'=>e=.returned (.tuple #[.string (rdB S σ B k),.int .i64 (rdE S σ k)])/\Kp ac w w':=by
 have x:=i.ok.d2;have y:=i.ok.d8;have o:k / S.data<S.slots:=Nat.div_lt_of_lt_mul (by rw[Nat.mul_comm];exact u);have hm:k % S.data<S.data:=gx _ o_;have hl:=w_Z S (k / S.data)
 have m:=one_any w b S.slots (k / S.data) key v (iV S (k / S.data)) (by rw[hl];exact hv) (by rw[hl];omega) (sfA S σ B (k / S.data)) (MN S σ (k / S.data)) (Y2 S σ (k / S.data)) (fun c g W l=>DW (t.no l) (h.no l) (by have:=l.size;omega) hk i o (by rw[hl] at g;exact g) g) (eg (fi S.data B (k / S.data))) (i7 S σ)
  (fun T p hD=>by rw[hl] at hD;exact MS i o T p hD) (fun _=>by rw[kO,w_I,hl]) (k % S.data) (by rw[hl];omega)
 have s:B (k / S.data*S.data+k % S.data)=B k:=by rw[Nat.mul_comm,Nat.div_add_mod]
 have q:(if MN S σ (k / S.data) (k % S.data)=0 then sfA S σ B (k / S.data) (k % S.data) else if i7 S σ=0 then tl (eg (fi S.data B (k / S.data))) (k % S.data) else ByteArray.empty)=rdB S σ B k:=by
  unfold rdB sfA i7;have hz:=v_T S σ (k / S.data) (k % S.data);rw[An B _ _ hm,s]
  cases hb:bad S σ ((k % S.data+k / S.data) % (S.data+2)) with
  | false=>rw[if_pos (hz.2 hb)];simp
  | true =>
   rw[if_neg fun j=>by rw[hz.1 j] at hb;cases hb];by_cases g:cS (bad S σ) (S.data+2)<=2
   ·rw[if_pos g,if_pos rfl,if_neg fun h=>o_]
   rw[if_neg g,if_neg d_,if_pos ⟨rfl,o_⟩]
 have r:(if MN S σ (k / S.data) (k % S.data)=0 then 0 else i7 S σ)=rdE S σ k:=by
  unfold rdE i7;have hz:=v_T S σ (k / S.data) (k % S.data)
  cases hb:bad S σ ((k % S.data+k / S.data) % (S.data+2)) with
  | false=>rw[if_pos (hz.2 hb)];simp
  | true =>
   rw[if_neg fun j=>by rw[hz.1 j] at hb;cases hb];by_cases g:cS (bad S σ) (S.data+2)<=2
   ·rw[if_pos g,if_neg fun h=>o_]
   rw[if_neg g,if_pos ⟨rfl,o_⟩]
 rw[q,r] at m;exact m
end
end Go.Proofs.YtdkheklakfbeeaaGreatDoor
