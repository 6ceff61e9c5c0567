/- Part 16 of the proof. -/
import Derived.Maps.OwnSet
import Derived.Maps.Range
import Derived.Maps.RangeWalk
import Derived.Test.YtdkheklakfbeeaaGreatDoorM15
set_option linter.all false
set_option maxRecDepth 100000
set_option maxHeartbeats 16000000
namespace Go.Proofs.YtdkheklakfbeeaaGreatDoor
open Go.RowKit Tryz
structure Mem where
 st:Nat
 top:ByteArray
 log:ByteArray
structure Sup where
 count:Nat
 epoch:Nat
 data:Nat
 slots:Nat
 mem:List Mem
def z_x (l:List Mem):List Value:=l.flatMap fun x=>[.int .i64 x.st,.string x.top,.string x.log]
theorem memC_length (l:List Mem):(z_x l).length=l.length*3:=by
 induction l with
 | nil=>rfl
 | cons x l ih=>simp only[z_x,List.flatMap_cons,q_b,List.length_cons] at ih ⊢;rw[ih];simp;omega
theorem v_0 (l m:List Mem):z_x (l++m)=z_x l++z_x m:=by simp[z_x]
theorem x_p (l:List Mem) (i:Nat) (h:i<l.length):(z_x l)[i*3]?=some (.int .i64 ((l[i]'h).st:Int))/\(z_x l)[i*3+1]?=some (.string (l[i]'h).top)/\(z_x l)[i*3+2]?=some (.string (l[i]'h).log):=by
 induction l generalizing i with
 | nil=>simp at h
 | cons x l ih =>
  cases i with
  | zero=>exact ⟨rfl,rfl,rfl⟩
  | succ i =>
   have:=ih i (by simpa using h)
   have e1:(i+1)*3=i*3+3:=by omega
   rw[e1];exact this
def y_H (S:Sup):List Nat:=List.range (S.data+2)
def z_N (S:Sup) (vs vm:Value):Array Value:=#[.int .u64 S.count,.int .u64 S.epoch,.int .i64 S.data,.int .i64 S.slots,.int .i64 0,.int .i64 0,.bool false,vs,vm]
def y_P (w:World) (S:Sup) (vs vm:Value):Prop:=z_g w vs (zv (y_H S))/\z_Q w vm 3 S.mem.length (z_x S.mem)
theorem y_P.no {w w':World} {S:Sup} {vs vm:Value} (h:y_P w S vs vm) (k:Kp NoB w w'):y_P w' S vs vm:=⟨h.1.below k.below0,h.2.no k⟩
theorem y_P.shape {w:World} {S:Sup} {vs vm:Value} (h:y_P w S vs vm):∃As cs Am cm,vs=.slice As (S.data+2) cs/\vm=.slice Am S.mem.length cm:=by
 obtain ⟨Am,cm,e1,_⟩:=h.2;obtain ⟨As,cs,e2,_⟩:=h.1;exact ⟨As,cs,Am,cm,by rw[e2,z_w,y_H,q_H],e1⟩
structure SupOk (S:Sup):Prop where
 d2:2<=S.data
 d8:S.data<=4
 sl:sl S.slots
 n1:S.data+2<=S.mem.length
 n12:S.mem.length<=12
 mem:∀i (h:i<S.mem.length),(S.mem[i]'h).top.size=32/\(S.mem[i]'h).log.size=32/\(i<S.data+2->(S.mem[i]'h).st=1\/(S.mem[i]'h).st=2)/\(S.data+2<=i->(S.mem[i]'h).st=0)
 c:S.count<=1000
 e:S.epoch<=1000
section
variable {w:World} {S:Sup} {vs vm:Value}
theorem ssizes_any (hS:SupOk S) (h:y_P w S vs vm) :
  Cl 164 #[.agg (z_N S vs vm)] w fun e w'=>e=.returned (.bool true)/\Kp NoB w w':=by
 have HB:=Zz (Blk.new w 60 (z_N S vs vm));have HK:=Zz ((Kp.refl NoB w).alloc (.cells (z_N S vs vm) 60));obtain ⟨As,cs,Am,cm,rfl,rfl⟩:=h.shape;have iD:=hS.d2;have db:=hS.d8;have hs:=hS.sl;have h3:=hS.n1;have h4:=hS.n12;clear h hS;obtain ⟨count,epoch,d,s,mem⟩:=S
 dsimp only at iD db hs h3 h4 HB HK ⊢
 have hC:=fun (W:World) (g:Nat) (hW:Blk W g 3 #[.int .i64 2,.int .i64 4,.int .i64 8,.int .i64 16])=>Tryz.slices_Contains_int g 0 4 4 [2,4,8,16] (s:Int) W (by decide) (by decide) (fun j hj=>by
  rw[q_D,hW.cell]
  match j,hj with
  | 0,_=>rfl
  | 1,_=>rfl
  | 2,_=>rfl
  | 3,_=>rfl)
 have bm:(List.take 4 [(2:Int),4,8,16]).contains (s:Int)=true:=by rcases hs with rfl|rfl<;>decide
 rw[bm] at hC;have HC:=Zz hC
 have hsp:0<s:=by rcases hs with rfl|rfl<;>omega
 have i1:¬((d:Int)<2):=by omega
 have i2:¬((8:Int)<(d:Int)):=by omega
 have i3:decide (d<2)=false:=q_v (by omega);have i4:decide (8<d)=false:=q_v (by omega);generalize mem.length=n at *
 have i5:(1:Int)<=(n:Int):=by omega
 have i6:(n:Int)<=12:=by omega
 have i7:decide (1<=n)=true:=decide_eq_true (by omega);have i8:decide (n<=12)=true:=decide_eq_true (by omega)
 have i9:¬((s:Int)<0):=by omega
 have i10:(0:Int)<=(s:Int):=by omega
 clear hC bm hs;change Cl 164 #[.agg #[.int .u64 count,.int .u64 epoch,.int .i64 d,.int .i64 s,.int .i64 0,.int .i64 0,.bool false,.slice As (d+2) cs,.slice Am n cm]] w _;change Hid (Blk (w.alloc (.cells #[.int .u64 count,.int .u64 epoch,.int .i64 d,.int .i64 s,.int .i64 0,.int .i64 0,.bool false,.slice As (d+2) cs,.slice Am n cm] 60)) w.heap.size 60 #[.int .u64 count,.int .u64 epoch,.int .i64 d,.int .i64 s,.int .i64 0,.int .i64 0,.bool false,.slice As (d+2) cs,.slice Am n cm]) at HB;change Hid (Kp NoB w (w.alloc (.cells #[.int .u64 count,.int .u64 epoch,.int .i64 d,.int .i64 s,.int .i64 0,.int .i64 0,.bool false,.slice As (d+2) cs,.slice Am n cm] 60))) at HK;go_enter func164,ntmps164
 go_upto_region 1 with fail
 generalize aN:w.alloc (.cells #[.int .u64 count,.int .u64 epoch,.int .i64 d,.int .i64 s,.int .i64 0,.int .i64 0,.bool false,.slice As (d+2) cs,.slice Am n cm] 60)=w1 at *;clear aN;generalize w.heap.size=G at *;have c2:=HB.o.c2;have c3:=HB.o.c3;have c6:=HB.o.c6
 go_upto_region 3 with fail
 have ak:=Zz (HB.o.alloc (.cells #[.int .i64 2,.int .i64 4,.int .i64 8,.int .i64 16] 3));have al:=Zz (HK.o.alloc (.cells #[.int .i64 2,.int .i64 4,.int .i64 8,.int .i64 16] 3));have qt:=Zz (Blk.new w1 3 #[.int .i64 2,.int .i64 4,.int .i64 8,.int .i64 16]);have c3x:(w1.alloc (.cells #[.int .i64 2,.int .i64 4,.int .i64 8,.int .i64 16] 3)).cell? ⟨G,3,none⟩=some (.int .i64 s):=ak.o.cell 3;go_wp2_with fail;refine (HC.o _ _ qt.o).mono ?_;rintro e w2 ⟨rfl,rfl⟩;clear c2 c3 c3x c6 HB HK;generalize w1.alloc (.cells #[.int .i64 2,.int .i64 4,.int .i64 8,.int .i64 16] 3)=w3 at *;have c3:=ak.o.c3;have c4:=ak.o.c4;have c5:=ak.o.c5;have c6:=ak.o.c6;have c8:=ak.o.c8;go_wp2;go_ret;exact ⟨rfl,al.o⟩
theorem SupOk.st2 (hS:SupOk S) (i:Nat) (h:i<S.mem.length):(S.mem[i]'h).st<=2:=by
 obtain ⟨_,_,h3,h4⟩:=hS.mem i h;by_cases e:i<S.data+2
 ·rcases h3 e with e|e<;>omega
 ·have:=h4 (by omega);omega
theorem y_P.memAt {w':World} (h:y_P w S vs vm) (k:Kp NoB w w') {Am:Option Addr} {cm:Nat} (hm:vm=.slice Am S.mem.length cm) (hp:0<S.mem.length):∃rb off,Am=some ⟨rb,off,none⟩/\∀i (h:i<S.mem.length),w'.cell? ⟨rb,off+i*3,none⟩=some (.int .i64 ((S.mem[i]'h).st:Int))/\w'.cell? ⟨rb,off+i*3+1,none⟩=some (.string (S.mem[i]'h).top)/\w'.cell? ⟨rb,off+i*3+2,none⟩=some (.string (S.mem[i]'h).log):=by
 obtain ⟨A,c,he,_,_,_,hc⟩:=(h.no k).2;subst hm;cases he;obtain ⟨rb,off,rfl,ae⟩:=hc hp;refine ⟨rb,off,rfl,fun i hi=>?_⟩;obtain ⟨q1,q2,q3⟩:=x_p S.mem i hi;have k0:=(ae (i*3) (by omega)).trans q1;have k1:=(ae (i*3+1) (by omega)).trans q2;have k2:=(ae (i*3+2) (by omega)).trans q3;rw[<-Nat.add_assoc] at k1 k2;exact ⟨k0,k1,k2⟩
theorem smembers_any (hS:SupOk S) (h:y_P w S vs vm) :
  Cl 165 #[.agg (z_N S vs vm)] w fun e w'=>e=.returned (.bool true)/\Kp NoB w w':=by
 have HB:=Zz (Blk.new w 60 (z_N S vs vm));have HK:=Zz ((Kp.refl NoB w).alloc (.cells (z_N S vs vm) 60));obtain ⟨As,cs,Am,cm,cQ,cq⟩:=h.shape;have h3:=hS.n1;have h4:=hS.n12;obtain ⟨rb,off,mE,_⟩:=h.memAt (Kp.refl _ _) cq (by omega);subst mE;have gB:=Zz (fun w' (k:Kp NoB w w')=>h.memAt k cq (by omega));have aR:=Zz hS.st2;have b6:=Zz hS.mem;subst cQ cq;clear h hS;obtain ⟨count,epoch,d,s,mem⟩:=S
 dsimp only at h3 h4 HB HK gB aR b6 ⊢
 obtain ⟨n,hn⟩:∃n,mem.length=n:=⟨_,rfl⟩;have HN:=Zz hn;have HB:Hid (Blk (w.alloc (.cells #[.int .u64 count,.int .u64 epoch,.int .i64 d,.int .i64 s,.int .i64 0,.int .i64 0,.bool false,.slice As (d+2) cs,.slice (some ⟨rb,off,none⟩) mem.length cm] 60)) w.heap.size 60 #[.int .u64 count,.int .u64 epoch,.int .i64 d,.int .i64 s,.int .i64 0,.int .i64 0,.bool false,.slice As (d+2) cs,.slice (some ⟨rb,off,none⟩) mem.length cm]):=HB;have HK:Hid (Kp NoB w (w.alloc (.cells #[.int .u64 count,.int .u64 epoch,.int .i64 d,.int .i64 s,.int .i64 0,.int .i64 0,.bool false,.slice As (d+2) cs,.slice (some ⟨rb,off,none⟩) mem.length cm] 60))):=HK;change Cl 165 #[.agg #[.int .u64 count,.int .u64 epoch,.int .i64 d,.int .i64 s,.int .i64 0,.int .i64 0,.bool false,.slice As (d+2) cs,.slice (some ⟨rb,off,none⟩) mem.length cm]] w _;rw[hn] at HB HK h3 h4 ⊢;clear hn;go_enter func165,ntmps165
 go_upto_region 1 with fail
 generalize aN:w.alloc (.cells #[.int .u64 count,.int .u64 epoch,.int .i64 d,.int .i64 s,.int .i64 0,.int .i64 0,.bool false,.slice As (d+2) cs,.slice (some ⟨rb,off,none⟩) n cm] 60)=w1 at *;clear aN;generalize w.heap.size=G at *;have c8:=HB.o.c8;have aW:=Zz (Kp.refl NoB w1)
 go_upto_region 3 with fail
 clear c8
 go_loopw [3,5,9] (fun s3 _ s9 wr=>∃i:Nat,i<=n/\s9=.int .i64 i/\s3=.int .i64 0/\Hid (Kp NoB w1 wr)) (fun _ _ s9 _=>n-(intOf s9).toNat)
 case atStart=>exact ⟨0,by omega,rfl,rfl,aW⟩
 case round =>
  clear aW;obtain ⟨i,hi,rfl,rfl,bw⟩:=hrel;by_cases af:i<n
  ·have bV:(i:Int)<(n:Int):=by omega
   have cF:i<mem.length:=by rw[HN.o];exact af
   obtain ⟨rY,gz,fm,aa⟩:=gB.o wr (HK.o.trans bw.o);cases fm;obtain ⟨k0,k1,k2⟩:=aa i cF;have s2:=aR.o i cF;obtain ⟨z1,z2,_,_⟩:=b6.o i cF;clear aa;generalize (mem[i]'cF).st=st at *;generalize (mem[i]'cF).top=tp at *;generalize (mem[i]'cF).log=lg at *
   have j1:¬((st:Int)<0):=by omega
   have j2:¬((4:Int)<=(st:Int)):=by omega
   have j3:((st:Int)==3)=false:=by rw[q_o];omega
   have j4:decide ((st:Int)<0)=false:=q_v j1;have j5:decide (4<=st)=false:=q_v (by omega)
   have j6:((32:Int) != 32)=false:=by decide
   have j7:((tp.size:Int) != 32)=false:=by rw[z1];decide
   have j8:((lg.size:Int) != 32)=false:=by rw[z2];decide
   have cN:=Zz (Blk.new wr 108 #[.int .i64 st,.string tp,.string lg]);have bn:=Zz (bw.o.alloc (.cells #[.int .i64 st,.string tp,.string lg] 108))
   go_upto_region 5 with fail
   clear k0 k1 k2 bw;generalize wr.alloc (.cells #[.int .i64 st,.string tp,.string lg] 108)=w5 at *;generalize wr.heap.size=D at *;have c0:=cN.o.c0;have c1:=cN.o.c1;have c2:=cN.o.c2;go_wp2;go_roundw
   case rel=>exact ⟨i+1,by omega,by go_num,rfl,bn⟩
   case measure=>simp[intOf];omega
  ·obtain rfl:i=n:=by omega
   have ak:=Zz (HB.o.kp bw.o fun h=>h);have c5:=ak.o.c5;go_wp2;go_ret;exact ⟨rfl,HK.o.trans bw.o⟩
end
section
open Go.Maps
def HR (v:Value):Option (DataW Value × List MemPlace):=some (.held v,[])
structure KM (P:Program) (k:TypeId) (α:Type) where
 kk:α->Lit
 kv:α->Value
 ok:α->Prop
 key:∀a,ok a->keyOf P k (kv a)=some (kk a)
 inj:∀a b,ok a->ok b->kk a=kk b->a=b
section
variable {P:Program} {k e t:TypeId} {α:Type} (M:KM P k α) {w w':World} {b:Nat} {f:α->Option Value} {dom:List α}
structure MapA (w:World) (b:Nat) (f:α->Option Value) (dom:List α):Prop where
 oks:∀a∈dom,M.ok a
 nodup:dom.Nodup
 isSome:∀a,(f a).isSome=true↔a∈dom
 own:∃D,w.ownsMap P k HR b dom.length D/\size D=dom.length/\(∀a,M.ok a->has D (M.kk a)=(f a).isSome)/\(∀a v,f a=some v->∀z,D.atKey (M.kk a) z=.held v)/\(∀kl,has D kl=true->∃a,a∈dom/\M.kk a=kl)
theorem owns_tight {D:DataW Value} {n:Nat} (h:w.ownsMap P k HR b n D):w.ownsMap P k HR b (size D) D:=by
 obtain ⟨es,clock,hb,F,hs,rfl⟩:=h;exact ⟨es,clock,hb,F,by simp[Maps.size,length_sorted],rfl⟩
variable {M}
theorem MapA.lt (h:MapA M w b f dom):b<w.heap.size:=by obtain ⟨D,h1,_⟩:=h.own;exact h1.lt
theorem MapA.map (h:MapA M w b f dom):∃es clock,w.heap[b]?=some (.map es clock):=by
 obtain ⟨D,⟨es,clock,hb,_⟩,_⟩:=h.own;exact ⟨es,clock,hb⟩
theorem MapA.ne_blk (h:MapA M w b f dom) {g t':Nat} {cs:Array Value} (hg:Blk w g t' cs):b≠g:=by
 rintro rfl;obtain ⟨es,clock,hb⟩:=h.map;unfold Blk at hg;rw[hb] at hg;cases hg
theorem MapA.same (h:MapA M w b f dom) (hb:w'.heap[b]?=w.heap[b]?):MapA M w' b f dom:=by
 obtain ⟨h1,h2,h3,D,⟨es,clock,iy,F⟩,h4⟩:=h;exact ⟨h1,h2,h3,D,⟨es,clock,hb.trans iy,F⟩,h4⟩
theorem MapA.kp {S:Nat->Prop} (h:MapA M w b f dom) (hk:Kp S w w') (hb:¬S b):MapA M w' b f dom:=h.same (hk.block b h.lt hb)
theorem MapA.no (h:MapA M w b f dom) (hk:Kp NoB w w'):MapA M w' b f dom:=h.kp hk fun h=>h
theorem MapA.alloc (h:MapA M w b f dom) (o:Obj):MapA M (w.alloc o) b f dom:=h.no ((Kp.refl NoB w).alloc o)
theorem MapA.made (w:World):MapA M (w.alloc (.map #[] 0)) w.heap.size (fun _=>none) [] :=
 ⟨by simp,List.nodup_nil,by simp,.map [],World.ownsMap_made w P k HR,rfl,fun a _=>rfl,by simp,by intro kl h;cases h⟩
theorem MapA.look (h:MapA M w b f dom) (K:Keyed P k) (ht:P.underlying t=some (.map k e)) {z:Value} (hz:(zeroValue e).run P w=.ok z w) {a:α} (ha:M.ok a) :
  (Instr.lookup t (.map (some b)) (M.kv a) false).run P w=.ok ((f a).getD z) w/\(Instr.lookup t (.map (some b)) (M.kv a) true).run P w=.ok (.tuple #[(f a).getD z,.bool (f a).isSome]) w:=by
 obtain ⟨D,h1,h2,h3,h4,h5⟩:=h.own;have cX:HR z=some (.held z,[]):=rfl
 have hd:D.atKey (M.kk a) (.held z)=.held ((f a).getD z):=by
  cases hf:f a with
  | some v=>rw[h4 a v hf];rfl
  | none=>rw[atKey_of_not_has (by rw[h3 a ha,hf];rfl)];rfl
 constructor
 ·obtain ⟨v,ps,hr,hv⟩:=h1.lookup K ht hz cX (M.key a ha)
  rw[hd] at hv
  have:v=(f a).getD z:=by unfold HR at hv;injection hv with hv;injection hv with hv _;injection hv
  rw[hr,this]
 ·obtain ⟨v,ps,hr,hv⟩:=h1.look_ok K ht hz cX (M.key a ha)
  rw[hd] at hv
  have:v=(f a).getD z:=by unfold HR at hv;injection hv with hv;injection hv with hv _;injection hv
  rw[hr,this,h3 a ha]
theorem MapA.len (h:MapA M w b f dom) (ht:P.underlying t=some (.map k e)) (ty:TypeId):(Builtin.len_ #[t] ty #[.map (some b)]).run P w=.ok (.int .i64 (dom.length:Nat)) w:=by
 obtain ⟨D,h1,h2,_⟩:=h.own;rw[<-h2];exact h1.len ht ty
variable [DecidableEq α]
def y_Q (f:α->Option Value) (a:α) (v:Value):α->Option Value:=fun x=>if x=a then some v else f x
def z_J (dom:List α) (a:α):List α:=if a∈dom then dom else dom++[a]
theorem z_9 (dom:List α) (a x:α):x∈z_J dom a↔x∈dom\/x=a:=by
 unfold z_J;split
 ·constructor
  ·exact .inl
  ·rintro (h|rfl)<;>assumption
 ·simp
theorem nodup_addK {dom:List α} (h:dom.Nodup) (a:α):(z_J dom a).Nodup:=by
 unfold z_J;split
 ·exact h
 ·rename_i hn
  rw[List.nodup_append];refine ⟨h,List.nodup_cons.2 ⟨by simp,List.nodup_nil⟩,?_⟩;intro x hx y hy;simp at hy;subst hy;rintro rfl;exact hn hx
theorem MapA.put (h:MapA M w b f dom) (K:Keyed P k) (ht:P.underlying t=some (.map k e)) (hn:dom.length<maxLen) {a:α} (ha:M.ok a) (v:Value) :
  ∃w',(Instr.mapUpdate t (.map (some b)) (M.kv a) v).run P w=.ok () w'/\MapA M w' b (y_Q f a v) (z_J dom a)/\Kp (·=b) w w':=by
 obtain ⟨D,h1,h2,h3,h4,h5⟩:=h.own;obtain ⟨w',hr,h6,hg⟩:=h1.update K ht hn (M.key a ha) (show HR v=some (.held v,[]) from rfl);have dN:=K.key (M.key a ha);have hm:=h1.isMap
 have aj:size (D.put (M.kk a) (.held v))=(z_J dom a).length:=by
  rw[size_put (h1.tidy K),h3 a ha,h2];unfold z_J;by_cases hd:a∈dom
  ·rw[if_pos hd,if_pos ((h.isSome a).2 hd)]
  ·rw[if_neg hd,if_neg (fun e=>hd ((h.isSome a).1 e)),q_b,q_x]
 refine ⟨w',hr,⟨fun x hx=>?_,nodup_addK h.nodup a,fun x=>?_,_,by rw[<-aj];exact owns_tight h6,aj,fun x hx=>?_,fun x u hu z=>?_,fun kl mF=>?_⟩,Kp.of_grown hg fun q e=>(Option.some.inj e)⟩
 ·rcases (z_9 dom a x).1 hx with hx|rfl
  ·exact h.oks x hx
  ·exact ha
 ·rw[z_9]
  unfold y_Q;by_cases e1:x=a
  ·rw[if_pos e1];simp[e1]
  ·rw[if_neg e1,h.isSome];simp[e1]
 ·unfold y_Q
  by_cases e1:x=a
  ·subst e1;rw[if_pos rfl,has_put_same hm dN];rfl
  ·rw[if_neg e1,has_put_other (fun e=>e1 (M.inj _ _ hx ha e)),h3 x hx]
 ·unfold y_Q at hu
  by_cases e1:x=a
  ·subst e1;rw[if_pos rfl] at hu;cases hu;rw[atKey_put_same hm dN]
  ·rw[if_neg e1] at hu
   rw[atKey_put_other (fun e=>e1 (M.inj _ _ (h.oks x ((h.isSome x).1 (by rw[hu];rfl))) ha e)),h4 x u hu]
 ·by_cases e1:kl=M.kk a
  ·exact ⟨a,(z_9 dom a a).2 (.inr rfl),e1.symm⟩
  ·rw[has_put_other e1] at mF
   obtain ⟨x,hx,xZ⟩:=h5 kl mF;exact ⟨x,(z_9 dom a x).2 (.inl hx),xZ⟩
def delK (f:α->Option Value) (a:α):α->Option Value:=fun x=>if x=a then none else f x
theorem MapA.del (h:MapA M w b f dom) (K:Keyed P k) (ht:P.underlying t=some (.map k e)) {a:α} (ha:M.ok a) (ty:TypeId) :
  ∃w',(Builtin.delete_ #[t,k] ty #[.map (some b),M.kv a]).run P w=.ok (.tuple #[]) w'/\MapA M w' b (delK f a) (dom.erase a)/\Kp (·=b) w w':=by
 obtain ⟨D,h1,h2,h3,h4,h5⟩:=h.own;obtain ⟨w',hr,h6,hg⟩:=h1.drop K ht (M.key a ha) ty
 have aj:size (D.del (M.kk a))=(dom.erase a).length:=by
  have:=size_del (k:=M.kk a) (h1.tidy K);rw[h3 a ha,h2] at this;by_cases hd:a∈dom
  ·rw[if_pos ((h.isSome a).2 hd)] at this
   rw[List.length_erase_of_mem hd];omega
  ·rw[if_neg (fun e=>hd ((h.isSome a).1 e))] at this
   rw[List.erase_of_not_mem hd];omega
 refine ⟨w',hr,⟨fun x hx=>h.oks x (List.mem_of_mem_erase hx),h.nodup.erase a,fun x=>?_,_,by rw[<-aj];exact owns_tight h6,aj,fun x hx=>?_,fun x u hu z=>?_,fun kl mF=>?_⟩,Kp.of_grown hg.grown fun q e=>(Option.some.inj e)⟩
 ·rw[h.nodup.mem_erase_iff]
  unfold delK;by_cases e1:x=a
  ·rw[if_pos e1];simp[e1]
  ·rw[if_neg e1,h.isSome];simp[e1]
 ·unfold delK
  by_cases e1:x=a
  ·subst e1;rw[if_pos rfl,has_del_same];rfl
  ·rw[if_neg e1,has_del_other (fun e=>e1 (M.inj _ _ hx ha e)),h3 x hx]
 ·unfold delK at hu
  by_cases e1:x=a
  ·rw[if_pos e1] at hu;cases hu
  ·rw[if_neg e1] at hu
   rw[atKey_del_other (fun e=>e1 (M.inj _ _ (h.oks x ((h.isSome x).1 (by rw[hu];rfl))) ha e)),h4 x u hu]
 ·by_cases e1:kl=M.kk a
  ·rw[e1,has_del_same] at mF;cases mF
  ·rw[has_del_other e1] at mF
   obtain ⟨x,hx,xZ⟩:=h5 kl mF;refine ⟨x,h.nodup.mem_erase_iff.2 ⟨?_,hx⟩,xZ⟩;rintro rfl;exact e1 xZ.symm
end
def KInt (P:Program) (k:TypeId) (hk:P.underlying k=some (.int .i64)):KM P k Nat where
 kk n:=.int .i64 n
 kv n:=.int .i64 n
 ok n:=n<=100000
 key n h:=Maps.keyOf_int_mk hk (by simp only[Lit.wf,IntKind.min,IntKind.max,IntKind.signed,IntKind.bits,Bool.and_eq_true,decide_eq_true_eq,if_true];omega)
 inj a b _ _ h:=by injection h with _ h;exact Int.ofNat.inj h
end
def LookS (w:World) (mv:Value) (m:Nat->Option ByteArray):Prop:=∀W,Kp NoB w W->∀k:Nat,k<1000->∃x,(Instr.lookup 264 mv (.int .i64 k) true).run prog W=.ok (.tuple #[.string x,.bool (m k).isSome]) W/\∀y,m k=some y->x=y
theorem LookS.no {w w':World} {mv:Value} {m:Nat->Option ByteArray} (h:LookS w mv m) (k:Kp NoB w w'):LookS w' mv m:=fun W hW=>h W (k.trans hW)
theorem sv_map_take (L:List Nat) (E:Nat->ByteArray) (j:Nat) (h:j<L.length):sv ((L.take (j+1)).map E)=sv ((L.take j).map E)++[.string (E (L.getD j 0))]:=by
 rw[q_h h,List.map_append,w_0];simp[sv,q_a,h]
theorem pathN_lt {s t j:Nat} (hs:sl s) (ht:t<s):(z_p s t).getD j 0<4:=by
 unfold z_p;rcases hs with rfl|rfl
 ·rw[if_pos rfl]
  cases j with
  | zero=>decide
  | succ j=>simp
 ·rw[if_neg (by decide)]
  match j with
  | 0=>show 1<4;decide
  | 1=>show 2+t / 2<4;omega
  | j+2=>simp
theorem tl_map (L:List Nat) (E:Nat->ByteArray) (j:Nat) (h:j<L.length):tl (L.map E) j=E (L.getD j 0):=by
 simp[tl,q_a,h]
section
variable {w:World} {b n i s t:Nat} {key:List UInt8} {σ:Nat->DkS} {F:Nat->Prop}
theorem over_any (hP:w_Z) (hL:Lay w) (h:Bk w b n σ F) (hw:10<=w.heap.size) (hi:i<n) (hs:sl s) (ht:t<s) (mv:Value) (m:Nat->Option ByteArray) (bo:LookS w mv m) (E tp:Nat->ByteArray)
  (hE:∀j,j<dep s->(∀y,m ((z_p s t).getD j 0)=some y->y=E ((z_p s t).getD j 0))/\(m ((z_p s t).getD j 0)=none->(σ i).dead=false/\tl (σ i).now (100+(z_p s t).getD j 0)=E ((z_p s t).getD j 0)))
  (iH:∀j,j<dep s->(E ((z_p s t).getD j 0)).size=64/\z_X (E ((z_p s t).getD j 0))=tp j/\tp (j+1)=hlf (E ((z_p s t).getD j 0)) (sec s t j)) :
  Cl 151 #[.agg (slC b i s key),.string (tp 0),.int .i64 t,mv] w fun e w'=>∃u,e=.returned (.tuple #[u,.string (tp (dep s)),.int .i64 0])/\z_g w' u (sv ((z_p s t).map E))/\Kp NoB w w':=by
 have HB:=Zz (Blk.new w 139 (slC b i s key));have HK:=Zz ((Kp.refl NoB w).alloc (.cells (slC b i s key) 139));have cM:=Zz (fun W hW bE=>hP W s t hs ht hW bE);have eS:=Zz h;have bj:=Zz hL;have Mo:=Zz bo;have bQ:=y_1 s t
 have iD:1<=dep s/\dep s<=2:=by rcases hs with rfl|rfl<;>decide
 have Xe:=Zz (fun W (hW:Lay W) (bE:10<=W.heap.size) u (hu:z_g W u (sv ((z_p s t).map E)))=>follow_any W hW bE s t hs ht u ((z_p s t).map E) hu (by rw[q_i,bQ]) tp (fun j hj=>by
  rw[tl_map _ _ _ (by omega)];exact iH j hj))
 have vq:=Zz (sv_map_take (z_p s t) E);have eC:Hid ((z_p s t).take (dep s)=z_p s t):=Zz (by rw[<-bQ,List.take_length]);have HE:=Zz hE;have fG:=Zz (fun j=>pathN_lt (j:=j) hs ht)
 have Bo:Hid (∀j,(sv (((z_p s t).take j).map E)).length<=2):=Zz fun j=>by rw[z_c,q_i,q_l];omega
 have Xf:=Zz (zv_at (z_p s t));clear hP hs hL h bo hE iH;generalize z_p s t=L at *;generalize dep s=p at *;change Cl 151 #[.agg #[.pointer (some ⟨b,0,none⟩),.int .i64 i,.int .i64 s,.string (bs key)],.string (tp 0),.int .i64 t,mv] w _;go_enter func151,ntmps151
 go_upto_region 1 with fail
 change Code.wp _ _ _ _ (w.alloc (.cells (slC b i s key) 139));generalize aN:w.alloc (.cells (slC b i s key) 139)=w1 at *;clear aN
 have fi:10<=w1.heap.size:=by have:=HK.o.size;omega
 obtain ⟨G,hG⟩:∃G,w.heap.size=G:=⟨_,rfl⟩;rw[hG] at HB ⊢;have c2:=HB.o.c2;go_wp2_with fail;refine (cM.o _ (bj.o.no HK.o) fi).mono ?_;rintro e w2 ⟨u,rfl,hu,ag⟩;have ak:=Zz (HB.o.kp ag fun h=>h);have al:=Zz (HK.o.trans ag);obtain ⟨A,c,rfl,aK,bf,aa⟩:=hu;rw[z_w,bQ] at aK aa ⊢;obtain ⟨pb,off,rfl,ae⟩:=aa (by omega);have bA:=Zz ae;have HO:Hid (Own w2 w2.heap.size 9 (.slice none 0 0) (sv ((L.take 0).map E))):=Zz (Own.nil_ _ _ _);have dU:=Zz (Kp.refl NoB w2);have ll:=Zz al.o.size;clear ag c2 HB HK aa ae
 go_upto_region 4 with fail
 go_loopw [13,15,16,17,18,30] (fun s13 _ _ _ _ s30 wr=>∃j:Nat,j<=p/\s30=.int .i64 j/\Hid (Own wr w2.heap.size 9 s13 (sv ((L.take j).map E)))/\Hid (Blk wr G 139 (slC b i s key))/\Hid (Kp NoB w wr)/\Hid (Kp NoB w2 wr)) (fun _ _ _ _ _ s30 _=>p-(intOf s30).toNat)
 case atStart=>exact ⟨0,by omega,rfl,HO,ak,al,dU⟩
 case round =>
  clear HO ak al dU;obtain ⟨j,hj,rfl,HO,HB,HK,dU⟩:=hrel;by_cases af:j<p
  ·have hx:=bA.o j af
   rw[Xf.o j (by omega)] at hx;have k0:=(dU.o.below0.cell (q_c w2 _ hx)).trans hx
   have bV:(j:Int)<(p:Int):=by omega
   have dN:=fG.o j;have aR:=Zz (vq.o j (by omega));obtain ⟨q1,q2⟩:=HE.o j af;have iR:=Bo.o j;obtain ⟨x,dA,vt⟩:=Mo.o wr HK.o (L.getD j 0) (by omega);have c0:=HB.o.c0;have c1:=HB.o.c1;clear hx;generalize L.getD j 0=k at *;have Xg:=Zz (fun y:ByteArray=>HB.o.alloc (.cells #[.string y] 9));have aj:=dU.o.size
   cases bK:m k with
   | some y =>
    have hy:y=E k:=q1 y bK
    have xZ:x=E k:=by rw[vt y bK];exact hy
    rw[bK] at dA;rw[xZ] at dA;have ya:Hid ((Instr.lookup 264 mv (.int .i64 k) true).run prog wr=.ok (.tuple #[.string (E k),.bool true]) wr):=Zz dA;clear q1 q2 vt bK hy xZ dA;have dA:=ya.o;generalize E k=ek at *
    go_wp2_with (at_builtin;refine x_d (w0:=wr) w2.heap.size rfl (.tmp 55) (.tmp 57) 38 9 (.string ⟨#[]⟩) 16 rfl underlying38 x_4 rfl (by decide) u13 (sv ((L.take j).map E)) (.string ek) rfl rfl rfl HO.o ((Below.refl _ _).mono aj) aj (by omega) ?_;intro v1 w9 dL pN eR df;have cT:=Zz dL;have eE:=Zz eR;clear dL pN eR df)
    rw[<-aR.o] at cT;have fL:=Zz (HB.o.grown eE.o (Ne.symm (z_s HO.o HB.o (by decide))));have aT:=Zz (HK.o.then (Kp.of_grown eE.o (S:=fun q=>some q=u13.ownBlock) fun _ h=>h) fun q hq h=>by have:=(HO.o.lt q h.symm).1;have:=ll.o;omega);have mg:=Zz (dU.o.then (Kp.of_grown eE.o (S:=fun q=>some q=u13.ownBlock) fun _ h=>h) fun q hq h=>by have:=(HO.o.lt q h.symm).1;omega);go_roundw
    case rel=>exact ⟨j+1,by omega,by go_num,cT,fL,aT,mg⟩
    case measure=>simp[intOf];omega
   | none =>
    obtain ⟨hd,DV⟩:=q2 bK;rw[bK] at dA;have ya:Hid ((Instr.lookup 264 mv (.int .i64 k) true).run prog wr=.ok (.tuple #[.string x,.bool false]) wr):=Zz dA;have lA:=Zz (x_L (eS.o.no HK.o) i (100+k) hi (by omega));rw[hd,DV] at lA;have lA:Hid (Cl 130 #[.pointer (some ⟨b,0,none⟩),.int .i64 i,.int .i64 (100+k:Nat)] wr fun e w'=>e=.returned (.tuple #[.string (E k),.int .i64 0])/\w'=wr):=lA;clear q1 q2 vt bK dA hd DV;have dA:=ya.o
    have tj:(100:Int)+(k:Int)=((100+k:Nat):Int):=by omega
    have nv:IntKind.i64.wrap ((100+k:Nat):Int)=((100+k:Nat):Int):=by rw[q_r];omega
    have Rq:100+k<104:=by omega
    generalize E k=ek at *;generalize 100+k=kk at *;go_wp2_with fail;refine lA.o.mono ?_;rintro e w4 ⟨rfl,rfl⟩
    go_wp2_with (at_builtin;refine x_d (w0:=w4) w2.heap.size rfl (.tmp 55) (.tmp 57) 38 9 (.string ⟨#[]⟩) 16 rfl underlying38 x_4 rfl (by decide) u13 (sv ((L.take j).map E)) (.string ek) rfl rfl rfl HO.o ((Below.refl _ _).mono aj) aj (by omega) ?_;intro v1 w9 dL pN eR df;have cT:=Zz dL;have eE:=Zz eR;clear dL pN eR df)
    rw[<-aR.o] at cT;have fL:=Zz (HB.o.grown eE.o (Ne.symm (z_s HO.o HB.o (by decide))));have aT:=Zz (HK.o.then (Kp.of_grown eE.o (S:=fun q=>some q=u13.ownBlock) fun _ h=>h) fun q hq h=>by have:=(HO.o.lt q h.symm).1;have:=ll.o;omega);have mg:=Zz (dU.o.then (Kp.of_grown eE.o (S:=fun q=>some q=u13.ownBlock) fun _ h=>h) fun q hq h=>by have:=(HO.o.lt q h.symm).1;omega);go_roundw
    case rel=>exact ⟨j+1,by omega,by go_num,cT,fL,aT,mg⟩
    case measure=>simp[intOf];omega
  ·obtain rfl:j=p:=by omega
   rw[eC.o] at HO;have bH:=HO.o.reads;have dc:=Zz bH;clear bH;go_wp2_with fail;refine (Xe.o _ (bj.o.no HK.o) (by have:=HK.o.size;omega) _ dc.o).mono ?_;rintro e w8 ⟨rfl,aL⟩;have qs:=Zz (dc.o.below aL.below0);go_wp2
   go_ret3
   exact ⟨_,rfl,qs.o,HK.o.trans aL⟩
end
theorem zero9 (W:World):(zeroValue 9).run prog W=.ok (.string ⟨#[]⟩) W:=by
 obtain ⟨i0,hi,dB,dv,cX⟩:=info_parts x_4;simp[zeroValue,typeInfo,hi,dB]
theorem wf_nat (k:Nat) (h:k<1000000):(Lit.int .i64 k).wf=true:=by
 have e1:IntKind.i64.min=-9223372036854775808:=rfl;have e2:IntKind.i64.max=9223372036854775807:=rfl;simp[Lit.wf,e1,e2];omega
theorem lookS_nil (w:World):LookS w (.map none) (fun _=>none):=fun W _ k hk=>by
 have ht:prog.underlying 264=some (.map 3 9):=by kernel_rfl
 have au:prog.underlying 3=some (.int .i64):=by kernel_rfl
 have Xh:=wf_nat k (by omega);have:=Maps.look_nil (P:=prog) (w:=W) true (Maps.int_keyed au) ht (zero9 W) (Maps.keyOf_int_mk au Xh);exact ⟨_,this,fun y hy=>by cases hy⟩
section
variable {w:World} {b n i s t:Nat} {key:List UInt8} {σ:Nat->DkS} {F:Nat->Prop}
theorem overdead_any (hP:w_Z) (hL:Lay w) (h:Bk w b n σ F) (hw:10<=w.heap.size) (hi:i<n) (hs:sl s) (ht:t<s) (hd:(σ i).dead=true) (mv:Value) (m:Nat->Option ByteArray) (bo:LookS w mv m) (hm:m 1=none) (top:ByteArray) :
  Cl 151 #[.agg (slC b i s key),.string top,.int .i64 t,mv] w fun e w'=>e=.returned (.tuple #[.slice none 0 0,.string ⟨#[]⟩,.int .i64 20])/\Kp NoB w w':=by
 have HB:=Zz (Blk.new w 139 (slC b i s key));have HK:=Zz ((Kp.refl NoB w).alloc (.cells (slC b i s key) 139));have cM:=Zz (fun W hW bE=>hP W s t hs ht hW bE);have eS:=Zz h;have bj:=Zz hL;have Mo:=Zz bo;have bQ:=y_1 s t
 have iD:1<=dep s/\dep s<=2:=by rcases hs with rfl|rfl<;>decide
 have jQ:(z_p s t).getD 0 0=1:=by unfold z_p;split<;>rfl
 have dB:=zv_at (z_p s t) 0 (by omega);rw[jQ] at dB;have yb:=Zz dB;have HM:=Zz hm;have HD:=Zz hd;clear hP hs hL h bo jQ dB hm hd;generalize z_p s t=L at *;generalize dep s=p at *;change Cl 151 #[.agg #[.pointer (some ⟨b,0,none⟩),.int .i64 i,.int .i64 s,.string (bs key)],.string top,.int .i64 t,mv] w _;go_enter func151,ntmps151
 go_upto_region 1 with fail
 change Code.wp _ _ _ _ (w.alloc (.cells (slC b i s key) 139));generalize aN:w.alloc (.cells (slC b i s key) 139)=w1 at *;clear aN
 have fi:10<=w1.heap.size:=by have:=HK.o.size;omega
 obtain ⟨G,hG⟩:∃G,w.heap.size=G:=⟨_,rfl⟩;rw[hG] at HB ⊢;have c2:=HB.o.c2;go_wp2_with fail;refine (cM.o _ (bj.o.no HK.o) fi).mono ?_;rintro e w2 ⟨u,rfl,hu,ag⟩;have ak:=Zz (HB.o.kp ag fun h=>h);have al:=Zz (HK.o.trans ag);obtain ⟨A,c,rfl,aK,bf,aa⟩:=hu;rw[z_w,bQ] at aK aa ⊢;obtain ⟨pb,off,rfl,ae⟩:=aa (by omega);have k0:=(ae 0 (by omega)).trans yb.o;rw[Nat.add_zero] at k0;have c0:=ak.o.c0;have c1:=ak.o.c1;obtain ⟨x,dA,_⟩:=Mo.o w2 al.o 1 (by decide);rw[HM.o] at dA;have dA:(Instr.lookup 264 mv (.int .i64 1) true).run prog w2=.ok (.tuple #[.string x,.bool false]) w2:=dA;have lA:=Zz (x_L (eS.o.no al.o) i 101 hi (by decide));rw[HD.o] at lA;have lA:Hid (Cl 130 #[.pointer (some ⟨b,0,none⟩),.int .i64 i,.int .i64 101] w2 fun e w'=>e=.returned (.tuple #[.string ⟨#[]⟩,.int .i64 20])/\w'=w2):=lA
 have tm:0<p:=by omega
 clear ag c2 HB HK aa ae yb
 go_upto_region 4 with fail
 go_loopw [13,15,16,17,18,30] (fun s13 _ _ _ _ s30 wr=>s30=.int .i64 0/\w2=wr) (fun _ _ _ _ _ s30 _=>0)
 case atStart=>exact ⟨rfl,rfl⟩
 case round =>
  obtain ⟨rfl,rfl⟩:=hrel;go_wp2_with fail;refine lA.o.mono ?_;rintro e w4 ⟨rfl,rfl⟩;go_wp2
  go_ret3
  exact ⟨rfl,al.o⟩
end
theorem under3:prog.underlying 3=some (.int .i64):=by kernel_rfl
theorem kd3:Maps.Keyed prog 3:=Maps.int_keyed under3
noncomputable abbrev KI:KM prog 3 Nat:=KInt prog 3 under3
theorem mapIB:prog.underlying 35=some (.map 3 4):=by kernel_rfl
theorem zero4 (w:World):(zeroValue 4).run prog w=.ok (.bool false) w:=zeroValue4 w
def y_W (j:Nat):Nat->Option Value:=fun x=>if x<j then some (.bool true) else none
theorem seatF_put (j:Nat):y_Q (y_W j) j (.bool true)=y_W (j+1):=by
 funext x;unfold y_Q y_W;by_cases e:x=j
 ·subst e;rw[if_pos rfl,if_pos (by omega)]
 ·rw[if_neg e]
  by_cases h:x<j
  ·rw[if_pos h,if_pos (by omega)]
  ·rw[if_neg h,if_neg (by omega)]
theorem addK_range (j:Nat):z_J (List.range j) j=List.range (j+1):=by
 unfold z_J;rw[if_neg (by simp),List.range_succ]
theorem seatF_zero:y_W 0=fun _=>none:=by funext x;simp[y_W]
section
variable {w:World} {S:Sup} {vs vm:Value}
theorem y_P.seatAt {w':World} (h:y_P w S vs vm) (k:Kp NoB w w') {As:Option Addr} {cs:Nat} (hm:vs=.slice As (S.data+2) cs):∃rb off,As=some ⟨rb,off,none⟩/\∀i,i<S.data+2->w'.cell? ⟨rb,off+i,none⟩=some (.int .i64 i):=by
 obtain ⟨A,c,he,_,_,hc⟩:=(h.no k).1;subst hm
 have hl:(zv (y_H S)).length=S.data+2:=by rw[z_w,y_H,q_H]
 rw[hl] at he;cases he;obtain ⟨rb,off,rfl,ae⟩:=hc (by omega);refine ⟨rb,off,rfl,fun i hi=>?_⟩;rw[ae i (by omega),zv_at _ _ (by rw[y_H,q_H];exact hi)];simp[y_H,q_a,hi]
theorem sseats_any (hS:SupOk S) (h:y_P w S vs vm) :
  Cl 166 #[.agg (z_N S vs vm)] w fun e w'=>e=.returned (.bool true)/\Kp NoB w w':=by
 have HB:=Zz (Blk.new w 60 (z_N S vs vm));have HK:=Zz ((Kp.refl NoB w).alloc (.cells (z_N S vs vm) 60));obtain ⟨As,cs,Am,cm,cQ,cq⟩:=h.shape;have h3:=hS.n1;have h4:=hS.n12;obtain ⟨rb,off,mE,_⟩:=h.memAt (Kp.refl _ _) cq (by omega);subst mE;obtain ⟨sb,so,yd,_⟩:=h.seatAt (Kp.refl _ _) cQ;subst yd;have gB:=Zz (fun w' (k:Kp NoB w w')=>h.memAt k cq (by omega));have kF:=Zz (fun w' (k:Kp NoB w w')=>h.seatAt k cQ);have b6:=Zz hS.mem;subst cQ cq;clear h hS;obtain ⟨count,epoch,d,s,mem⟩:=S
 dsimp only at h3 h4 HB HK gB kF b6 ⊢
 obtain ⟨n,hn⟩:∃n,mem.length=n:=⟨_,rfl⟩;have HN:=Zz hn;have HB:Hid (Blk (w.alloc (.cells #[.int .u64 count,.int .u64 epoch,.int .i64 d,.int .i64 s,.int .i64 0,.int .i64 0,.bool false,.slice (some ⟨sb,so,none⟩) (d+2) cs,.slice (some ⟨rb,off,none⟩) mem.length cm] 60)) w.heap.size 60 #[.int .u64 count,.int .u64 epoch,.int .i64 d,.int .i64 s,.int .i64 0,.int .i64 0,.bool false,.slice (some ⟨sb,so,none⟩) (d+2) cs,.slice (some ⟨rb,off,none⟩) mem.length cm]):=HB;have HK:Hid (Kp NoB w (w.alloc (.cells #[.int .u64 count,.int .u64 epoch,.int .i64 d,.int .i64 s,.int .i64 0,.int .i64 0,.bool false,.slice (some ⟨sb,so,none⟩) (d+2) cs,.slice (some ⟨rb,off,none⟩) mem.length cm] 60))):=HK;change Cl 166 #[.agg #[.int .u64 count,.int .u64 epoch,.int .i64 d,.int .i64 s,.int .i64 0,.int .i64 0,.bool false,.slice (some ⟨sb,so,none⟩) (d+2) cs,.slice (some ⟨rb,off,none⟩) mem.length cm]] w _;rw[hn] at HB HK h3 h4 ⊢;clear hn
 have tn:IntKind.i64.wrap ((d:Int)+2)=((d+2:Nat):Int):=by rw[q_r];omega
 obtain ⟨m,hm⟩:∃m,d+2=m:=⟨_,rfl⟩;rw[hm] at tn HB HK h3 kF b6 ⊢;have HM:=Zz hm
 have Xj:n<100:=by omega
 clear hm;have lB:=@run_makeMap prog;have A5:=zero4;go_enter func166,ntmps166
 go_upto_region 1 with fail
 generalize aN:w.alloc (.cells #[.int .u64 count,.int .u64 epoch,.int .i64 d,.int .i64 s,.int .i64 0,.int .i64 0,.bool false,.slice (some ⟨sb,so,none⟩) m cs,.slice (some ⟨rb,off,none⟩) n cm] 60)=w1 at *;clear aN;generalize w.heap.size=G at *;have c2:=HB.o.c2;have c6:=HB.o.c6;have c7:=HB.o.c7
 go_upto_region 7 with fail
 have nx:Hid (MapA KI (w1.alloc (.map #[] 0)) w1.heap.size (y_W 0) (List.range 0)):=Zz (by rw[seatF_zero];exact MapA.made w1);have aW:=Zz ((Kp.refl NoB w1).alloc (.map #[] 0));clear c2 c6 c7;generalize fi:w1.alloc (.map #[] 0)=w2 at *;clear fi;have ak:=Zz (HB.o.kp aW.o fun h=>h);have c7:=ak.o.c7;obtain ⟨B,ye⟩:∃B,w1.heap.size=B:=⟨_,rfl⟩;rw[ye] at nx ⊢;have gR:=Zz ye;clear ye
 go_upto_region 8 with fail
 clear c7
 go_loopw [6,25] (fun _ s25 wr=>∃i:Nat,i<=m/\s25=.int .i64 i/\Hid (MapA KI wr B (y_W i) (List.range i))/\Hid (Kp NoB w1 wr)) (fun _ s25 _=>m-(intOf s25).toNat)
 case atStart=>exact ⟨0,by omega,rfl,nx,aW⟩
 case round =>
  clear nx aW ak;obtain ⟨i,hi,rfl,vu,bw⟩:=hrel;have dF:=Zz (HB.o.kp bw.o fun h=>h);have c8:=dF.o.c8;by_cases af:i<m
  ·have bV:(i:Int)<(m:Int):=by omega
   obtain ⟨Xk,Xl,fm,aa⟩:=kF.o wr (HK.o.trans bw.o);cases fm;have k0:=aa i af
   have bo:(Instr.lookup 35 (.map (some B)) (.int .i64 i) false).run prog wr=.ok (.bool false) wr:=by
    have:=(vu.o.look kd3 mapIB (zero4 wr) (a:=i) (show i<=100000 by omega)).1
    rwa [show (y_W i i).getD (.bool false)=.bool false by simp[y_W]] at this
   obtain ⟨w3,gS,pd,au⟩:=vu.o.put kd3 mapIB (by rw[q_H];simp only[maxLen];omega) (a:=i) (show i<=100000 by omega) (.bool true);replace gS:(Instr.mapUpdate 35 (.map (some B)) (.int .i64 i) (.bool true)).run prog wr=.ok () w3:=gS;rw[seatF_put,addK_range] at pd;have yf:=Zz pd;have ar:=Zz (bw.o.then au fun q hq e=>(by have:=gR.o;have e:q=B:=e;omega:False))
   have j1:¬((i:Int)<0):=by omega
   have j2:¬((n:Int)<=(i:Int)):=by omega
   have j3:decide ((i:Int)<0)=false:=q_v j1;have j4:decide (n<=i)=false:=q_v (by omega);clear aa pd au;go_wp2;go_roundw
   case rel=>exact ⟨i+1,by omega,by go_num,yf,ar⟩
   case measure=>simp[intOf];omega
  ·obtain rfl:i=m:=by omega
   go_upto_region 15 with fail
   clear c8 dF
   go_loopw [7,8,49] (fun _ _ s49 wr=>∃j:Nat,j<=n/\s49=.int .i64 j/\Hid (MapA KI wr B (y_W i) (List.range i))/\Hid (Kp NoB w1 wr)) (fun _ _ s49 _=>n-(intOf s49).toNat)
   case atStart=>exact ⟨0,by omega,rfl,vu,bw⟩
   case round =>
    clear vu bw;obtain ⟨j,hj,rfl,Br,vv⟩:=hrel;by_cases yg:j<n
    ·have DW:(j:Int)<(n:Int):=by omega
     have cF:j<mem.length:=by rw[HN.o];exact yg
     obtain ⟨rY,gz,fm,aa⟩:=gB.o wr (HK.o.trans vv.o);cases fm;obtain ⟨k0,k1,k2⟩:=aa j cF;obtain ⟨_,_,z3,z4⟩:=b6.o j cF;have z3:=Zz z3;have z4:=Zz z4;clear aa;generalize (mem[j]'cF).st=st at *;generalize (mem[j]'cF).top=tp at *;generalize (mem[j]'cF).log=lg at *;have b1:(true==false)=false:=rfl;have b2:(false==true)=false:=rfl;by_cases mw:j<i
     ·rcases z3.o mw with rfl|rfl
      ·have b3:((1:Int) != 2)=true:=by decide
       have b4:((1:Int)==0)=false:=by decide
       have cN:=Zz (Blk.new wr 108 #[.int .i64 1,.string tp,.string lg]);have bn:=Zz (vv.o.alloc (.cells #[.int .i64 1,.string tp,.string lg] 108));have jz:=Zz (Br.o.alloc (.cells #[.int .i64 1,.string tp,.string lg] 108))
       go_upto_region 17 with fail
       clear k0 k1 k2 vv Br;generalize wr.alloc (.cells #[.int .i64 1,.string tp,.string lg] 108)=w5 at *;generalize wr.heap.size=D at *;have c0:=cN.o.c0;have bo:=(jz.o.look kd3 mapIB (zero4 w5) (a:=j) (show j<=100000 by omega)).1;replace bo:(Instr.lookup 35 (.map (some B)) (.int .i64 j) false).run prog w5=.ok ((y_W i j).getD (.bool false)) w5:=bo;rw[show (y_W i j).getD (.bool false)=.bool true by simp[y_W,mw]] at bo;go_wp2;go_roundw
       case rel=>exact ⟨j+1,by omega,by go_num,jz,bn⟩
       case measure=>simp[intOf];omega
      ·have b3:((2:Int) != 2)=false:=by decide
       have b4:((2:Int)==0)=false:=by decide
       have cN:=Zz (Blk.new wr 108 #[.int .i64 2,.string tp,.string lg]);have bn:=Zz (vv.o.alloc (.cells #[.int .i64 2,.string tp,.string lg] 108));have jz:=Zz (Br.o.alloc (.cells #[.int .i64 2,.string tp,.string lg] 108))
       go_upto_region 17 with fail
       clear k0 k1 k2 vv Br;generalize wr.alloc (.cells #[.int .i64 2,.string tp,.string lg] 108)=w5 at *;generalize wr.heap.size=D at *;have c0:=cN.o.c0;have bo:=(jz.o.look kd3 mapIB (zero4 w5) (a:=j) (show j<=100000 by omega)).1;replace bo:(Instr.lookup 35 (.map (some B)) (.int .i64 j) false).run prog w5=.ok ((y_W i j).getD (.bool false)) w5:=bo;rw[show (y_W i j).getD (.bool false)=.bool true by simp[y_W,mw]] at bo;go_wp2;go_roundw
       case rel=>exact ⟨j+1,by omega,by go_num,jz,bn⟩
       case measure=>simp[intOf];omega
     ·obtain rfl:=z4.o (by omega)
      have b3:((0:Int) != 2)=true:=by decide
      have b4:((0:Int)==0)=true:=by decide
      have cN:=Zz (Blk.new wr 108 #[.int .i64 0,.string tp,.string lg]);have bn:=Zz (vv.o.alloc (.cells #[.int .i64 0,.string tp,.string lg] 108));have jz:=Zz (Br.o.alloc (.cells #[.int .i64 0,.string tp,.string lg] 108))
      go_upto_region 17 with fail
      clear k0 k1 k2 vv Br;generalize wr.alloc (.cells #[.int .i64 0,.string tp,.string lg] 108)=w5 at *;generalize wr.heap.size=D at *;have c0:=cN.o.c0;have bo:=(jz.o.look kd3 mapIB (zero4 w5) (a:=j) (show j<=100000 by omega)).1;replace bo:(Instr.lookup 35 (.map (some B)) (.int .i64 j) false).run prog w5=.ok ((y_W i j).getD (.bool false)) w5:=bo;rw[show (y_W i j).getD (.bool false)=.bool false by simp[y_W,mw]] at bo;go_wp2;go_roundw
      case rel=>exact ⟨j+1,by omega,by go_num,jz,bn⟩
      case measure=>simp[intOf];omega
    ·obtain rfl:j=n:=by omega
     go_wp2;go_ret;exact ⟨rfl,HK.o.trans vv.o⟩
theorem sgood_any (hS:SupOk S) (h:y_P w S vs vm) :
  Cl 108 #[.agg (z_N S vs vm)] w fun e w'=>e=.returned (.bool true)/\Kp NoB w w':=by
 have HB:=Zz (Blk.new w 60 (z_N S vs vm));have HK:=Zz ((Kp.refl NoB w).alloc (.cells (z_N S vs vm) 60));have H1:=Zz (fun W (k:Kp NoB w W)=>ssizes_any hS (h.no k));have H2:=Zz (fun W (k:Kp NoB w W)=>smembers_any hS (h.no k));have H3:=Zz (fun W (k:Kp NoB w W)=>sseats_any hS (h.no k));obtain ⟨As,cs,Am,cm,cQ,cq⟩:=h.shape;subst cQ cq;clear h hS;obtain ⟨count,epoch,d,s,mem⟩:=S
 dsimp only at HB HK H1 H2 H3 ⊢
 generalize mem.length=n at *;generalize et:z_N ⟨count,epoch,d,s,mem⟩ (.slice As (d+2) cs) (.slice Am n cm)=CS at *;have qw:CS=#[.int .u64 count,.int .u64 epoch,.int .i64 d,.int .i64 s,.int .i64 0,.int .i64 0,.bool false,.slice As (d+2) cs,.slice Am n cm]:=et.symm;clear et;subst qw;go_enter func108,ntmps108
 go_upto_region 1 with fail
 generalize aN:w.alloc (.cells #[.int .u64 count,.int .u64 epoch,.int .i64 d,.int .i64 s,.int .i64 0,.int .i64 0,.bool false,.slice As (d+2) cs,.slice Am n cm] 60)=w1 at *;clear aN;generalize w.heap.size=G at *;have ae:∀W,Hid (Blk W G 60 #[.int .u64 count,.int .u64 epoch,.int .i64 d,.int .i64 s,.int .i64 0,.int .i64 0,.bool false,.slice As (d+2) cs,.slice Am n cm])->W.cell? ⟨G,0,none⟩=some (.int .u64 count)/\W.cell? ⟨G,1,none⟩=some (.int .u64 epoch)/\W.cell? ⟨G,2,none⟩=some (.int .i64 d)/\W.cell? ⟨G,3,none⟩=some (.int .i64 s)/\W.cell? ⟨G,4,none⟩=some (.int .i64 0)/\W.cell? ⟨G,5,none⟩=some (.int .i64 0)/\W.cell? ⟨G,6,none⟩=some (.bool false)/\W.cell? ⟨G,7,none⟩=some (.slice As (d+2) cs)/\W.cell? ⟨G,8,none⟩=some (.slice Am n cm):=fun W h=>⟨h.o.cell 0,h.o.cell 1,h.o.cell 2,h.o.cell 3,h.o.cell 4,h.o.cell 5,h.o.cell 6,h.o.cell 7,h.o.cell 8⟩;have bA:=Zz ae;obtain ⟨c0,c1,c2,c3,c4,c5,c6,c7,c8⟩:=ae w1 HB;clear ae;go_wp2_with fail;refine (H1.o _ HK.o).mono ?_;rintro e w2 ⟨rfl,ag⟩;have ak:=Zz (HB.o.kp ag fun h=>h);have al:=Zz (HK.o.trans ag);clear ag c0 c1 c2 c3 c4 c5 c6 c7 c8 HB HK;obtain ⟨c0,c1,c2,c3,c4,c5,c6,c7,c8⟩:=bA.o w2 ak;go_wp2_with fail;refine (H2.o _ al.o).mono ?_;rintro e w3 ⟨rfl,au⟩;have aJ:=Zz (ak.o.kp au fun h=>h);have ar:=Zz (al.o.trans au);clear au c0 c1 c2 c3 c4 c5 c6 c7 c8 ak al;obtain ⟨c0,c1,c2,c3,c4,c5,c6,c7,c8⟩:=bA.o w3 aJ;go_wp2_with fail;refine (H3.o _ ar.o).mono ?_;rintro e w4 ⟨rfl,aw⟩;go_wp2;go_ret;exact ⟨rfl,ar.o.trans aw⟩
end
end Go.Proofs.YtdkheklakfbeeaaGreatDoor
