/- Part 7 of the proof. -/
import Derived.ChangeKeysEq
import Derived.Test.YtdkheklakfbeeaaGreatDoorM06
set_option linter.all false
set_option maxRecDepth 100000
set_option maxHeartbeats 16000000
namespace Go.Proofs.YtdkheklakfbeeaaGreatDoor
open Go.RowKit Tryz
section
open GfM
theorem encode_any (w:World) (v:Value) (T:List ByteArray) (hv:z_g w v (sv T)) :
  Cl 104 #[v] w fun e w'=>e=.returned (.tuple #[.string (bs (enP T)),.string (bs (enQ T)),.int .i64 (enE T)])/\Below w.heap.size w w':=by
 have pT:=hv;obtain ⟨A,c,rfl,aK,bf,aa⟩:=hv.texts;clear hv;by_cases hn:T.length<1\/8<T.length
 ·have e1:enE T=2:=by unfold enE;rw[if_pos hn]
  have e2:enP T=[]:=by unfold enP;rw[if_neg (by rw[e1];decide)]
  have e3:enQ T=[]:=by unfold enQ;rw[if_neg (by rw[e1];decide)]
  rw[e1,e2,e3]
  have hd:decide (1<=(T.length:Int)/\(T.length:Int)<=8)=false:=by simp;omega
  clear e1 e2 e3 aa pT hn;generalize T.length=n at *;go_enter func104,ntmps104;go_wp2_with fail;refine (w_c _ _).mono ?_;rw[hd];rintro e w' ⟨rfl,rfl⟩;go_wp2
  go_ret3
  exact ⟨rfl,Below.refl _ _⟩
 ·have hd:decide (1<=(T.length:Int)/\(T.length:Int)<=8)=true:=by simp;omega
  by_cases hs:shE T=0
  ·have e1:enE T=0:=by unfold enE;rw[if_neg hn];exact hs
   obtain ⟨_,_,aj,cY⟩:=enE_ok e1
   have e2:enP T=pp T (nn T) T.length:=by unfold enP;rw[if_pos e1]
   have e3:enQ T=qq T (nn T) T.length:=by unfold enQ;rw[if_pos e1]
   obtain ⟨b,off,rfl,hc⟩:=aa (by omega);have gy:=hc 0 (by omega);rw[Nat.add_zero] at gy;have cE:b<w.heap.size:=q_c w _ gy;have gv:(tl T 0).size=nn T:=rfl;have gV:=mk_bytes (tl T 0).size (by omega);have hr:=(z_T.made_zero w (tl T 0).size (by omega)).reads;rw[q_w] at hr;have eq:=y_b (P:=prog) (src:=105) (dst:=9) underlying105 underlying5 underlying9 hr;have QN:bs (List.replicate (tl T 0).size 0)=bs (pp T (nn T) 0):=rfl;have QO:bs (List.replicate (tl T 0).size 0)=bs (qq T (nn T) 0):=rfl
   have dw:∀i,i<T.length->(∀W,Cl 160 #[.string (bs (pp T (nn T) i)),.string (tl T i)] W fun e w'=>e=.returned (.string (bs (pp T (nn T) (i+1))))/\Below W.heap.size W w') /\
     (∀W,Cl 162 #[.int .u8 2,.int .i64 i] W fun e w'=>e=.returned (.int .u8 ((wt i).toNat:Int))/\W=w') /\
     (∀W,Cl 161 #[.int .u8 ((wt i).toNat:Int),.string (tl T i)] W fun e w'=>e=.returned (.string (bs ((tb T i).map (mul (wt i)))))/\Below W.heap.size W w') /\
     (∀W,Cl 160 #[.string (bs (qq T (nn T) i)),.string (bs ((tb T i).map (mul (wt i))))] W fun e w'=>e=.returned (.string (bs (qq T (nn T) (i+1))))/\Below W.heap.size W w'):=by
    intro i hi;have h1:=aj i hi
    refine ⟨fun W=>xor_ba _ _ _ _ (z_Y _).symm rfl (by rw[h1];omega) W,fun W=>pow_any 2 i 2 rfl W,fun W=>scale_ba _ (wt i) rfl _ _ rfl (by rw[h1];omega) W,
     fun W=>xor_ba _ _ _ _ (z_Y _).symm (z_Y _).symm (by rw[z_b,z_b,q_i,x_r,h1];omega) W⟩
   have nl:=Zz dw;clear dw;have HC:=Zz hc;clear hc;have pU:=Zz QN;clear QN;have xJ:=Zz QO;clear QO;have da:=shape_any w _ T pT;rw[hs] at da;have iC:=Zz da;clear da hs pT aj hr;rw[e1,e2,e3];clear e1 e2 e3 aa gv;generalize tl T 0=s0 at *;generalize bs (List.replicate s0.size 0)=z0 at *;generalize QP:T.length=n at *;have uV:=Zz QP;clear QP;go_enter func104,ntmps104;go_wp2_with fail;refine (w_c _ _).mono ?_;rw[hd];rintro e w' ⟨rfl,rfl⟩;go_wp2_with fail;refine (iC.o).mono ?_;rintro e w' ⟨rfl,rfl⟩;go_wp2;clear gV eq
   go_loopw [2,3,5,6,25] (fun s2 s3 _ _ s25 wr=>∃i:Nat,i<=n/\s25=.int .i64 i/\s2=.string (bs (pp T (nn T) i))/\s3=.string (bs (qq T (nn T) i))/\Below w.heap.size w wr) (fun _ _ _ _ s25 _=>n-(intOf s25).toNat)
   case atStart=>exact ⟨0,by omega,rfl,by rw[pU.o],by rw[xJ.o],(Below.refl _ _).alloc (q_e _) _⟩
   case round =>
    obtain ⟨i,hi,rfl,rfl,rfl,hB⟩:=hrel;by_cases af:i<n
    ·obtain ⟨h1,h2,h3,h4⟩:=nl.o i af
     have nW:=(hB.cell cE).trans (HC.o i af);generalize Di:bs (pp T (nn T) (i+1))=P1 at *;generalize QQ:bs (qq T (nn T) (i+1))=Q1 at *;have oU:=Zz Di;clear Di;have Dj:=Zz QQ;clear QQ;generalize bs (pp T (nn T) i)=P at *;generalize bs (qq T (nn T) i)=Q at *;generalize bs ((tb T i).map (mul (wt i)))=M at *;generalize wt i=a at *;generalize tl T i=s at *;have H1:=Zz h1;clear h1;have H2:=Zz h2;clear h2;have H3:=Zz h3;clear h3;have H4:=Zz h4;clear h4;go_wp2_with fail;refine (H1.o _).mono ?_;rintro e w1 ⟨rfl,ay⟩;go_wp2_with fail;refine (H2.o _).mono ?_;rintro e w' ⟨rfl,rfl⟩;go_wp2_with fail;refine (H3.o _).mono ?_;rintro e w2 ⟨rfl,am⟩;go_wp2_with fail;refine (H4.o _).mono ?_;rintro e w3 ⟨rfl,bW⟩;go_wp2;go_roundw
     case rel=>exact ⟨i+1,by omega,by go_num,by rw[oU.o],by rw[Dj.o],z_G (z_G (z_G hB hB.size ay) (q_g hB.size ay.size) am) (q_g (q_g hB.size ay.size) am.size) bW⟩
     case measure=>simp[intOf];omega
    ·obtain rfl:i=n:=by omega
     generalize hP:bs (pp T (nn T) i)=P at *;generalize hQ:bs (qq T (nn T) i)=Q at *;have HP:=Zz hP;clear hP;have HQ:=Zz hQ;clear hQ;go_wp2
     go_ret3
     exact ⟨by rw[HP.o,HQ.o];rfl,hB⟩
  ·have e1:enE T=shE T:=by unfold enE;rw[if_neg hn]
   have e2:enP T=[]:=by unfold enP;rw[if_neg (by rw[e1];exact hs)]
   have e3:enQ T=[]:=by unfold enQ;rw[if_neg (by rw[e1];exact hs)]
   rw[e1,e2,e3];have da:=shape_any w _ T pT
   have hb:(shE T != 0)=true:=by rw[bne_iff_ne];exact hs
   have iC:=Zz da;clear da hs pT e1 e2 e3 aa;generalize shE T=x at *;generalize T.length=n at *;go_enter func104,ntmps104;go_wp2_with fail;refine (w_c _ _).mono ?_;rw[hd];rintro e w' ⟨rfl,rfl⟩;go_wp2_with fail;refine (iC.o).mono ?_;rintro e w' ⟨rfl,rfl⟩;go_wp2
   go_ret3
   exact ⟨rfl,Below.refl _ _⟩
end
section
open GfM
def Sep (a b:Value):Prop:=∀k,a.ownBlock=some k->b.ownBlock≠some k
theorem Sep.symm {a b:Value} (h:Sep a b):Sep b a:=fun k hb ha=>h k ha hb
theorem Sep.ne {a b:Value} (h:Sep a b):a.ownBlock=none\/a.ownBlock≠b.ownBlock:=by
 cases ha:a.ownBlock with
 | none=>exact .inl rfl
 | some k=>exact .inr fun e=>h k ha e.symm
theorem Sep.nil_ (b:Value):Sep (.slice none 0 0) b:=fun k h=>by cases h
theorem Sep.grow {W:World} {base:Nat} {e:TypeId} {a a1 b:Value} {xs:List Value} (h:Sep a b) (hb:Own W base e b xs) (br:a1.ownBlock=a.ownBlock\/∃g,a1.ownBlock=some g/\W.heap.size<=g):Sep a1 b:=by
 intro k h1 h2;rcases br with br|⟨g,br,hg⟩
 ·exact h k (by rw[<-br];exact h1) h2
 ·rw[br] at h1
  injection h1 with h1
  have:=(hb.lt k h2).2;omega
end
section
open GfM
theorem z_g.take {w:World} {A:Option Addr} {n c:Nat} {xs:List Value} (h:z_g w (.slice A n c) xs) (k:Nat) (hk:k<=xs.length):z_g w (.slice A k c) (xs.take k):=by
 obtain ⟨A',c',he,h1,h2,h3⟩:=h;injection he with e1 e2 e3;subst e1 e3
 have hl:(xs.take k).length=k:=by rw[q_l];omega
 refine ⟨A,c,by rw[hl],by omega,h2,fun hp=>?_⟩;obtain ⟨b,off,rfl,hc⟩:=h3 (by omega);refine ⟨b,off,rfl,fun j hj=>?_⟩;rw[hc j (by omega),List.getElem?_take,if_pos (by omega)]
theorem ba_inj {a b:ByteArray}:a.toList=b.toList↔a=b:=by
 rw[ByteArray.toList_eq,ByteArray.toList_eq];refine ⟨fun h=>?_,fun h=>by rw[h]⟩;rw[<-x_D a,<-x_D b,h]
theorem ba_no {a b:ByteArray} (h:¬a=b):(a.toList==b.toList)=false/\¬a.toList=b.toList:=by
 have:¬a.toList=b.toList:=fun e=>h (ba_inj.1 e);exact ⟨by rw[q_o];exact this,this⟩
end
section
open GfM
def cut1 (T:List ByteArray) (n i:Nat):ByteArray:=if (tl T i).size<=n then tl T i else (tl T i).extract 0 n
def cutAt (T:List ByteArray) (n:Nat) (even:Bool) (prev:List ByteArray) (i:Nat):ByteArray :=
 if even=true/\0<i then (cut1 T n i++bs (List.replicate n 0)).extract 0 (tl prev 0).size else cut1 T n i
def cuts (T:List ByteArray) (n:Nat) (even:Bool):Nat->List ByteArray
 | 0=>[]
 | i+1=>cuts T n even i++[cutAt T n even (cuts T n even i) i]
theorem info9:(prog.info? 9).map (fun i=>(i.zero,i.size,i.bytes))=some (some (.string ⟨#[]⟩),1,16):=by kernel_rfl
end
end Go.Proofs.YtdkheklakfbeeaaGreatDoor
section
open Go.Proofs.Tryz
namespace Go.Proofs.YtdkheklakfbeeaaGreatDoor.GfM
def sx:Nat->(Nat->UInt8)->UInt8
 | 0,_=>0
 | n+1,f=>sx n f ^^^ f n
theorem z_I (n:Nat) {f g:Nat->UInt8} (h:∀k,k<n->f k=g k):sx n f=sx n g:=by
 induction n with
 | zero=>rfl
 | succ n ih =>
  show sx n f ^^^ f n=sx n g ^^^ g n;rw[ih (fun k hk=>h k (by omega)),h n (by omega)]
theorem xor_zero (a:UInt8):a ^^^ 0=a:=UInt8.xor_zero
theorem zero_xor (a:UInt8):0 ^^^ a=a:=by rw[UInt8.xor_comm];exact UInt8.xor_zero
theorem xor_four8 (a b c d:UInt8):(a ^^^ b) ^^^ (c ^^^ d)=(a ^^^ c) ^^^ (b ^^^ d):=by
 rw[UInt8.xor_assoc,UInt8.xor_assoc,<-UInt8.xor_assoc b c d,UInt8.xor_comm b c,UInt8.xor_assoc c b d]
theorem sx_zero (n:Nat):sx n (fun _=>0)=0:=by
 induction n with
 | zero=>rfl
 | succ n ih=>show sx n _ ^^^ 0=0;rw[ih];rfl
theorem sx_all_zero (n:Nat) {f:Nat->UInt8} (h:∀k,k<n->f k=0):sx n f=0:=(z_I n h).trans (sx_zero n)
theorem sx_add (n:Nat) (f g:Nat->UInt8):sx n (fun k=>f k ^^^ g k)=sx n f ^^^ sx n g:=by
 induction n with
 | zero=>show (0:UInt8)=0 ^^^ 0;decide
 | succ n ih=>show sx n _ ^^^ (f n ^^^ g n)=(sx n f ^^^ f n) ^^^ (sx n g ^^^ g n);rw[ih,xor_four8]
theorem sx_mul (n:Nat) (a:UInt8) (f:Nat->UInt8):mul a (sx n f)=sx n (fun k=>mul a (f k)):=by
 induction n with
 | zero=>exact z_3 a
 | succ n ih=>show mul a (sx n f ^^^ f n)=sx n _ ^^^ mul a (f n);rw[mul_add,ih]
theorem sx_mul_right (n:Nat) (a:UInt8) (f:Nat->UInt8):mul (sx n f) a=sx n (fun k=>mul (f k) a):=by
 rw[mul_comm,sx_mul];exact z_I n fun k _=>mul_comm _ _
theorem sx_swap (n m:Nat) (f:Nat->Nat->UInt8):sx n (fun i=>sx m (fun j=>f i j))=sx m (fun j=>sx n (fun i=>f i j)):=by
 induction n with
 | zero=>exact (sx_zero m).symm
 | succ n ih=>show sx n _ ^^^ sx m (fun j=>f n j)=sx m (fun j=>sx n (fun i=>f i j) ^^^ f n j);rw[ih,sx_add]
theorem v_G (n k:Nat) (f:Nat->UInt8) (hk:k<n) (h:∀j,j<n->j≠k->f j=0):sx n f=f k:=by
 induction n with
 | zero=>omega
 | succ n ih =>
  show sx n f ^^^ f n=f k;by_cases e:k=n
  ·subst e
   rw[sx_all_zero k (fun j hj=>h j (by omega) (by omega)),zero_xor]
  ·rw[ih (by omega) (fun j hj aA=>h j (by omega) aA),h n (by omega) (fun h=>e h.symm),xor_zero]
def dl (r c:Nat):UInt8:=if r=c then 1 else 0
theorem x_X (n r:Nat) (f:Nat->UInt8) (h:r<n):sx n (fun k=>mul (dl r k) (f k))=f r:=by
 rw[v_G n r _ h (fun j _ hj=>by unfold dl;rw[if_neg (fun e=>hj e.symm),zero_mul])];unfold dl;rw[if_pos rfl,one_mul]
theorem sx_dl_right (n c:Nat) (f:Nat->UInt8) (h:c<n):sx n (fun k=>mul (f k) (dl k c))=f c:=by
 rw[v_G n c _ h (fun j _ hj=>by unfold dl;rw[if_neg hj,z_3])];unfold dl;rw[if_pos rfl,mul_one]
abbrev Mat:=Nat->Nat->UInt8
def mm (k:Nat) (A B:Mat):Mat:=fun r c=>sx k (fun j=>mul (A r j) (B j c))
theorem mm_assoc (k l:Nat) (A B C:Mat) (r c:Nat):mm l (mm k A B) C r c=mm k A (mm l B C) r c:=by
 unfold mm;rw[z_I l (g:=fun j=>sx k (fun i=>mul (mul (A r i) (B i j)) (C j c))) (fun j _=>sx_mul_right k _ _),sx_swap];refine z_I k fun i _=>?_;rw[sx_mul];exact z_I l fun j _=>x_s _ _ _
theorem mm_congr (k:Nat) {A A' B B':Mat} {r c:Nat} (hA:∀j,j<k->A r j=A' r j) (hB:∀j,j<k->B j c=B' j c):mm k A B r c=mm k A' B' r c :=
 z_I k fun j hj=>by rw[hA j hj,hB j hj]
def IsInv (n:Nat) (A X:Mat):Prop:=(∀r c,r<n->c<n->mm n A X r c=dl r c)/\(∀r c,r<n->c<n->mm n X A r c=dl r c)
def Sing (n:Nat) (A:Mat):Prop:=∃v:Nat->UInt8,(∃k,k<n/\v k≠0)/\∀r,r<n->sx n (fun k=>mul (A r k) (v k))=0
def en (m:List (List UInt8)) (r c:Nat):UInt8:=(m.getD r []).getD c 0
def Shp (m:List (List UInt8)) (n k:Nat):Prop:=m.length=n/\∀r,r<n->(m.getD r []).length=k
theorem Shp.row {m:List (List UInt8)} {n k r:Nat} (h:Shp m n k) (hr:r<n):(m.getD r []).length=k:=h.2 r hr
theorem w_I (m:List (List UInt8)) (r:Nat) (x:List UInt8) (i:Nat) (hr:r<m.length):(m.set r x).getD i []=if i=r then x else m.getD i []:=by
 rw[q_a,q_a,q_C];by_cases e:r=i
 ·subst e;rw[if_pos rfl,if_pos rfl,if_pos hr];rfl
 ·rw[if_neg e,if_neg (fun h=>e h.symm)]
theorem Shp.set {m:List (List UInt8)} {n k r:Nat} (h:Shp m n k) (hr:r<n) {x:List UInt8} (hx:x.length=k):Shp (m.set r x) n k:=by
 refine ⟨by rw[q_k];exact h.1,fun i hi=>?_⟩;rw[w_I m r x i (by rw[h.1];exact hr)];split
 ·exact hx
 ·exact h.2 i hi
theorem en_set (m:List (List UInt8)) (r:Nat) (x:List UInt8) (i j:Nat) (hr:r<m.length):en (m.set r x) i j=if i=r then x.getD j 0 else en m i j:=by
 unfold en;rw[w_I m r x i hr];split<;>rfl
def w_Y (m:List (List UInt8)) (a b:Nat):List (List UInt8):=(m.set a (m.getD b [])).set b (m.getD a [])
def w_D (m:List (List UInt8)) (c:Nat) (i:UInt8):List (List UInt8):=m.set c ((m.getD c []).map (mul i))
def x_5 (x y:List UInt8) (f:UInt8):List UInt8:=List.zipWith (fun p q=>p ^^^ mul f q) x y
def addM (m:List (List UInt8)) (r c:Nat) (f:UInt8):List (List UInt8):=m.set r (x_5 (m.getD r []) (m.getD c []) f)
theorem addRow_length (x y:List UInt8) (f:UInt8) (h:x.length=y.length):(x_5 x y f).length=x.length:=by
 unfold x_5;simp;omega
theorem addRow_at (x y:List UInt8) (f:UInt8) (j:Nat) (h:x.length=y.length):(x_5 x y f).getD j 0=x.getD j 0 ^^^ mul f (y.getD j 0):=by
 unfold x_5;simp only[q_a,List.getElem?_zipWith];rcases Nat.lt_or_ge j x.length with hj|hj
 ·rw[q_d hj,q_d (show j<y.length by omega)];rfl
 ·rw[q_q hj,q_q (show y.length<=j by omega)]
  show (0:UInt8)=0 ^^^ mul f 0;rw[z_3];decide
section
variable {m:List (List UInt8)} {n k:Nat}
theorem swap_shp (h:Shp m n k) {a b:Nat} (ha:a<n) (hb:b<n):Shp (w_Y m a b) n k:=(h.set ha (h.2 b hb)).set hb (h.2 a ha)
theorem scale_shp (h:Shp m n k) {c:Nat} (hc:c<n) (i:UInt8):Shp (w_D m c i) n k:=h.set hc (by rw[q_i];exact h.2 c hc)
theorem add_shp (h:Shp m n k) {r c:Nat} (hr:r<n) (hc:c<n) (f:UInt8):Shp (addM m r c f) n k:=h.set hr (by rw[addRow_length _ _ _ ((h.2 r hr).trans (h.2 c hc).symm)];exact h.2 r hr)
theorem en_swap (h:Shp m n k) {a b:Nat} (ha:a<n) (hb:b<n) (i j:Nat):en (w_Y m a b) i j=if i=b then en m a j else if i=a then en m b j else en m i j:=by
 unfold w_Y;rw[en_set _ _ _ _ _ (by rw[q_k,h.1];exact hb),en_set _ _ _ _ _ (by rw[h.1];exact ha)];rfl
theorem en_scale (h:Shp m n k) {c:Nat} (hc:c<n) (f:UInt8) (i j:Nat):en (w_D m c f) i j=if i=c then mul f (en m c j) else en m i j:=by
 unfold w_D;rw[en_set _ _ _ _ _ (by rw[h.1];exact hc)];by_cases e:i=c
 ·rw[if_pos e,if_pos e]
  unfold en;simp only[q_a,q_j]
  cases (m[c]?.getD [])[j]? with
  | none=>show (0:UInt8)=mul f 0;rw[z_3]
  | some x=>rfl
 ·rw[if_neg e,if_neg e]
theorem en_add (h:Shp m n k) {r c:Nat} (hr:r<n) (hc:c<n) (f:UInt8) (i j:Nat):en (addM m r c f) i j=if i=r then en m r j ^^^ mul f (en m c j) else en m i j:=by
 unfold addM;rw[en_set _ _ _ _ _ (by rw[h.1];exact hr),addRow_at _ _ _ _ ((h.2 r hr).trans (h.2 c hc).symm)];rfl
end
inductive Steps (n:Nat):List (List UInt8)->List (List UInt8)->Prop
 | refl (m):Steps n m m
 | swap {m m' a b}:Steps n m m'->a<n->b<n->Steps n m (w_Y m' a b)
 | scale {m m' c f}:Steps n m m'->c<n->f≠0->Steps n m (w_D m' c f)
 | add {m m' r c f}:Steps n m m'->r<n->c<n->r≠c->Steps n m (addM m' r c f)
theorem Steps.shp {n k:Nat} {m m':List (List UInt8)} (h:Steps n m m') (hm:Shp m n k):Shp m' n k:=by
 induction h with
 | refl=>exact hm
 | swap _ ha hb ih=>exact swap_shp ih ha hb
 | scale _ hc _ ih=>exact scale_shp ih hc _
 | add _ hr hc _ ih=>exact add_shp ih hr hc _
def y_2 (n r:Nat):List UInt8:=(List.replicate n 0).set r 1
def aug (A:List (List UInt8)) (n:Nat):List (List UInt8):=(List.range n).map fun r=>A.getD r []++y_2 n r
theorem v_1 (n r:Nat):(y_2 n r).length=n:=by simp[y_2]
theorem unitRow_at (n r j:Nat) (hr:r<n) (hj:j<n):(y_2 n r).getD j 0=dl r j:=by
 unfold y_2 dl;rw[q_a,q_C];by_cases e:r=j
 ·subst e;rw[if_pos rfl,if_pos (by simpa using hr),if_pos rfl];rfl
 ·rw[if_neg e,if_neg e,List.getElem?_replicate,if_pos hj];rfl
theorem aug_row (A:List (List UInt8)) (n r:Nat) (hr:r<n):(aug A n).getD r []=A.getD r []++y_2 n r:=by
 unfold aug;rw[q_a,q_j,q_n hr];rfl
theorem w_p {A:List (List UInt8)} {n:Nat} (h:Shp A n n):Shp (aug A n) n (2*n):=by
 refine ⟨by simp[aug],fun r hr=>?_⟩;rw[aug_row A n r hr,q_b,v_1,h.2 r hr];omega
theorem aug_left {A:List (List UInt8)} {n:Nat} (h:Shp A n n) (r j:Nat) (hr:r<n) (hj:j<n):en (aug A n) r j=en A r j:=by
 unfold en;rw[aug_row A n r hr,q_a,q_F (by rw[h.2 r hr];exact hj),<-q_a]
theorem aug_right {A:List (List UInt8)} {n:Nat} (h:Shp A n n) (r j:Nat) (hr:r<n) (hj:j<n):en (aug A n) r (n+j)=dl r j:=by
 unfold en;rw[aug_row A n r hr,q_a,q_u (by rw[h.2 r hr];omega),h.2 r hr,show n+j-n=j by omega,<-q_a];exact unitRow_at n r j hr hj
def y_d (n:Nat) (m:List (List UInt8)):Mat:=fun r c=>en m r (n+c)
def rc (n:Nat) (x:Nat->UInt8) (A:Mat) (j:Nat):UInt8:=sx n (fun k=>mul (x k) (A k j))
theorem rc_scale (n:Nat) (f:UInt8) (x:Nat->UInt8) (A:Mat) (j:Nat):rc n (fun k=>mul f (x k)) A j=mul f (rc n x A j):=by
 unfold rc;rw[sx_mul];exact z_I n fun k _=>x_s _ _ _
theorem rc_add (n:Nat) (x y:Nat->UInt8) (A:Mat) (j:Nat):rc n (fun k=>x k ^^^ y k) A j=rc n x A j ^^^ rc n y A j:=by
 unfold rc;rw[<-sx_add];exact z_I n fun k _=>add_mul _ _ _
section
variable {m:List (List UInt8)} {n k:Nat}
theorem v_K (h:Shp m n k) {a b:Nat} (ha:a<n) (hb:b<n) (r:Nat):y_d n (w_Y m a b) r=if r=b then y_d n m a else if r=a then y_d n m b else y_d n m r:=by
 funext j;unfold y_d;rw[en_swap h ha hb];split
 ·rfl
 ·split<;>rfl
theorem half_scale (h:Shp m n k) {c:Nat} (hc:c<n) (f:UInt8) (r:Nat):y_d n (w_D m c f) r=if r=c then (fun j=>mul f (y_d n m c j)) else y_d n m r:=by
 funext j;unfold y_d;rw[en_scale h hc];split<;>rfl
theorem half_add (h:Shp m n k) {r c:Nat} (hr:r<n) (hc:c<n) (f:UInt8) (i:Nat):y_d n (addM m r c f) i=if i=r then (fun j=>y_d n m r j ^^^ mul f (y_d n m c j)) else y_d n m i:=by
 funext j;unfold y_d;rw[en_add h hr hc];split<;>rfl
end
section
variable {A m:List (List UInt8)} {n:Nat}
theorem Steps.comb (h:Steps n (aug A n) m) (hA:Shp A n n):∀r j,r<n->j<n->en m r j=rc n (y_d n m r) (en A) j:=by
 induction h with
 | refl =>
  intro r j hr hj;rw[aug_left hA r j hr hj];unfold rc;rw[z_I n (g:=fun k=>mul (dl r k) (en A k j)) (fun k hk=>by show mul (en (aug A n) r (n+k)) _=_;rw[aug_right hA r k hr hk])]
  exact (x_X n r (fun k=>en A k j) hr).symm
 | swap h1 ha hb ih =>
  intro r j hr hj;have hs:=h1.shp (w_p hA);rw[en_swap hs ha hb,v_K hs ha hb];split
  ·exact ih _ j ha hj
  ·split
   ·exact ih _ j hb hj
   ·exact ih r j hr hj
 | @scale m' c f h1 hc hf ih =>
  intro r j hr hj;have hs:=h1.shp (w_p hA);rw[en_scale hs hc,half_scale hs hc];split
  ·rw[rc_scale,ih c j hc hj]
  ·exact ih r j hr hj
 | @add m' r' c f h1 g7 hc aA ih =>
  intro r j hr hj;have hs:=h1.shp (w_p hA);rw[en_add hs g7 hc,half_add hs g7 hc];split
  ·rw[rc_add,rc_scale,ih r' j g7 hj,ih c j hc hj]
  ·exact ih r j hr hj
def rv (n:Nat) (x v:Nat->UInt8):UInt8:=sx n (fun k=>mul (x k) (v k))
theorem rv_scale (n:Nat) (f:UInt8) (x v:Nat->UInt8):rv n (fun k=>mul f (x k)) v=mul f (rv n x v):=by
 unfold rv;rw[sx_mul];exact z_I n fun k _=>x_s _ _ _
theorem rv_add (n:Nat) (x y v:Nat->UInt8):rv n (fun k=>x k ^^^ y k) v=rv n x v ^^^ rv n y v:=by
 unfold rv;rw[<-sx_add];exact z_I n fun k _=>add_mul _ _ _
theorem Steps.inj (h:Steps n (aug A n) m) (hA:Shp A n n) (v:Nat->UInt8):(∀r,r<n->rv n (y_d n m r) v=0)->∀k,k<n->v k=0:=by
 induction h with
 | refl =>
  intro hv k hk;have:=hv k hk;unfold rv at this;rw[z_I n (g:=fun j=>mul (dl k j) (v j)) (fun j hj=>by show mul (en (aug A n) k (n+j)) _=_;rw[aug_right hA k j hk hj])] at this
  rwa [x_X n k v hk] at this
 | @swap m' a b h1 ha hb ih =>
  intro hv;have hs:=h1.shp (w_p hA);refine ih fun r hr=>?_;by_cases e1:r=b
  ·have:=hv a ha
   rw[v_K hs ha hb] at this;by_cases e2:a=b
   ·rw[if_pos e2] at this;rw[e1,<-e2];exact this
   ·rw[if_neg e2,if_pos rfl] at this;rw[e1];exact this
  ·by_cases e2:r=a
   ·have:=hv b hb
    rw[v_K hs ha hb,if_pos rfl] at this;rw[e2];exact this
   ·have:=hv r hr
    rw[v_K hs ha hb,if_neg e1,if_neg e2] at this
    exact this
 | @scale m' c f h1 hc hf ih =>
  intro hv;have hs:=h1.shp (w_p hA);refine ih fun r hr=>?_;have:=hv r hr;rw[half_scale hs hc] at this;by_cases e1:r=c
  ·rw[if_pos e1,rv_scale] at this
   rcases (v_X _ _).1 this with h|h
   ·exact absurd h hf
   ·rw[e1];exact h
  ·rw[if_neg e1] at this;exact this
 | @add m' r' c f h1 g7 hc aA ih =>
  intro hv;have hs:=h1.shp (w_p hA);have Ld:=hv c hc;rw[half_add hs g7 hc,if_neg (fun h=>aA h.symm)] at Ld;refine ih fun r hr=>?_;have:=hv r hr;rw[half_add hs g7 hc] at this;by_cases e1:r=r'
  ·rw[if_pos e1,rv_add,rv_scale,Ld,z_3,xor_zero] at this
   rw[e1];exact this
  ·rw[if_neg e1] at this;exact this
theorem Steps.inverse (h:Steps n (aug A n) m) (hA:Shp A n n) (hI:∀r j,r<n->j<n->en m r j=dl r j):IsInv n (en A) (y_d n m):=by
 have hl:∀r c,r<n->c<n->mm n (y_d n m) (en A) r c=dl r c:=fun r c hr hc=>by rw[<-hI r c hr hc,h.comb hA r c hr hc];rfl
 refine ⟨fun r c hr hc=>?_,hl⟩;have hl':∀r c,r<n->c<n->mm n (y_d n m) (en A) r c=dl r c:=hl;have hz:=h.inj hA (fun k=>mm n (en A) (y_d n m) k c ^^^ dl k c) (fun r' g7=>?_) r hr
 ·have hz:mm n (en A) (y_d n m) r c ^^^ dl r c=0:=hz
  have:=congrArg (· ^^^ dl r c) hz;simp only[UInt8.xor_assoc,UInt8.xor_self,xor_zero,zero_xor] at this;exact this
 ·unfold rv
  rw[z_I n (g:=fun k=>mul (y_d n m r' k) (mm n (en A) (y_d n m) k c) ^^^ mul (y_d n m r' k) (dl k c)) (fun k _=>mul_add _ _ _),sx_add,sx_dl_right n c _ hc];have e:sx n (fun k=>mul (y_d n m r' k) (mm n (en A) (y_d n m) k c))=mm n (mm n (y_d n m) (en A)) (y_d n m) r' c:=(mm_assoc n n _ _ _ r' c).symm;rw[e,mm_congr n (A':=dl) (B':=y_d n m) (fun j hj=>hl r' j g7 hj) (fun _ _=>rfl)];show sx n (fun k=>mul (dl r' k) (y_d n m k c)) ^^^ _=0;rw[x_X n r' (fun k=>y_d n m k c) g7,UInt8.xor_self]
def ker (m:List (List UInt8)) (c k:Nat):UInt8:=if k<c then en m k c else if k=c then 1 else 0
theorem ker_at (m:List (List UInt8)) (c:Nat):ker m c c=1:=by unfold ker;rw[if_neg (Nat.lt_irrefl c),if_pos rfl]
theorem ker_zero (n c:Nat) (hc:c<n) (hI:∀r j,r<n->j<c->en m r j=dl r j) (hz:∀r,c<=r->r<n->en m r c=0) (r:Nat) (hr:r<n) :
  sx n (fun k=>mul (en m r k) (ker m c k))=0:=by
 have split:∀k,k<n->mul (en m r k) (ker m c k)=(if k<c then mul (dl r k) (en m k c) else 0) ^^^ (if k=c then en m r c else 0):=by
  intro k hk;unfold ker;by_cases h1:k<c
  ·rw[if_pos h1,if_pos h1,if_neg (by omega),xor_zero,hI r k hr h1]
  ·rw[if_neg h1,if_neg h1,zero_xor]
   by_cases h2:k=c
   ·rw[if_pos h2,if_pos h2,h2,mul_one]
   ·rw[if_neg h2,if_neg h2,z_3]
 rw[z_I n split,sx_add,v_G n c (fun k=>if k=c then en m r c else 0) hc (fun j _ hj=>if_neg hj),if_pos rfl];by_cases rQ:r<c
 ·rw[v_G n r _ hr (fun j _ hj=>?_),if_pos rQ]
  ·unfold dl;rw[if_pos rfl,one_mul,UInt8.xor_self]
  ·split
   ·unfold dl;rw[if_neg (fun e=>hj e.symm),zero_mul]
   ·rfl
 ·rw[hz r (by omega) hr,xor_zero]
  refine sx_all_zero n fun k hk=>?_;split
  ·unfold dl;rw[if_neg (by omega),zero_mul]
  ·rfl
theorem rv_rc (n:Nat) (x:Nat->UInt8) (A:Mat) (v:Nat->UInt8):rv n x (fun j=>rv n (A j) v)=rv n (rc n x A) v:=by
 unfold rv rc;rw[z_I n (g:=fun j=>sx n (fun k=>mul (x j) (mul (A j k) (v k)))) (fun j _=>sx_mul n _ _),sx_swap];refine z_I n fun k _=>?_;rw[sx_mul_right];exact z_I n fun j _=>(x_s _ _ _).symm
theorem Steps.kern (h:Steps n (aug A n) m) (hA:Shp A n n) (v:Nat->UInt8) (hm:∀r,r<n->rv n (en m r) v=0):∀r,r<n->rv n (en A r) v=0:=by
 refine h.inj hA (fun j=>rv n (en A j) v) (fun r hr=>?_);rw[rv_rc,<-hm r hr];unfold rv
 exact z_I n fun k hk=>by rw[h.comb hA r k hr hk]
theorem Steps.singular (h:Steps n (aug A n) m) (hA:Shp A n n) (c:Nat) (hc:c<n) (hI:∀r j,r<n->j<c->en m r j=dl r j) (hz:∀r,c<=r->r<n->en m r c=0):Sing n (en A) :=
 ⟨ker m c,⟨c,hc,by rw[ker_at];decide⟩,h.kern hA (ker m c) (ker_zero n c hc hI hz)⟩
end
end Go.Proofs.YtdkheklakfbeeaaGreatDoor.GfM
end
namespace Go.Proofs.YtdkheklakfbeeaaGreatDoor
open Go.RowKit Tryz
section
open GfM
def x_h (w:World) (v:Value) (m:List (List UInt8)):Prop :=
 ∃vs:List Value,vs.length=m.length/\z_g w v vs/\∀r,r<m.length->z_g w (vs.getD r undef) (bv (m.getD r []))
section
variable {w w':World} {v:Value} {m:List (List UInt8)}
theorem x_h.below (h:x_h w v m) (hb:Below w.heap.size w w'):x_h w' v m:=by
 obtain ⟨vs,h1,h2,h3⟩:=h;exact ⟨vs,h1,h2.below hb,fun r hr=>(h3 r hr).below hb⟩
theorem x_h.len (h:x_h w v m):m.length<=9223372036854775807:=by
 obtain ⟨vs,h1,h2,h3⟩:=h;have:=h2.len;omega
theorem x_h.shape (h:x_h w v m):∃A c,v=.slice A m.length c/\m.length<=c/\c<=9223372036854775807 /\
  (0<m.length->∃b off,A=some ⟨b,off,none⟩/\∀r,r<m.length->∃x,w.cell? ⟨b,off+r,none⟩=some x/\z_g w x (bv (m.getD r []))):=by
 obtain ⟨vs,h1,⟨A,c,rfl,aK,bf,aa⟩,h3⟩:=h;refine ⟨A,c,by rw[h1],by omega,bf,fun hp=>?_⟩;obtain ⟨b,off,rfl,hc⟩:=aa (by omega);refine ⟨b,off,rfl,fun r hr=>⟨vs.getD r undef,?_,h3 r hr⟩⟩;rw[hc r (by omega),q_d (by omega),q_a,q_d (by omega)];rfl
theorem z_g.shape {l:List UInt8} (h:z_g w v (bv l)):∃A c,v=.slice A l.length c/\l.length<=c/\c<=9223372036854775807 /\
  (0<l.length->∃b off,A=some ⟨b,off,none⟩/\∀j,j<l.length->w.cell? ⟨b,off+j,none⟩=some (.int .u8 ((l.getD j 0).toNat:Int))):=by
 obtain ⟨A,c,rfl,h1,h2,h3⟩:=h;rw[z_D] at *;refine ⟨A,c,rfl,h1,h2,fun hp=>?_⟩;obtain ⟨b,off,rfl,hc⟩:=h3 hp;exact ⟨b,off,rfl,fun j hj=>by rw[hc j hj,bv_at l j hj]⟩
end
def y_e:Nat->(Nat->Bool)->Nat->Int
 | 0,_,_=>-1
 | k+1,p,i=>if p i=true then (i:Int) else y_e k p (i+1)
theorem v_Z (n i:Nat) (p:Nat->Bool) (h:i<n) (hp:p i=false):y_e (n-i) p i=y_e (n-(i+1)) p (i+1):=by
 obtain ⟨k,hk⟩:∃k,n-i=k+1:=⟨n-i-1,by omega⟩;rw[hk,show n-(i+1)=k by omega];show (if p i=true then _ else _)=_;rw[if_neg (by rw[hp];decide)]
theorem v_8 (n i:Nat) (p:Nat->Bool) (h:i<n) (hp:p i=true):y_e (n-i) p i=(i:Int):=by
 obtain ⟨k,hk⟩:∃k,n-i=k+1:=⟨n-i-1,by omega⟩;rw[hk];show (if p i=true then _ else _)=_;rw[if_pos hp]
theorem v_W (k:Nat) (p:Nat->Bool):∀i,(y_e k p i=-1/\∀j,i<=j->j<i+k->p j=false)\/(∃j:Nat,i<=j/\j<i+k/\y_e k p i=(j:Int)/\p j=true):=by
 induction k with
 | zero=>intro i;exact .inl ⟨rfl,fun j h1 h2=>by omega⟩
 | succ k ih =>
  intro i;by_cases h:p i=true
  ·exact .inr ⟨i,by omega,by omega,by show (if p i=true then _ else _)=_;rw[if_pos h],h⟩
  ·have e:y_e (k+1) p i=y_e k p (i+1):=by show (if p i=true then _ else _)=_;rw[if_neg h]
   rw[e];rcases ih (i+1) with ⟨h1,h2⟩|⟨j,h1,h2,h3,h4⟩
   ·refine .inl ⟨h1,fun j AQ xm=>?_⟩
    by_cases e:j=i
    ·subst e;simpa using h
    ·exact h2 j (by omega) (by omega)
   ·exact .inr ⟨j,by omega,by omega,h3,h4⟩
theorem index_good (w:World) (v:Value) (xs:List Value) (hv:z_g w v xs) (a:Addr) (p:Nat->Bool)
  (hF:∀r,r<xs.length->Cl 250 #[xs.getD r undef,.pointer (some a)] w fun e w'=>e=.returned (.bool (p r))/\w=w') :
  Cl 215 #[v,.func (.func 250) #[] #[.pointer (some a)]] w fun e w'=>e=.returned (.int .i64 (y_e xs.length p 0))/\w=w':=by
 obtain ⟨A,c,rfl,aK,bf,aa⟩:=hv;have HC:=Zz aa;clear aa;have HF:=Zz hF;clear hF;obtain ⟨n,hn⟩:∃n,xs.length=n:=⟨_,rfl⟩;rw[hn] at aK ⊢;have HN:=Zz hn;clear hn;go_enter func215,ntmps215;go_wp2
 go_loop [5,8] (fun _ s8=>∃i:Nat,i<=n/\s8=.int .i64 i/\y_e (n-i) p i=y_e n p 0) (fun _ s8=>n-(intOf s8).toNat)
 case atStart=>exact ⟨0,by omega,rfl,by simp⟩
 case round =>
  obtain ⟨i,hi,rfl,hg⟩:=hrel;have HG:=Zz hg;clear hg;by_cases af:i<n
  ·have bt:i<xs.length:=by rw[HN.o];exact af
   obtain ⟨b,off,rfl,aa⟩:=HC.o (by omega);have hx:=aa i bt;rw[q_d bt] at hx;have hf:=HF.o i bt;rw[q_a,q_d bt] at hf;simp only[Option.getD_some] at hf;generalize xs[i]=x at *;have HX:=Zz hf;clear hf aa;by_cases hp:p i=true
   ·have hh:=v_8 n i p af hp
    have HH:=Zz hh;clear hh;rw[hp] at HX;clear hp;go_wp2_with fail;refine (HX.o).mono ?_;rintro e w' ⟨rfl,rfl⟩;go_wp2;go_ret;exact ⟨by rw[<-HG.o,HH.o];rfl,rfl⟩
   ·have pW:p i=false:=by simpa using hp
    have hh:=v_Z n i p af pW;have HH:=Zz hh;clear hh;rw[pW] at HX;clear hp pW;go_wp2_with fail;refine (HX.o).mono ?_;rintro e w' ⟨rfl,rfl⟩;go_wp2
    go_round
    case rel=>exact ⟨i+1,by omega,by go_num,by rw[<-HH.o];exact HG.o⟩
    case measure=>simp[intOf];omega
  ·obtain rfl:i=n:=by omega
   go_wp2;go_ret;refine ⟨?_,rfl⟩;rw[<-HG.o,Nat.sub_self];rfl
theorem contains_good (w:World) (v:Value) (xs:List Value) (hv:z_g w v xs) (a:Addr) (p:Nat->Bool)
  (hF:∀r,r<xs.length->Cl 250 #[xs.getD r undef,.pointer (some a)] w fun e w'=>e=.returned (.bool (p r))/\w=w') :
  Cl 249 #[v,.func (.func 250) #[] #[.pointer (some a)]] w fun e w'=>e=.returned (.bool (decide (0<=y_e xs.length p 0)))/\w=w':=by
 have hc:=index_good w v xs hv a p hF;generalize y_e xs.length p 0=z at *;have HC:=Zz hc;clear hc hF hv;go_enter func249,ntmps249;go_wp2_with fail;refine (HC.o).mono ?_;rintro e w' ⟨rfl,rfl⟩;go_wp2
 all_goals (go_ret;exact ⟨rfl,rfl⟩)
theorem index_invert (w:World) (v:Value) (xs:List Value) (hv:z_g w v xs) (a:Addr) (p:Nat->Bool)
  (hF:∀r,r<xs.length->Cl 216 #[xs.getD r undef,.pointer (some a)] w fun e w'=>e=.returned (.bool (p r))/\w=w') :
  Cl 215 #[v,.func (.func 216) #[] #[.pointer (some a)]] w fun e w'=>e=.returned (.int .i64 (y_e xs.length p 0))/\w=w':=by
 obtain ⟨A,c,rfl,aK,bf,aa⟩:=hv;have HC:=Zz aa;clear aa;have HF:=Zz hF;clear hF;obtain ⟨n,hn⟩:∃n,xs.length=n:=⟨_,rfl⟩;rw[hn] at aK ⊢;have HN:=Zz hn;clear hn;go_enter func215,ntmps215;go_wp2
 go_loop [5,8] (fun _ s8=>∃i:Nat,i<=n/\s8=.int .i64 i/\y_e (n-i) p i=y_e n p 0) (fun _ s8=>n-(intOf s8).toNat)
 case atStart=>exact ⟨0,by omega,rfl,by simp⟩
 case round =>
  obtain ⟨i,hi,rfl,hg⟩:=hrel;have HG:=Zz hg;clear hg;by_cases af:i<n
  ·have bt:i<xs.length:=by rw[HN.o];exact af
   obtain ⟨b,off,rfl,aa⟩:=HC.o (by omega);have hx:=aa i bt;rw[q_d bt] at hx;have hf:=HF.o i bt;rw[q_a,q_d bt] at hf;simp only[Option.getD_some] at hf;generalize xs[i]=x at *;have HX:=Zz hf;clear hf aa;by_cases hp:p i=true
   ·have hh:=v_8 n i p af hp
    have HH:=Zz hh;clear hh;rw[hp] at HX;clear hp;go_wp2_with fail;refine (HX.o).mono ?_;rintro e w' ⟨rfl,rfl⟩;go_wp2;go_ret;exact ⟨by rw[<-HG.o,HH.o];rfl,rfl⟩
   ·have pW:p i=false:=by simpa using hp
    have hh:=v_Z n i p af pW;have HH:=Zz hh;clear hh;rw[pW] at HX;clear hp pW;go_wp2_with fail;refine (HX.o).mono ?_;rintro e w' ⟨rfl,rfl⟩;go_wp2
    go_round
    case rel=>exact ⟨i+1,by omega,by go_num,by rw[<-HH.o];exact HG.o⟩
    case measure=>simp[intOf];omega
  ·obtain rfl:i=n:=by omega
   go_wp2;go_ret;refine ⟨?_,rfl⟩;rw[<-HG.o,Nat.sub_self];rfl
end
section
open GfM
theorem v_l (n:Int) (h1:1<=n) (h2:n<=16) (w:World):Cl 247 #[.int .i64 n] w fun e w'=>e=.returned (.bool true)/\w=w':=by
 go_enter func247,ntmps247;go_wp2;go_ret;exact ⟨rfl,rfl⟩
theorem may_no (n:Int) (h:n<1\/16<n) (w:World):Cl 247 #[.int .i64 n] w fun e w'=>e=.returned (.bool false)/\w=w':=by
 rcases h with h|h
 ·have h1:decide (1<=n)=false:=by simp;omega
  go_enter func247,ntmps247;go_wp2
  all_goals (go_ret;exact ⟨rfl,rfl⟩)
 ·have h1:decide (1<=n)=true:=by simp;omega
  have h2:decide (n<=16)=false:=by simp;omega
  go_enter func247,ntmps247;go_wp2
  all_goals (go_ret;exact ⟨rfl,rfl⟩)
def y_r (m:List (List UInt8)):Bool:=decide (1<=m.length/\m.length<=16/\1<=(m.getD 0 []).length/\(m.getD 0 []).length<=16/\∀r,r<m.length->(m.getD r []).length=(m.getD 0 []).length)
theorem w_N (m:List (List UInt8)):y_r m=true↔1<=m.length/\m.length<=16/\1<=(m.getD 0 []).length/\(m.getD 0 []).length<=16/\Shp m m.length (m.getD 0 []).length:=by
 unfold y_r Shp;rw[decide_eq_true_iff];simp only[true_and]
theorem good_no {m:List (List UInt8)} (h:¬(1<=m.length/\m.length<=16/\1<=(m.getD 0 []).length/\(m.getD 0 []).length<=16)):y_r m=false:=by
 unfold y_r;rw[decide_eq_false_iff_not];rintro ⟨h1,h2,h3,h4,_⟩;exact h ⟨h1,h2,h3,h4⟩
theorem goodc_any (w:World) (m:List (List UInt8)) (v:Value) (a:Addr) (hv:x_h w v m) (ha:w.cell? a=some v) (hm:0<m.length) (x:Value) (l:List UInt8) (hx:z_g w x (bv l)) :
  Cl 250 #[x,.pointer (some a)] w fun e w'=>e=.returned (.bool (decide (l.length≠(m.getD 0 []).length)))/\w=w':=by
 obtain ⟨A,c,rfl,aK,bf,aa⟩:=hv.shape;obtain ⟨b,off,rfl,hr⟩:=aa hm;obtain ⟨x0,eO,uW⟩:=hr 0 hm;obtain ⟨A0,c0,rfl,_,_,_⟩:=uW.shape;obtain ⟨A1,c1,rfl,_,_,_⟩:=hx.shape;clear uW hr aa hx hv;rw[Nat.add_zero] at eO;generalize (m.getD 0 []).length=k at *;generalize m.length=n at *;generalize l.length=j at *;by_cases h:j=k
 ·have hb:(((j:Nat):Int) != ((k:Nat):Int))=false:=by rw[h];simp
  have e:decide (j≠k)=false:=by simpa using h
  rw[e];clear e h;go_enter func250,ntmps250;go_wp2;go_ret;exact ⟨rfl,rfl⟩
 ·have hb:(((j:Nat):Int) != ((k:Nat):Int))=true:=by rw[bne_iff_ne];omega
  have e:decide (j≠k)=true:=by simpa using h
  rw[e];clear e h;go_enter func250,ntmps250;go_wp2;go_ret;exact ⟨rfl,rfl⟩
theorem good_any (w:World) (v:Value) (m:List (List UInt8)) (hv:x_h w v m) :
  Cl 213 #[v] w fun e w'=>e=.returned (.bool (y_r m))/\Below w.heap.size w w':=by
 have pT:=hv;obtain ⟨A,c,rfl,aK,bf,aa⟩:=hv.shape;by_cases h1:1<=m.length/\m.length<=16
 ·obtain ⟨Wd,Le⟩:=h1
  obtain ⟨b,off,rfl,hr⟩:=aa (by omega);obtain ⟨x0,eO,uW⟩:=hr 0 (by omega);obtain ⟨A0,c0,rfl,iD,db,_⟩:=uW.shape;rw[Nat.add_zero] at eO;have cE:b<w.heap.size:=q_c w _ eO;by_cases h2:1<=(m.getD 0 []).length/\(m.getD 0 []).length<=16
  ·obtain ⟨We,Wf⟩:=h2
   have hW:∀o,x_h (w.alloc o) (.slice (some ⟨b,off,none⟩) m.length c) m:=fun o=>pT.below ((Below.refl _ _).alloc (q_e _) o)
   have QR:∀W,W=w.alloc (.cells #[.slice (some ⟨b,off,none⟩) m.length c] 251) ->
     Cl 249 #[.slice (some ⟨b,off,none⟩) m.length c,.func (.func 250) #[] #[.pointer (some ⟨w.heap.size,0,none⟩)]] W
      fun e w'=>e=.returned (.bool (!y_r m))/\W=w':=by
    rintro W rfl;have hb:=Blk.new w 251 #[Value.slice (some ⟨b,off,none⟩) m.length c];obtain ⟨vs,hl,cQ,Iu⟩:=hW (.cells #[.slice (some ⟨b,off,none⟩) m.length c] 251);have hM:=hW (.cells #[.slice (some ⟨b,off,none⟩) m.length c] 251)
    have co:=contains_good _ _ vs cQ ⟨w.heap.size,0,none⟩ (fun r=>decide ((m.getD r []).length≠(m.getD 0 []).length))
     (fun r hr=>goodc_any _ m _ _ hM (hb.cell 0) (by omega) _ _ (Iu r (by omega)))
    refine co.mono ?_;rintro e w' ⟨rfl,rfl⟩;refine ⟨?_,rfl⟩;congr 2;have hs:=v_W vs.length (fun r=>decide ((m.getD r []).length≠(m.getD 0 []).length)) 0;rw[q_D,hl] at hs;rw[hl];rcases hs with ⟨e1,e2⟩|⟨j,_,e2,e3,e4⟩
    ·rw[e1]
     have hg:y_r m=true:=by
      unfold y_r;rw[decide_eq_true_iff];refine ⟨Wd,Le,We,Wf,fun r hr=>?_⟩;have:=e2 r (by omega) hr;simpa using this
     rw[hg];decide
    ·rw[e3]
     have hg:y_r m=false:=by
      unfold y_r;rw[decide_eq_false_iff_not];rintro ⟨_,_,_,_,h5⟩;exact (of_decide_eq_true e4) (h5 j e2)
     rw[hg]
     have:(0:Int)<=(j:Int):=by omega
     simp
   have HC:=Zz QR;clear QR hW hr aa uW hv pT;generalize hg:y_r m=G at *;have HG:=Zz hg;clear hg;generalize (m.getD 0 []).length=k at *;generalize m.length=n at *;go_enter func213,ntmps213;go_wp2_with fail;refine (v_l _ (by omega) (by omega) _).mono ?_;rintro e w' ⟨rfl,rfl⟩;go_wp2_with fail;refine (v_l _ (by omega) (by omega) _).mono ?_;rintro e w' ⟨rfl,rfl⟩;go_wp2_with fail;refine (HC.o _ rfl).mono ?_;rintro e w' ⟨rfl,rfl⟩;go_wp2;go_ret;exact ⟨rfl,(Below.refl _ _).alloc (q_e _) _⟩
  ·have hg:=good_no (m:=m) (by rintro ⟨_,_,h3,h4⟩;exact h2 ⟨h3,h4⟩)
   rw[hg]
   have h3:(((m.getD 0 []).length:Nat):Int)<1\/16<(((m.getD 0 []).length:Nat):Int):=by omega
   have H3:=Zz h3;clear hg h2 hr aa uW hv pT h3;generalize (m.getD 0 []).length=k at *;generalize m.length=n at *;go_enter func213,ntmps213;go_wp2_with fail;refine (v_l _ (by omega) (by omega) _).mono ?_;rintro e w' ⟨rfl,rfl⟩;go_wp2_with fail;refine (may_no _ H3.o _).mono ?_;rintro e w' ⟨rfl,rfl⟩;go_wp2;go_ret;exact ⟨rfl,(Below.refl _ _).alloc (q_e _) _⟩
 ·have hg:=good_no (m:=m) (by rintro ⟨h3,h4,_,_⟩;exact h1 ⟨h3,h4⟩)
  rw[hg]
  have h3:((m.length:Nat):Int)<1\/16<((m.length:Nat):Int):=by omega
  have H3:=Zz h3;clear hg h1 aa hv pT h3;generalize m.length=n at *;go_enter func213,ntmps213;go_wp2_with fail;refine (may_no _ H3.o _).mono ?_;rintro e w' ⟨rfl,rfl⟩;go_wp2;go_ret;exact ⟨rfl,(Below.refl _ _).alloc (q_e _) _⟩
end
end Go.Proofs.YtdkheklakfbeeaaGreatDoor
