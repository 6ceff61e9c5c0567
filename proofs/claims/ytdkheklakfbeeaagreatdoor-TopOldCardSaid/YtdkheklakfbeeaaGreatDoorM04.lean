/- Part 4 of the proof. -/
import Derived.ChangeKeysEq
import Derived.Test.YtdkheklakfbeeaaGreatDoorM03
set_option linter.all false
set_option maxRecDepth 100000
set_option maxHeartbeats 16000000
namespace Go.Proofs.YtdkheklakfbeeaaGreatDoor
open Go.RowKit Tryz
variable {a b base c n:Nat}{e:TypeId}{v:Value}{w:W_}{xs:List Value}
section
open GfM
def w_w (n:Int) (w:W_):Cl 154 #[.int .i64 n] w fun e w'=>e=.returned (.bool (decide (1<=n/\n<=8)))/\w=w':=by
 by_cases h:1<=n
 ·by_cases j:n<=8
  ·have g:decide (1<=n/\n<=8)=true:=by simp;omega
   rw[g];go_enter func154,ntmps154;go_wp2;go_ret;exact ⟨rfl,rfl⟩
  have g:decide (1<=n/\n<=8)=false:=by simp;omega
  rw[g]
  have i:decide (1<=n)=true:=by simp;omega
  have k:decide (n<=8)=false:=by simp;omega
  go_enter func154,ntmps154;go_wp2;go_ret;exact ⟨rfl,rfl⟩
 have g:decide (1<=n/\n<=8)=false:=by simp;omega
 rw[g]
 have i:decide (1<=n)=false:=by simp;omega
 go_enter func154,ntmps154;go_wp2;go_ret;exact ⟨rfl,rfl⟩
def b_.texts {T:List B_} (h:b_ w v (sv T)) :
  ∃A c,v=.slice A T.length c/\T.length<=c/\c<=9223372036854775807/\(0<T.length->∃b off,A=some ⟨b,off,none⟩/\∀j,j<T.length->w.cell? ⟨b,off+j,none⟩=some (.string (tl T j))):=by
 obtain ⟨A,c,rfl,g,i,k⟩:=h;rw[cN] at *;refine ⟨A,c,rfl,g,i,fun hp=>?_⟩;obtain ⟨b,off,rfl,l⟩:=k hp;exact ⟨b,off,rfl,fun j e=>by rw[l j e,iQ T j e]⟩
def MZ (h:a≠b):(((a:Nat):Int) != ((b:Nat):Int))=true:=by rw[bne_iff_ne];omega
def w_O (h:a=b):(((a:Nat):Int) != ((b:Nat):Int))=false:=by rw[h];simp
def m_ (w:W_) (v:Value) (T:List B_) (hv:b_ w v (sv T)) :
  Cl 156 #[v] w fun e w'=>e=.returned (.int .i64 (uU T))/\w=w':=by
 obtain ⟨A,c,rfl,N,O,x⟩:=hv.texts;clear hv;by_cases hn:0<T.length
 ·obtain ⟨b,off,rfl,k⟩:=x hn
  clear x;have J:=k 0 hn;rw[Nat.add_zero] at J;by_cases h:Sw T
  ·by_cases hl:65536<(tl T 0).size
   ·rw[W7 h hn hl]
    have u:=Zz h;clear h;have q:=Zz k;clear k;generalize m:tl T 0=f at *;have r:=Zz m;clear m;generalize l:T.length=n at *;have o:=Zz l;clear l;go_enter func156,ntmps156;go_wp2
    go_loop [4,7] (fun _ g=>∃i:Nat,i<=n/\g=.int .i64 i) (fun _ g=>T.length+1-(intOf g).toNat)
    case atStart=>exact ⟨0,o_,rfl⟩
    case round =>
     obtain ⟨i,t,rfl⟩:=hrel;by_cases p:i<n
     ·have a:=q.o i p
      have s:=w_O (u.o i (by rw[o.o];exact p))
      try rw[r.o] at s
      generalize tl T i=E at *;go_wp2
      go_round
      case rel=>exact ⟨i+1,o_,by go_num⟩
      case measure=>have:=o.o;simp[intOf];omega
     obtain rfl:i=n:=o_;go_wp2;go_ret;exact ⟨rfl,rfl⟩
   rw[kL h o_];have u:=Zz h;clear h;have q:=Zz k;clear k;generalize m:tl T 0=f at *;have r:=Zz m;clear m;generalize l:T.length=n at *;have o:=Zz l;clear l;go_enter func156,ntmps156;go_wp2
   go_loop [4,7] (fun _ g=>∃i:Nat,i<=n/\g=.int .i64 i) (fun _ g=>T.length+1-(intOf g).toNat)
   case atStart=>exact ⟨0,o_,rfl⟩
   case round =>
    obtain ⟨i,t,rfl⟩:=hrel;by_cases p:i<n
    ·have a:=q.o i p
     have s:=w_O (u.o i (by rw[o.o];exact p))
     try rw[r.o] at s
     generalize tl T i=E at *;go_wp2
     go_round
     case rel=>exact ⟨i+1,o_,by go_num⟩
     case measure=>have:=o.o;simp[intOf];omega
    obtain rfl:i=n:=o_;go_wp2;go_ret;exact ⟨rfl,rfl⟩
  rw[shE_odd h];obtain ⟨j,M,z,d⟩:=Qw h;have P:=MZ z;have Q:=k j M;have G:=Zz d;clear d h z;have q:=Zz k;clear k;generalize m:tl T 0=f at *;have r:=Zz m;clear m;generalize y:tl T j=R at *;have I:=Zz y;clear y;generalize l:T.length=n at *;have o:=Zz l;clear l;go_enter func156,ntmps156;go_wp2
  go_loop [4,7] (fun _ g=>∃i:Nat,i<=j/\g=.int .i64 i) (fun _ g=>T.length+1-(intOf g).toNat)
  case atStart=>exact ⟨0,o_,rfl⟩
  case round =>
   obtain ⟨i,t,rfl⟩:=hrel;by_cases p:i<j
   ·have a:=q.o i o_
    have s:=w_O (G.o i p)
    try rw[r.o] at s
    generalize tl T i=E at *;go_wp2
    go_round
    case rel=>exact ⟨i+1,o_,by go_num⟩
    case measure=>have:=o.o;simp[intOf];omega
   obtain rfl:i=j:=o_;go_wp2;go_ret;exact ⟨rfl,rfl⟩
 obtain rfl:T=[]:=q_I o_
 have e:uU []=0:=by
  unfold uU;rw[if_pos (by intro i t;simp at t),if_neg s_]
 rw[e];clear x hn e;simp only[List.length_nil];go_enter func156,ntmps156;go_wp2
 go_loop [4,7] (fun _ g=>∃i:Nat,i=0/\g=.int .i64 i) (fun _ g=>1-(intOf g).toNat)
 case atStart=>exact ⟨0,o_,rfl⟩
 case round =>
  obtain ⟨i,rfl,rfl⟩:=hrel;go_wp2;go_ret;exact ⟨rfl,rfl⟩
end
section
open GfM
def JG (w:W_) (v:Value) (T:List B_) (hv:b_ w v (sv T)) :
  Cl 104 #[v] w fun e w'=>e=.returned (.tuple #[.string (bs (enP T)),.string (bs (enQ T)),.int .i64 (enE T)])/\Below w.heap.size w w':=by
 have o:=hv;obtain ⟨A,c,rfl,H6,H7,p⟩:=hv.texts;clear hv;by_cases hn:T.length<1\/8<T.length
 ·have g:enE T=2:=by unfold enE;rw[if_pos hn]
  have h:enP T=[]:=by unfold enP;rw[if_neg (by rw[g];decide)]
  have j:enQ T=[]:=by unfold enQ;rw[if_neg (by rw[g];decide)]
  rw[g,h,j]
  have q:decide (1<=(T.length:Int)/\(T.length:Int)<=8)=false:=by simp;omega
  clear g h j p o hn;generalize T.length=n at *;go_enter func104,ntmps104;go_wp2_with fail;refine (w_w _ _).mono ?_;rw[q];rintro e w' ⟨rfl,rfl⟩;go_wp2
  go_ret3
  exact ⟨rfl,Below.refl _ _⟩
 have q:decide (1<=(T.length:Int)/\(T.length:Int)<=8)=true:=by simp;omega
 by_cases hs:uU T=0
 ·have g:enE T=0:=by unfold enE;rw[if_neg hn];exact hs
  obtain ⟨_,_,N,H8⟩:=Ao g
  have h:enP T=pp T (nn T) T.length:=by unfold enP;rw[if_pos g]
  have j:enQ T=qq T (nn T) T.length:=by unfold enQ;rw[if_pos g]
  obtain ⟨b,off,rfl,u⟩:=p o_;have S:=u 0 o_;rw[Nat.add_zero] at S;have h3:b<w.heap.size:=fV w _ S;have h6:(tl T 0).size=nn T:=rfl;have h5:=r7 (tl T 0).size o_;have y:=(ev.made_zero w (tl T 0).size o_).reads;rw[Aa] at y;have h4:=UG (P:=prog) (src:=105) (dst:=9) underlying105 underlying5 underlying9 y;have f:bs (List.replicate (tl T 0).size 0)=bs (pp T (nn T) 0):=rfl;have E:bs (List.replicate (tl T 0).size 0)=bs (qq T (nn T) 0):=rfl
  have R:∀i,i<T.length->(∀W,Cl 160 #[.string (bs (pp T (nn T) i)),.string (tl T i)] W fun e w'=>e=.returned (.string (bs (pp T (nn T) (i+1))))/\Below W.heap.size W w') /\
    (∀W,Cl 162 #[.int .u8 2,.int .i64 i] W fun e w'=>e=.returned (.int .u8 ((wt i).toNat:Int))/\W=w') /\
    (∀W,Cl 161 #[.int .u8 ((wt i).toNat:Int),.string (tl T i)] W fun e w'=>e=.returned (.string (bs ((tb T i).map (cb (wt i)))))/\Below W.heap.size W w') /\
    (∀W,Cl 160 #[.string (bs (qq T (nn T) i)),.string (bs ((tb T i).map (cb (wt i))))] W fun e w'=>e=.returned (.string (bs (qq T (nn T) (i+1))))/\Below W.heap.size W w'):=by
   intro i B;have l:=N i B
   refine ⟨fun W=>AO _ _ _ _ (AT _).symm rfl (by rw[l];omega) W,fun W=>zb 2 i 2 rfl W,fun W=>sC _ (wt i) rfl _ _ rfl (by rw[l];omega) W,
    fun W=>AO _ _ _ _ (AT _).symm (AT _).symm (by rw[cG,cG,fW,x_E,l];omega) W⟩
  have h7:=Zz R;clear R;have L:=Zz u;clear u;have h8:=Zz f;clear f;have H3:=Zz E;clear E;have k:=m_ w _ T o;rw[hs] at k;have t:=Zz k;clear k hs o N y;rw[g,h,j];clear g h j p h6;generalize tl T 0=H0 at *;generalize bs (List.replicate H0.size 0)=x3 at *;generalize G:T.length=n at *;have x0:=Zz G;clear G;go_enter func104,ntmps104;go_wp2_with fail;refine (w_w _ _).mono ?_;rw[q];rintro e w' ⟨rfl,rfl⟩;go_wp2_with fail;refine (t.o).mono ?_;rintro e w' ⟨rfl,rfl⟩;go_wp2;clear h5 h4
  go_loopw [2,3,5,6,25] (fun H1 H2 _ _ z wr=>∃i:Nat,i<=n/\z=.int .i64 i/\H1=.string (bs (pp T (nn T) i))/\H2=.string (bs (qq T (nn T) i))/\Below w.heap.size w wr) (fun _ _ _ _ z _=>n-(intOf z).toNat)
  case atStart=>exact ⟨0,o_,rfl,by rw[h8.o],by rw[H3.o],(Below.refl _ _).alloc (bS _) _⟩
  case round =>
   obtain ⟨i,B,rfl,rfl,rfl,m⟩:=hrel;by_cases J:i<n
   ·obtain ⟨l,U,V,X⟩:=h7.o i J
    have H9:=(m.cell h3).trans (L.o i J);generalize d:bs (pp T (nn T) (i+1))=H4 at *;generalize I:bs (qq T (nn T) (i+1))=H5 at *;have h9:=Zz d;clear d;have C:=Zz I;clear I;generalize bs (pp T (nn T) i)=P at *;generalize bs (qq T (nn T) i)=Q at *;generalize bs ((tb T i).map (cb (wt i)))=M at *;generalize wt i=a at *;generalize tl T i=s at *;have D:=Zz l;clear l;have F:=Zz U;clear U;have H:=Zz V;clear V;have K:=Zz X;clear X;go_wp2_with fail;refine (D.o _).mono ?_;rintro e x1 ⟨rfl,r⟩;go_wp2_with fail;refine (F.o _).mono ?_;rintro e w' ⟨rfl,rfl⟩;go_wp2_with fail;refine (H.o _).mono ?_;rintro e x2 ⟨rfl,O⟩;go_wp2_with fail;refine (K.o _).mono ?_;rintro e w3 ⟨rfl,h2⟩;go_wp2;go_roundw
    case rel=>exact ⟨i+1,o_,by go_num,by rw[h9.o],by rw[C.o],rz (rz (rz m m.size r) (cL m.size r.size) O) (cL (cL m.size r.size) O.size) h2⟩
    case measure=>simp[intOf];omega
   obtain rfl:i=n:=o_;generalize Y:bs (pp T (nn T) i)=P at *;generalize Z:bs (qq T (nn T) i)=Q at *;have h0:=Zz Y;clear Y;have h1:=Zz Z;clear Z;go_wp2
   go_ret3
   exact ⟨by rw[h0.o,h1.o];rfl,m⟩
 have g:enE T=uU T:=by unfold enE;rw[if_neg hn]
 have h:enP T=[]:=by unfold enP;rw[if_neg (by rw[g];exact hs)]
 have j:enQ T=[]:=by unfold enQ;rw[if_neg (by rw[g];exact hs)]
 rw[g,h,j];have k:=m_ w _ T o
 have hb:(uU T != 0)=true:=by rw[bne_iff_ne];exact hs
 have t:=Zz k;clear k hs o g h j p;generalize uU T=x at *;generalize T.length=n at *;go_enter func104,ntmps104;go_wp2_with fail;refine (w_w _ _).mono ?_;rw[q];rintro e w' ⟨rfl,rfl⟩;go_wp2_with fail;refine (t.o).mono ?_;rintro e w' ⟨rfl,rfl⟩;go_wp2
 go_ret3
 exact ⟨rfl,Below.refl _ _⟩
end
section
open GfM
def F1 (a b:Value):Prop:=∀k,a.ownBlock=some k->b.ownBlock≠some k
def F1.symm {a b:Value} (h:F1 a b):F1 b a:=fun k hb ha=>h k ha hb
def F1.ne {a b:Value} (h:F1 a b):a.ownBlock=none\/a.ownBlock≠b.ownBlock:=by
 cases ha:a.ownBlock with
 | none=>exact .inl rfl
 | some k=>exact .inr fun e=>h k ha e.symm
def F1.nil_ (b:Value):F1 (.slice none 0 0) b:=fun k h=>by cases h
def F1.grow {W:W_} {a l b:Value} (h:F1 a b) (hb:aH W base e b xs) (i:l.ownBlock=a.ownBlock\/∃g,l.ownBlock=some g/\W.heap.size<=g):F1 l b:=by
 intro k j m;rcases i with i|⟨g,i,hg⟩
 ·exact h k (by rw[<-i];exact j) m
 rw[i] at j;injection j with j;have:=(hb.lt k m).2;omega
end
section
open GfM
def b_.take {A:Option Addr} (h:b_ w (.slice A n c) xs) (k:Nat) (hk:k<=xs.length):b_ w (.slice A k c) (xs.take k):=by
 obtain ⟨A',p,o,r,i,l⟩:=h;injection o with e q g;subst e g
 have hl:(xs.take k).length=k:=by rw[gC];omega
 refine ⟨A,c,by rw[hl],o_,i,fun hp=>?_⟩;obtain ⟨b,off,rfl,m⟩:=l o_;refine ⟨b,off,rfl,fun j s=>?_⟩;rw[m j o_,List.getElem?_take,if_pos o_]
def ba_inj {a b:B_}:a.toList=b.toList↔a=b:=by
 rw[ByteArray.toList_eq,ByteArray.toList_eq];refine ⟨fun h=>?_,fun h=>by rw[h]⟩;rw[<-J3 a,<-J3 b,h]
def Eb {a b:B_} (h:¬a=b):(a.toList==b.toList)=false/\¬a.toList=b.toList:=by
 have:¬a.toList=b.toList:=fun e=>h (ba_inj.1 e);exact ⟨by rw[pN];exact this,this⟩
end
section
open GfM
def cut1 (T:List B_) (n i:Nat):B_:=if (tl T i).size<=n then tl T i else (tl T i).extract 0 n
def cutAt (T:List B_) (n:Nat) (even:Bool) (prev:List B_) (i:Nat):B_ :=
 if even=true/\0<i then (cut1 T n i++bs (List.replicate n 0)).extract 0 (tl prev 0).size else cut1 T n i
def cuts (T:List B_) (n:Nat) (even:Bool):Nat->List B_
 | 0=>[]
 | i+1=>cuts T n even i++[cutAt T n even (cuts T n even i) i]
def xT:(prog.info? 9).map (fun i=>(i.zero,i.size,i.bytes))=some (some (.string ⟨#[]⟩),1,16):=k_
end
end Go.Proofs.YtdkheklakfbeeaaGreatDoor
section
open Go.Proofs.Tryz
namespace Go.Proofs.YtdkheklakfbeeaaGreatDoor.GfM
def sx:Nat->(Nat->UInt8)->UInt8
 | 0,_=>0
 | n+1,f=>sx n f ^^^ f n
def l6 (n:Nat) {f g:Nat->UInt8} (h:∀k,k<n->f k=g k):sx n f=sx n g:=by
 induction n with
 | zero=>rfl
 | succ n e =>
  show sx n f ^^^ f n=sx n g ^^^ g n;rw[e (fun k hk=>h k o_),h n o_]
def xor_zero (a:UInt8):a ^^^ 0=a:=UInt8.xor_zero
def zero_xor (a:UInt8):0 ^^^ a=a:=by rw[UInt8.xor_comm];exact UInt8.xor_zero
def RV (a b c d:UInt8):(a ^^^ b) ^^^ (c ^^^ d)=(a ^^^ c) ^^^ (b ^^^ d):=by
 rw[UInt8.xor_assoc,UInt8.xor_assoc,<-UInt8.xor_assoc b c d,UInt8.xor_comm b c,UInt8.xor_assoc c b d]
def Lx (n:Nat):sx n (fun _=>0)=0:=by
 induction n with
 | zero=>rfl
 | succ n e=>show sx n _ ^^^ 0=0;rw[e];rfl
def n_ (n:Nat) {f:Nat->UInt8} (h:∀k,k<n->f k=0):sx n f=0:=(l6 n h).trans (Lx n)
def nr (n:Nat) (f g:Nat->UInt8):sx n (fun k=>f k ^^^ g k)=sx n f ^^^ sx n g:=by
 induction n with
 | zero=>show (0:UInt8)=0 ^^^ 0;decide
 | succ n e=>show sx n _ ^^^ (f n ^^^ g n)=(sx n f ^^^ f n) ^^^ (sx n g ^^^ g n);rw[e,RV]
def By (n:Nat) (a:UInt8) (f:Nat->UInt8):cb a (sx n f)=sx n (fun k=>cb a (f k)):=by
 induction n with
 | zero=>exact yY a
 | succ n e=>show cb a (sx n f ^^^ f n)=sx n _ ^^^ cb a (f n);rw[Nm,e]
def lr (n:Nat) (a:UInt8) (f:Nat->UInt8):cb (sx n f) a=sx n (fun k=>cb (f k) a):=by
 rw[mul_comm,By];exact l6 n fun k _=>mul_comm _ _
def NS (n m:Nat) (f:Nat->Nat->UInt8):sx n (fun i=>sx m (fun j=>f i j))=sx m (fun j=>sx n (fun i=>f i j)):=by
 induction n with
 | zero=>exact (Lx m).symm
 | succ n e=>show sx n _ ^^^ sx m (fun j=>f n j)=sx m (fun j=>sx n (fun i=>f i j) ^^^ f n j);rw[e,nr]
def v_O (n k:Nat) (f:Nat->UInt8) (hk:k<n) (h:∀j,j<n->j≠k->f j=0):sx n f=f k:=by
 induction n with
 | zero=>omega
 | succ n l =>
  show sx n f ^^^ f n=f k;by_cases e:k=n
  ·subst e
   rw[n_ k (fun j i=>h j o_ o_),zero_xor]
  rw[l o_ (fun j i g=>h j o_ g),h n o_ (fun h=>e h.symm),xor_zero]
def dl (r c:Nat):UInt8:=if r=c then 1 else 0
def w_g (n r:Nat) (f:Nat->UInt8) (h:r<n):sx n (fun k=>cb (dl r k) (f k))=f r:=by
 rw[v_O n r _ h (fun j _ g=>by unfold dl;rw[if_neg (fun e=>g e.symm),zero_mul])];unfold dl;rw[if_pos rfl,one_mul]
def BE (n c:Nat) (f:Nat->UInt8) (h:c<n):sx n (fun k=>cb (f k) (dl k c))=f c:=by
 rw[v_O n c _ h (fun j _ e=>by unfold dl;rw[if_neg e,yY])];unfold dl;rw[if_pos rfl,mul_one]
abbrev Ux:=Nat->Nat->UInt8
def mm (k:Nat) (A B:Ux):Ux:=fun r c=>sx k (fun j=>cb (A r j) (B j c))
def Dv (k l:Nat) (A B C:Ux) (r c:Nat):mm l (mm k A B) C r c=mm k A (mm l B C) r c:=by
 unfold mm;rw[l6 l (g:=fun j=>sx k (fun i=>cb (cb (A r i) (B i j)) (C j c))) (fun j _=>lr k _ _),NS];refine l6 k fun i _=>?_;rw[By];exact l6 l fun j _=>x_D _ _ _
def sE (k:Nat) {A A' B B':Ux} {r c:Nat} (g:∀j,j<k->A r j=A' r j) (h:∀j,j<k->B j c=B' j c):mm k A B r c=mm k A' B' r c :=
 l6 k fun j e=>by rw[g j e,h j e]
def Vp (n:Nat) (A X:Ux):Prop:=(∀r c,r<n->c<n->mm n A X r c=dl r c)/\(∀r c,r<n->c<n->mm n X A r c=dl r c)
def Sing (n:Nat) (A:Ux):Prop:=∃v:Nat->UInt8,(∃k,k<n/\v k≠0)/\∀r,r<n->sx n (fun k=>cb (A r k) (v k))=0
def en (m:List (List UInt8)) (r c:Nat):UInt8:=(m.getD r []).getD c 0
def gn (m:List (List UInt8)) (n k:Nat):Prop:=m.length=n/\∀r,r<n->(m.getD r []).length=k
def gn.row {m:List (List UInt8)} {n k r:Nat} (h:gn m n k) (e:r<n):(m.getD r []).length=k:=h.2 r e
def v_b (m:List (List UInt8)) (r:Nat) (x:List UInt8) (i:Nat) (g:r<m.length):(m.set r x).getD i []=if i=r then x else m.getD i []:=by
 rw[be,be,BA];by_cases e:r=i
 ·subst e;rw[if_pos rfl,if_pos rfl,if_pos g];rfl
 rw[if_neg e,if_neg (fun h=>e h.symm)]
def gn.set {m:List (List UInt8)} {n k r:Nat} (h:gn m n k) (g:r<n) {x:List UInt8} (j:x.length=k):gn (m.set r x) n k:=by
 refine ⟨by rw[iO];exact h.1,fun i e=>?_⟩;rw[v_b m r x i (by rw[h.1];exact g)];split
 ·exact j
 exact h.2 i e
def AB (m:List (List UInt8)) (r:Nat) (x:List UInt8) (i j:Nat) (e:r<m.length):en (m.set r x) i j=if i=r then x.getD j 0 else en m i j:=by
 unfold en;rw[v_b m r x i e];split<;>rfl
def Hn (m:List (List UInt8)) (a b:Nat):List (List UInt8):=(m.set a (m.getD b [])).set b (m.getD a [])
def w_X (m:List (List UInt8)) (c:Nat) (i:UInt8):List (List UInt8):=m.set c ((m.getD c []).map (cb i))
def Iz (x y:List UInt8) (f:UInt8):List UInt8:=List.zipWith (fun p q=>p ^^^ cb f q) x y
def Kg (m:List (List UInt8)) (r c:Nat) (f:UInt8):List (List UInt8):=m.set r (Iz (m.getD r []) (m.getD c []) f)
def vZ (x y:List UInt8) (f:UInt8) (h:x.length=y.length):(Iz x y f).length=x.length:=by
 unfold Iz;simp;omega
def Qr (x y:List UInt8) (f:UInt8) (j:Nat) (h:x.length=y.length):(Iz x y f).getD j 0=x.getD j 0 ^^^ cb f (y.getD j 0):=by
 unfold Iz;simp only[be,List.getElem?_zipWith];rcases Nat.lt_or_ge j x.length with e|e
 ·rw[cr e,cr (show j<y.length by omega)];rfl
 rw[pD e,pD (show y.length<=j by omega)];show (0:UInt8)=0 ^^^ cb f 0;rw[yY];decide
section
variable {m:List (List UInt8)} {n k:Nat}
def Dx (h:gn m n k) {a b:Nat} (ha:a<n) (hb:b<n):gn (Hn m a b) n k:=(h.set ha (h.2 b hb)).set hb (h.2 a ha)
def wP (h:gn m n k) {c:Nat} (e:c<n) (i:UInt8):gn (w_X m c i) n k:=h.set e (by rw[fW];exact h.2 c e)
def Nh (h:gn m n k) {r c:Nat} (e:r<n) (g:c<n) (f:UInt8):gn (Kg m r c f) n k:=h.set e (by rw[vZ _ _ _ ((h.2 r e).trans (h.2 c g).symm)];exact h.2 r e)
def qh (h:gn m n k) {a b:Nat} (ha:a<n) (hb:b<n) (i j:Nat):en (Hn m a b) i j=if i=b then en m a j else if i=a then en m b j else en m i j:=by
 unfold Hn;rw[AB _ _ _ _ _ (by rw[iO,h.1];exact hb),AB _ _ _ _ _ (by rw[h.1];exact ha)];rfl
def kQ (h:gn m n k) {c:Nat} (g:c<n) (f:UInt8) (i j:Nat):en (w_X m c f) i j=if i=c then cb f (en m c j) else en m i j:=by
 unfold w_X;rw[AB _ _ _ _ _ (by rw[h.1];exact g)];by_cases e:i=c
 ·rw[if_pos e,if_pos e]
  unfold en;simp only[be,gq]
  cases (m[c]?.getD [])[j]? with
  | none=>show (0:UInt8)=cb f 0;rw[yY]
  | some x=>rfl
 rw[if_neg e,if_neg e]
def sD (h:gn m n k) {r c:Nat} (e:r<n) (g:c<n) (f:UInt8) (i j:Nat):en (Kg m r c f) i j=if i=r then en m r j ^^^ cb f (en m c j) else en m i j:=by
 unfold Kg;rw[AB _ _ _ _ _ (by rw[h.1];exact e),Qr _ _ _ _ ((h.2 r e).trans (h.2 c g).symm)];rfl
end
inductive Steps (n:Nat):List (List UInt8)->List (List UInt8)->Prop
 | refl (m):Steps n m m
 | swap {m m' a b}:Steps n m m'->a<n->b<n->Steps n m (Hn m' a b)
 | scale {m m' c f}:Steps n m m'->c<n->f≠0->Steps n m (w_X m' c f)
 | add {m m' r c f}:Steps n m m'->r<n->c<n->r≠c->Steps n m (Kg m' r c f)
def Steps.shp {n k:Nat} {m i:List (List UInt8)} (h:Steps n m i) (hm:gn m n k):gn i n k:=by
 induction h with
 | refl=>exact hm
 | swap _ ha hb e=>exact Dx e ha hb
 | scale _ g _ e=>exact wP e g _
 | add _ j g _ e=>exact Nh e j g _
def Rf (n r:Nat):List UInt8:=(List.replicate n 0).set r 1
def uP (A:List (List UInt8)) (n:Nat):List (List UInt8):=(List.range n).map fun r=>A.getD r []++Rf n r
def z_am (n r:Nat):(Rf n r).length=n:=by simp[Rf]
def uc (n r j:Nat) (h:r<n) (g:j<n):(Rf n r).getD j 0=dl r j:=by
 unfold Rf dl;rw[be,BA];by_cases e:r=j
 ·subst e;rw[if_pos rfl,if_pos (by simpa using h),if_pos rfl];rfl
 rw[if_neg e,if_neg e,List.getElem?_replicate,if_pos g];rfl
def qy (A:List (List UInt8)) (n r:Nat) (e:r<n):(uP A n).getD r []=A.getD r []++Rf n r:=by
 unfold uP;rw[be,gq,pB e];rfl
def w_G {A:List (List UInt8)} {n:Nat} (h:gn A n n):gn (uP A n) n (2*n):=by
 refine ⟨by simp[uP],fun r e=>?_⟩;rw[qy A n r e,cd,z_am,h.2 r e];omega
def U_ {A:List (List UInt8)} {n:Nat} (h:gn A n n) (r j:Nat) (e:r<n) (g:j<n):en (uP A n) r j=en A r j:=by
 unfold en;rw[qy A n r e,be,A3 (by rw[h.2 r e];exact g),<-be]
def xG {A:List (List UInt8)} {n:Nat} (h:gn A n n) (r j:Nat) (e:r<n) (g:j<n):en (uP A n) r (n+j)=dl r j:=by
 unfold en;rw[qy A n r e,be,uS (by rw[h.2 r e];omega),h.2 r e,show n+j-n=j by omega,<-be];exact uc n r j e g
def iv (n:Nat) (m:List (List UInt8)):Ux:=fun r c=>en m r (n+c)
def rc (n:Nat) (x:Nat->UInt8) (A:Ux) (j:Nat):UInt8:=sx n (fun k=>cb (x k) (A k j))
def Dz (n:Nat) (f:UInt8) (x:Nat->UInt8) (A:Ux) (j:Nat):rc n (fun k=>cb f (x k)) A j=cb f (rc n x A j):=by
 unfold rc;rw[By];exact l6 n fun k _=>x_D _ _ _
def rc_add (n:Nat) (x y:Nat->UInt8) (A:Ux) (j:Nat):rc n (fun k=>x k ^^^ y k) A j=rc n x A j ^^^ rc n y A j:=by
 unfold rc;rw[<-nr];exact l6 n fun k _=>add_mul _ _ _
section
variable {m:List (List UInt8)} {n k:Nat}
def v_8 (h:gn m n k) {a b:Nat} (ha:a<n) (hb:b<n) (r:Nat):iv n (Hn m a b) r=if r=b then iv n m a else if r=a then iv n m b else iv n m r:=by
 funext j;unfold iv;rw[qh h ha hb];split
 ·rfl
 split<;>rfl
def tm (h:gn m n k) {c:Nat} (e:c<n) (f:UInt8) (r:Nat):iv n (w_X m c f) r=if r=c then (fun j=>cb f (iv n m c j)) else iv n m r:=by
 funext j;unfold iv;rw[kQ h e];split<;>rfl
def rI (h:gn m n k) {r c:Nat} (g:r<n) (e:c<n) (f:UInt8) (i:Nat):iv n (Kg m r c f) i=if i=r then (fun j=>iv n m r j ^^^ cb f (iv n m c j)) else iv n m i:=by
 funext j;unfold iv;rw[sD h g e];split<;>rfl
end
section
variable {A m:List (List UInt8)} {n:Nat}
def Steps.comb (h:Steps n (uP A n) m) (q:gn A n n):∀r j,r<n->j<n->en m r j=rc n (iv n m r) (en A) j:=by
 induction h with
 | refl =>
  intro r j l e;rw[U_ q r j l e];unfold rc;rw[l6 n (g:=fun k=>cb (dl r k) (en A k j)) (fun k hk=>by show cb (en (uP A n) r (n+k)) _=_;rw[xG q r k l hk])]
  exact (w_g n r (fun k=>en A k j) l).symm
 | swap p ha hb i =>
  intro r j l e;have hs:=p.shp (w_G q);rw[qh hs ha hb,v_8 hs ha hb];split
  ·exact i _ j ha e
  split
  ·exact i _ j hb e
  exact i r j l e
 | @scale t c f p o x i =>
  intro r j l e;have hs:=p.shp (w_G q);rw[kQ hs o,tm hs o];split
  ·rw[Dz,i c j o e]
  exact i r j l e
 | @add t u c f p s o v i =>
  intro r j l e;have hs:=p.shp (w_G q);rw[sD hs s o,rI hs s o];split
  ·rw[rc_add,Dz,i u j s e,i c j o e]
  exact i r j l e
def rv (n:Nat) (x v:Nat->UInt8):UInt8:=sx n (fun k=>cb (x k) (v k))
def ER (n:Nat) (f:UInt8) (x v:Nat->UInt8):rv n (fun k=>cb f (x k)) v=cb f (rv n x v):=by
 unfold rv;rw[By];exact l6 n fun k _=>x_D _ _ _
def rv_add (n:Nat) (x y v:Nat->UInt8):rv n (fun k=>x k ^^^ y k) v=rv n x v ^^^ rv n y v:=by
 unfold rv;rw[<-nr];exact l6 n fun k _=>add_mul _ _ _
def Steps.inj (h:Steps n (uP A n) m) (s:gn A n n) (v:Nat->UInt8):(∀r,r<n->rv n (iv n m r) v=0)->∀k,k<n->v k=0:=by
 induction h with
 | refl =>
  intro hv k hk;have:=hv k hk;unfold rv at this;rw[l6 n (g:=fun j=>cb (dl k j) (v j)) (fun j d=>by show cb (en (uP A n) k (n+j)) _=_;rw[xG s k j hk d])] at this
  rwa [w_g n k v hk] at this
 | @swap x a b l ha hb q =>
  intro hv;have hs:=l.shp (w_G s);refine q fun r p=>?_;by_cases e:r=b
  ·have:=hv a ha
   rw[v_8 hs ha hb] at this;by_cases i:a=b
   ·rw[if_pos i] at this;rw[e,<-i];exact this
   rw[if_neg i,if_pos rfl] at this;rw[e];exact this
  by_cases i:r=a
  ·have:=hv b hb
   rw[v_8 hs ha hb,if_pos rfl] at this;rw[i];exact this
  have:=hv r p;rw[v_8 hs ha hb,if_neg e,if_neg i] at this
  exact this
 | @scale x c f l o z q =>
  intro hv;have hs:=l.shp (w_G s);refine q fun r p=>?_;have:=hv r p;rw[tm hs o] at this;by_cases e:r=c
  ·rw[if_pos e,ER] at this
   rcases (z_ag _ _).1 this with h|h
   ·exact absurd h z
   rw[e];exact h
  rw[if_neg e] at this;exact this
 | @add x E c f l u o y q =>
  intro hv;have hs:=l.shp (w_G s);have t:=hv c o;rw[rI hs u o,if_neg (fun h=>y h.symm)] at t;refine q fun r p=>?_;have:=hv r p;rw[rI hs u o] at this;by_cases e:r=E
  ·rw[if_pos e,rv_add,ER,t,yY,xor_zero] at this
   rw[e];exact this
  rw[if_neg e] at this;exact this
def Steps.inverse (h:Steps n (uP A n) m) (p:gn A n n) (s:∀r j,r<n->j<n->en m r j=dl r j):Vp n (en A) (iv n m):=by
 have hl:∀r c,r<n->c<n->mm n (iv n m) (en A) r c=dl r c:=fun r c o l=>by rw[<-s r c o l,h.comb p r c o l];rfl
 refine ⟨fun r c o l=>?_,hl⟩;have u:∀r c,r<n->c<n->mm n (iv n m) (en A) r c=dl r c:=hl;have hz:=h.inj p (fun k=>mm n (en A) (iv n m) k c ^^^ dl k c) (fun i q=>?_) r o
 ·have hz:mm n (en A) (iv n m) r c ^^^ dl r c=0:=hz
  have:=congrArg (· ^^^ dl r c) hz;simp only[UInt8.xor_assoc,UInt8.xor_self,xor_zero,zero_xor] at this;exact this
 unfold rv;rw[l6 n (g:=fun k=>cb (iv n m i k) (mm n (en A) (iv n m) k c) ^^^ cb (iv n m i k) (dl k c)) (fun k _=>Nm _ _ _),nr,BE n c _ l];have e:sx n (fun k=>cb (iv n m i k) (mm n (en A) (iv n m) k c))=mm n (mm n (iv n m) (en A)) (iv n m) i c:=(Dv n n _ _ _ i c).symm;rw[e,sE n (A':=dl) (B':=iv n m) (fun j t=>hl i j q t) (fun _ _=>rfl)];show sx n (fun k=>cb (dl i k) (iv n m k c)) ^^^ _=0;rw[w_g n i (fun k=>iv n m k c) q,UInt8.xor_self]
def ker (m:List (List UInt8)) (c k:Nat):UInt8:=if k<c then en m k c else if k=c then 1 else 0
def ker_at (m:List (List UInt8)) (c:Nat):ker m c c=1:=by unfold ker;rw[if_neg (Nat.lt_irrefl c),if_pos rfl]
def Y0 (n c:Nat) (p:c<n) (o:∀r j,r<n->j<c->en m r j=dl r j) (hz:∀r,c<=r->r<n->en m r c=0) (r:Nat) (l:r<n) :
  sx n (fun k=>cb (en m r k) (ker m c k))=0:=by
 have split:∀k,k<n->cb (en m r k) (ker m c k)=(if k<c then cb (dl r k) (en m k c) else 0) ^^^ (if k=c then en m r c else 0):=by
  intro k hk;unfold ker;by_cases g:k<c
  ·rw[if_pos g,if_pos g,if_neg o_,xor_zero,o r k l g]
  rw[if_neg g,if_neg g,zero_xor];by_cases h:k=c
  ·rw[if_pos h,if_pos h,h,mul_one]
  rw[if_neg h,if_neg h,yY]
 rw[l6 n split,nr,v_O n c (fun k=>if k=c then en m r c else 0) p (fun j _ i=>if_neg i),if_pos rfl];by_cases q:r<c
 ·rw[v_O n r _ l (fun j _ i=>?_),if_pos q]
  ·unfold dl;rw[if_pos rfl,one_mul,UInt8.xor_self]
  split
  ·unfold dl;rw[if_neg (fun e=>i e.symm),zero_mul]
  rfl
 rw[hz r o_ l,xor_zero];refine n_ n fun k hk=>?_;split
 ·unfold dl;rw[if_neg o_,zero_mul]
 rfl
def rv_rc (n:Nat) (x:Nat->UInt8) (A:Ux) (v:Nat->UInt8):rv n x (fun j=>rv n (A j) v)=rv n (rc n x A) v:=by
 unfold rv rc;rw[l6 n (g:=fun j=>sx n (fun k=>cb (x j) (cb (A j k) (v k)))) (fun j _=>By n _ _),NS];refine l6 n fun k _=>?_;rw[lr];exact l6 n fun j _=>(x_D _ _ _).symm
def Steps.kern (h:Steps n (uP A n) m) (e:gn A n n) (v:Nat->UInt8) (hm:∀r,r<n->rv n (en m r) v=0):∀r,r<n->rv n (en A r) v=0:=by
 refine h.inj e (fun j=>rv n (en A j) v) (fun r g=>?_);rw[rv_rc,<-hm r g];unfold rv
 exact l6 n fun k hk=>by rw[h.comb e r k g hk]
def Steps.singular (h:Steps n (uP A n) m) (g:gn A n n) (c:Nat) (e:c<n) (i:∀r j,r<n->j<c->en m r j=dl r j) (hz:∀r,c<=r->r<n->en m r c=0):Sing n (en A) :=
 ⟨ker m c,⟨c,e,by rw[ker_at];decide⟩,h.kern g (ker m c) (Y0 n c e i hz)⟩
end
end Go.Proofs.YtdkheklakfbeeaaGreatDoor.GfM
end
namespace Go.Proofs.YtdkheklakfbeeaaGreatDoor
open Go.RowKit Tryz
variable {P:Program}{a b base c n:Nat}{e:TypeId}{m:List (List UInt8)}{v:Value}{w:W_}{x:Operand}{xs:List Value}
section
open GfM
def lN (w:W_) (v:Value) (m:List (List UInt8)):Prop :=
 ∃vs:List Value,vs.length=m.length/\b_ w v vs/\∀r,r<m.length->b_ w (vs.getD r undef) (bv (m.getD r []))
section
variable {w':W_} 
def lN.below (h:lN w v m) (hb:Below w.heap.size w w'):lN w' v m:=by
 obtain ⟨vs,e,g,i⟩:=h;exact ⟨vs,e,g.below hb,fun r j=>(i r j).below hb⟩
def lN.len (h:lN w v m):m.length<=9223372036854775807:=by
 obtain ⟨vs,g,e,i⟩:=h;have:=e.len;omega
def lN.shape (h:lN w v m):∃A c,v=.slice A m.length c/\m.length<=c/\c<=9223372036854775807 /\
  (0<m.length->∃b off,A=some ⟨b,off,none⟩/\∀r,r<m.length->∃x,w.cell? ⟨b,off+r,none⟩=some x/\b_ w x (bv (m.getD r []))):=by
 obtain ⟨vs,i,⟨A,c,rfl,n,g,e⟩,j⟩:=h;refine ⟨A,c,by rw[i],o_,g,fun hp=>?_⟩;obtain ⟨b,off,rfl,k⟩:=e o_;refine ⟨b,off,rfl,fun r l=>⟨vs.getD r undef,?_,j r l⟩⟩;rw[k r o_,cr o_,be,cr o_];rfl
def b_.shape {l:List UInt8} (h:b_ w v (bv l)):∃A c,v=.slice A l.length c/\l.length<=c/\c<=9223372036854775807 /\
  (0<l.length->∃b off,A=some ⟨b,off,none⟩/\∀j,j<l.length->w.cell? ⟨b,off+j,none⟩=some (.int .u8 ((l.getD j 0).toNat:Int))):=by
 obtain ⟨A,c,rfl,g,i,k⟩:=h;rw[og] at *;refine ⟨A,c,rfl,g,i,fun hp=>?_⟩;obtain ⟨b,off,rfl,m⟩:=k hp;exact ⟨b,off,rfl,fun j e=>by rw[m j e,j5 l j e]⟩
end
def uI:Nat->(Nat->Bool)->Nat->Int
 | 0,_,_=>-1
 | k+1,p,i=>if p i=true then (i:Int) else uI k p (i+1)
def z_af (n i:Nat) (p:Nat->Bool) (h:i<n) (hp:p i=false):uI (n-i) p i=uI (n-(i+1)) p (i+1):=by
 obtain ⟨k,hk⟩:∃k,n-i=k+1:=⟨n-i-1,o_⟩;rw[hk,show n-(i+1)=k by omega];show (if p i=true then _ else _)=_;rw[if_neg (by rw[hp];decide)]
def z_at (n i:Nat) (p:Nat->Bool) (h:i<n) (hp:p i=true):uI (n-i) p i=(i:Int):=by
 obtain ⟨k,hk⟩:∃k,n-i=k+1:=⟨n-i-1,o_⟩;rw[hk];show (if p i=true then _ else _)=_;rw[if_pos hp]
def z_aj (k:Nat) (p:Nat->Bool):∀i,(uI k p i=-1/\∀j,i<=j->j<i+k->p j=false)\/(∃j:Nat,i<=j/\j<i+k/\uI k p i=(j:Int)/\p j=true):=by
 induction k with
 | zero=>intro i;exact .inl ⟨rfl,fun j g l=>o_⟩
 | succ k o =>
  intro i;by_cases h:p i=true
  ·exact .inr ⟨i,o_,o_,by show (if p i=true then _ else _)=_;rw[if_pos h],h⟩
  have e:uI (k+1) p i=uI k p (i+1):=by show (if p i=true then _ else _)=_;rw[if_neg h]
  rw[e];rcases o (i+1) with ⟨g,l⟩|⟨j,g,l,m,n⟩
  ·refine .inl ⟨g,fun j q r=>?_⟩
   by_cases e:j=i
   ·subst e;simpa using h
   exact l j o_ o_
  exact .inr ⟨j,o_,o_,m,n⟩
def Ls (w:W_) (v:Value) (xs:List Value) (hv:b_ w v xs) (a:Addr) (p:Nat->Bool)
  (hF:∀r,r<xs.length->Cl 250 #[xs.getD r undef,.pointer (some a)] w fun e w'=>e=.returned (.bool (p r))/\w=w') :
  Cl 215 #[v,.func (.func 250) #[] #[.pointer (some a)]] w fun e w'=>e=.returned (.int .i64 (uI xs.length p 0))/\w=w':=by
 obtain ⟨A,c,rfl,d,E,g⟩:=hv;have u:=Zz g;clear g;have y:=Zz hF;clear hF;obtain ⟨n,hn⟩:∃n,xs.length=n:=⟨_,rfl⟩;rw[hn] at d ⊢;have z:=Zz hn;clear hn;go_enter func215,ntmps215;go_wp2
 go_loop [5,8] (fun _ t=>∃i:Nat,i<=n/\t=.int .i64 i/\uI (n-i) p i=uI n p 0) (fun _ t=>n-(intOf t).toNat)
 case atStart=>exact ⟨0,o_,rfl,s_⟩
 case round =>
  obtain ⟨i,G,rfl,hg⟩:=hrel;have m:=Zz hg;clear hg;by_cases q:i<n
  ·have k:i<xs.length:=by rw[z.o];exact q
   obtain ⟨b,off,rfl,g⟩:=u.o o_;have f:=g i k;rw[cr k] at f;have l:=y.o i k;rw[be,cr k] at l;simp only[Option.getD_some] at l;generalize xs[i]=x at *;have j:=Zz l;clear l g;by_cases hp:p i=true
   ·have h:=z_at n i p q hp
    have o:=Zz h;clear h;rw[hp] at j;clear hp;go_wp2_with fail;refine (j.o).mono ?_;rintro e w' ⟨rfl,rfl⟩;go_wp2;go_ret;exact ⟨by rw[<-m.o,o.o];rfl,rfl⟩
   have s:p i=false:=by simpa using hp
   have h:=z_af n i p q s;have o:=Zz h;clear h;rw[s] at j;clear hp s;go_wp2_with fail;refine (j.o).mono ?_;rintro e w' ⟨rfl,rfl⟩;go_wp2
   go_round
   case rel=>exact ⟨i+1,o_,by go_num,by rw[<-o.o];exact m.o⟩
   case measure=>simp[intOf];omega
  obtain rfl:i=n:=o_;go_wp2;go_ret;refine ⟨?_,rfl⟩;rw[<-m.o,Nat.sub_self];rfl
def vT (w:W_) (v:Value) (xs:List Value) (hv:b_ w v xs) (a:Addr) (p:Nat->Bool)
  (hF:∀r,r<xs.length->Cl 250 #[xs.getD r undef,.pointer (some a)] w fun e w'=>e=.returned (.bool (p r))/\w=w') :
  Cl 249 #[v,.func (.func 250) #[] #[.pointer (some a)]] w fun e w'=>e=.returned (.bool (decide (0<=uI xs.length p 0)))/\w=w':=by
 have g:=Ls w v xs hv a p hF;generalize uI xs.length p 0=z at *;have h:=Zz g;clear g hF hv;go_enter func249,ntmps249;go_wp2_with fail;refine (h.o).mono ?_;rintro e w' ⟨rfl,rfl⟩;go_wp2
 all_goals (go_ret;exact ⟨rfl,rfl⟩)
def Aq (w:W_) (v:Value) (xs:List Value) (hv:b_ w v xs) (a:Addr) (p:Nat->Bool)
  (hF:∀r,r<xs.length->Cl 216 #[xs.getD r undef,.pointer (some a)] w fun e w'=>e=.returned (.bool (p r))/\w=w') :
  Cl 215 #[v,.func (.func 216) #[] #[.pointer (some a)]] w fun e w'=>e=.returned (.int .i64 (uI xs.length p 0))/\w=w':=by
 obtain ⟨A,c,rfl,d,E,g⟩:=hv;have u:=Zz g;clear g;have y:=Zz hF;clear hF;obtain ⟨n,hn⟩:∃n,xs.length=n:=⟨_,rfl⟩;rw[hn] at d ⊢;have z:=Zz hn;clear hn;go_enter func215,ntmps215;go_wp2
 go_loop [5,8] (fun _ t=>∃i:Nat,i<=n/\t=.int .i64 i/\uI (n-i) p i=uI n p 0) (fun _ t=>n-(intOf t).toNat)
 case atStart=>exact ⟨0,o_,rfl,s_⟩
 case round =>
  obtain ⟨i,G,rfl,hg⟩:=hrel;have m:=Zz hg;clear hg;by_cases q:i<n
  ·have k:i<xs.length:=by rw[z.o];exact q
   obtain ⟨b,off,rfl,g⟩:=u.o o_;have f:=g i k;rw[cr k] at f;have l:=y.o i k;rw[be,cr k] at l;simp only[Option.getD_some] at l;generalize xs[i]=x at *;have j:=Zz l;clear l g;by_cases hp:p i=true
   ·have h:=z_at n i p q hp
    have o:=Zz h;clear h;rw[hp] at j;clear hp;go_wp2_with fail;refine (j.o).mono ?_;rintro e w' ⟨rfl,rfl⟩;go_wp2;go_ret;exact ⟨by rw[<-m.o,o.o];rfl,rfl⟩
   have s:p i=false:=by simpa using hp
   have h:=z_af n i p q s;have o:=Zz h;clear h;rw[s] at j;clear hp s;go_wp2_with fail;refine (j.o).mono ?_;rintro e w' ⟨rfl,rfl⟩;go_wp2
   go_round
   case rel=>exact ⟨i+1,o_,by go_num,by rw[<-o.o];exact m.o⟩
   case measure=>simp[intOf];omega
  obtain rfl:i=n:=o_;go_wp2;go_ret;refine ⟨?_,rfl⟩;rw[<-m.o,Nat.sub_self];rfl
end
section
open GfM
def v_F (n:Int) (g:1<=n) (h:n<=16) (w:W_):Cl 247 #[.int .i64 n] w fun e w'=>e=.returned (.bool true)/\w=w':=by
 go_enter func247,ntmps247;go_wp2;go_ret;exact ⟨rfl,rfl⟩
def Uy (n:Int) (h:n<1\/16<n) (w:W_):Cl 247 #[.int .i64 n] w fun e w'=>e=.returned (.bool false)/\w=w':=by
 rcases h with h|h
 ·have g:decide (1<=n)=false:=by simp;omega
  go_enter func247,ntmps247;go_wp2
  all_goals (go_ret;exact ⟨rfl,rfl⟩)
 have g:decide (1<=n)=true:=by simp;omega
 have i:decide (n<=16)=false:=by simp;omega
 go_enter func247,ntmps247;go_wp2
 all_goals (go_ret;exact ⟨rfl,rfl⟩)
def qW (m:List (List UInt8)):Bool:=decide (1<=m.length/\m.length<=16/\1<=(m.getD 0 []).length/\(m.getD 0 []).length<=16/\∀r,r<m.length->(m.getD r []).length=(m.getD 0 []).length)
def v_a (m:List (List UInt8)):qW m=true↔1<=m.length/\m.length<=16/\1<=(m.getD 0 []).length/\(m.getD 0 []).length<=16/\gn m m.length (m.getD 0 []).length:=by
 unfold qW gn;rw[decide_eq_true_iff];simp only[true_and]
def MW (h:¬(1<=m.length/\m.length<=16/\1<=(m.getD 0 []).length/\(m.getD 0 []).length<=16)):qW m=false:=by
 unfold qW;rw[decide_eq_false_iff_not];rintro ⟨e,g,i,j,_⟩;exact h ⟨e,g,i,j⟩
def O9 (w:W_) (m:List (List UInt8)) (v:Value) (a:Addr) (hv:lN w v m) (ha:w.cell? a=some v) (hm:0<m.length) (x:Value) (l:List UInt8) (o:b_ w x (bv l)) :
  Cl 250 #[x,.pointer (some a)] w fun e w'=>e=.returned (.bool (decide (l.length≠(m.getD 0 []).length)))/\w=w':=by
 obtain ⟨A,c,rfl,t,u,g⟩:=hv.shape;obtain ⟨b,off,rfl,i⟩:=g hm;obtain ⟨d,q,p⟩:=i 0 hm;obtain ⟨r,y,rfl,_,_,_⟩:=p.shape;obtain ⟨s,z,rfl,_,_,_⟩:=o.shape;clear p i g o hv;rw[Nat.add_zero] at q;generalize (m.getD 0 []).length=k at *;generalize m.length=n at *;generalize l.length=j at *;by_cases h:j=k
 ·have hb:(((j:Nat):Int) != ((k:Nat):Int))=false:=by rw[h];simp
  have e:decide (j≠k)=false:=by simpa using h
  rw[e];clear e h;go_enter func250,ntmps250;go_wp2;go_ret;exact ⟨rfl,rfl⟩
 have hb:(((j:Nat):Int) != ((k:Nat):Int))=true:=by rw[bne_iff_ne];omega
 have e:decide (j≠k)=true:=by simpa using h
 rw[e];clear e h;go_enter func250,ntmps250;go_wp2;go_ret;exact ⟨rfl,rfl⟩
def Ds (w:W_) (v:Value) (m:List (List UInt8)) (hv:lN w v m) :
  Cl 213 #[v] w fun e w'=>e=.returned (.bool (qW m))/\Below w.heap.size w w':=by
 have l:=hv;obtain ⟨A,c,rfl,V,X,i⟩:=hv.shape;by_cases s:1<=m.length/\m.length<=16
 ·obtain ⟨I,E⟩:=s
  obtain ⟨b,off,rfl,h⟩:=i o_;obtain ⟨D,a,y⟩:=h 0 o_;obtain ⟨T,Y,rfl,C,Z,_⟩:=y.shape;rw[Nat.add_zero] at a;have B:b<w.heap.size:=fV w _ a;by_cases t:1<=(m.getD 0 []).length/\(m.getD 0 []).length<=16
  ·obtain ⟨J,M⟩:=t
   have x:∀o,lN (w.alloc o) (.slice (some ⟨b,off,none⟩) m.length c) m:=fun o=>l.below ((Below.refl _ _).alloc (bS _) o)
   have z:∀W,W=w.alloc (.cells #[.slice (some ⟨b,off,none⟩) m.length c] 251) ->
     Cl 249 #[.slice (some ⟨b,off,none⟩) m.length c,.func (.func 250) #[] #[.pointer (some ⟨w.heap.size,0,none⟩)]] W
      fun e w'=>e=.returned (.bool (!qW m))/\W=w':=by
    rintro W rfl;have hb:=ab.new w 251 #[Value.slice (some ⟨b,off,none⟩) m.length c];obtain ⟨vs,hl,O,f⟩:=x (.cells #[.slice (some ⟨b,off,none⟩) m.length c] 251);have hM:=x (.cells #[.slice (some ⟨b,off,none⟩) m.length c] 251)
    have N:=vT _ _ vs O ⟨w.heap.size,0,none⟩ (fun r=>decide ((m.getD r []).length≠(m.getD 0 []).length))
     (fun r h=>O9 _ m _ _ hM (hb.cell 0) o_ _ _ (f r o_))
    refine N.mono ?_;rintro e w' ⟨rfl,rfl⟩;refine ⟨?_,rfl⟩;congr 2;have hs:=z_aj vs.length (fun r=>decide ((m.getD r []).length≠(m.getD 0 []).length)) 0;rw[jm,hl] at hs;rw[hl];rcases hs with ⟨P,q⟩|⟨j,_,q,Q,R⟩
    ·rw[P]
     have hg:qW m=true:=by
      unfold qW;rw[decide_eq_true_iff];refine ⟨I,E,J,M,fun r h=>?_⟩;have:=q r o_ h;simpa using this
     rw[hg];decide
    rw[Q]
    have hg:qW m=false:=by
     unfold qW;rw[decide_eq_false_iff_not];rintro ⟨_,_,_,_,S⟩;exact (of_decide_eq_true R) (S j q)
    rw[hg];have:(0:Int)<=(j:Int):=o_;simp
   have d:=Zz z;clear z x h i y hv l;generalize hg:qW m=G at *;have U:=Zz hg;clear hg;generalize (m.getD 0 []).length=k at *;generalize m.length=n at *;go_enter func213,ntmps213;go_wp2_with fail;refine (v_F _ o_ o_ _).mono ?_;rintro e w' ⟨rfl,rfl⟩;go_wp2_with fail;refine (v_F _ o_ o_ _).mono ?_;rintro e w' ⟨rfl,rfl⟩;go_wp2_with fail;refine (d.o _ rfl).mono ?_;rintro e w' ⟨rfl,rfl⟩;go_wp2;go_ret;exact ⟨rfl,(Below.refl _ _).alloc (bS _) _⟩
  have hg:=MW (m:=m) (by rintro ⟨_,_,g,u⟩;exact t ⟨g,u⟩);rw[hg];have g:(((m.getD 0 []).length:Nat):Int)<1\/16<(((m.getD 0 []).length:Nat):Int):=o_;have p:=Zz g;clear hg t h i y hv l g;generalize (m.getD 0 []).length=k at *;generalize m.length=n at *;go_enter func213,ntmps213;go_wp2_with fail;refine (v_F _ o_ o_ _).mono ?_;rintro e w' ⟨rfl,rfl⟩;go_wp2_with fail;refine (Uy _ p.o _).mono ?_;rintro e w' ⟨rfl,rfl⟩;go_wp2;go_ret;exact ⟨rfl,(Below.refl _ _).alloc (bS _) _⟩
 have hg:=MW (m:=m) (by rintro ⟨g,u,_,_⟩;exact s ⟨g,u⟩);rw[hg];have g:((m.length:Nat):Int)<1\/16<((m.length:Nat):Int):=o_;have p:=Zz g;clear hg s i hv l g;generalize m.length=n at *;go_enter func213,ntmps213;go_wp2_with fail;refine (Uy _ p.o _).mono ?_;rintro e w' ⟨rfl,rfl⟩;go_wp2;go_ret;exact ⟨rfl,(Below.refl _ _).alloc (bS _) _⟩
end
section
open GfM
def uT (n i:Nat) (row:Nat->List UInt8) (e g:Nat->Nat):Array Value :=
 ((List.range n).map fun r=>if r<i then Value.slice (some ⟨e r,0,none⟩) (row r).length (g r) else .slice none 0 0).toArray
def KZ (n i:Nat) (row:Nat->List UInt8) (e g:Nat->Nat):(uT n i row e g).size=n:=by simp[uT]
def Sx (n i:Nat) (row:Nat->List UInt8) (e g:Nat->Nat) (r:Nat) (h:r<n) :
  (uT n i row e g)[r]?=some (if r<i then Value.slice (some ⟨e r,0,none⟩) (row r).length (g r) else .slice none 0 0):=by
 simp[uT,h]
def OM (w:W_) (base G n i:Nat) (row:Nat->List UInt8):Prop :=
 base<=G/\i<=n/\∃e g:Nat->Nat,ab w G 105 (uT n i row e g)/\(∀r,r<i->base<=e r/\ev w (e r) (row r) (g r))/\(∀r s,r<i->s<i->e r=e s->r=s)
def i8 (row:Nat->List UInt8) (r:Nat) (l:List UInt8):Nat->List UInt8:=fun s=>if s=r then l else row s
def Jc (row:Nat->List UInt8) (r:Nat) (l:List UInt8):i8 row r l r=l:=if_pos rfl
def WG (row:Nat->List UInt8) {r s:Nat} (l:List UInt8) (h:s≠r):i8 row r l s=row s:=if_neg h
section
variable {w':W_} {G i:Nat} {row:Nat->List UInt8}
def OM.lt (h:OM w base G n i row):G<w.heap.size:=by
 obtain ⟨_,_,e,g,hb,_⟩:=h;exact hb.lt
def OM.frozen (h:OM w base G n i row) (r:Nat):w.frozen? ⟨G,r,none⟩=false:=by
 obtain ⟨_,_,e,g,hb,_⟩:=h;exact hb.frozen r
def OM.nil_at (h:OM w base G n i row) (r:Nat) (e:r<n) (j:i<=r):w.cell? ⟨G,r,none⟩=some (.slice none 0 0):=by
 obtain ⟨_,_,g,k,hb,_⟩:=h;rw[hb.cell,Sx _ _ _ _ _ _ e,if_neg o_]
def OM.below (h:OM w base G n i row) (hb:Below w.heap.size w w'):OM w' base G n i row:=by
 obtain ⟨l,m,k,p,j,e,o⟩:=h;exact ⟨l,m,k,p,j.below hb j.lt,fun r g=>⟨(e r g).1,(e r g).2.below hb (e r g).2.lt⟩,o⟩
def OM.drewN (h:OM w base G n i row) (k:Nat):OM (w.drewN k) base G n i row:=h
def OM.drew (h:OM w base G n i row):OM w.drew base G n i row:=h
def OM.alloc (h:OM w base G n i row) (o:Obj):OM (w.alloc o) base G n i row:=h.below ((Below.refl _ _).alloc (bS _) o)
def OM.congr (h:OM w base G n i row) {row':Nat->List UInt8} (e:∀r,r<i->row r=row' r):OM w base G n i row':=by
 obtain ⟨m,o,j,k,q,l,p⟩:=h;refine ⟨m,o,j,k,?_,fun r g=>⟨(l r g).1,e r g▸(l r g).2⟩,p⟩
 have:uT n i row j k=uT n i row' j k:=by
  unfold uT;congr 1;apply List.map_congr_left;intro r _;by_cases g:r<i
  ·rw[if_pos g,if_pos g,e r g]
  rw[if_neg g,if_neg g]
 rwa [<-this]
def OM.elem (h:OM w base G n i row) (r c:Nat) (q:r<i) (f:c<(row r).length):∃g k,
  w.cell? ⟨G,r,none⟩=some (.slice (some ⟨g,0,none⟩) (row r).length k)/\w.cell? ⟨g,c,none⟩=some (.int .u8 (((row r).getD c 0).toNat:Int))/\w.frozen? ⟨g,c,none⟩=false /\
  base<=g/\g<w.heap.size/\(row r).length<=k/\(∀b t cs,(5:Nat)≠t->ab w b t cs->b≠g)/\(∀u:UInt8,OM (w.setCell ⟨g,c,none⟩ (.int .u8 u.toNat)) base G n i (i8 row r ((row r).set c u))):=by
 obtain ⟨a,d,l,m,o,p,v⟩:=h;obtain ⟨hb,j⟩:=p r q;refine ⟨l r,m r,?_,j.cell c f,j.frozen c (by have:=j.1;omega),hb,j.lt,j.1,fun b t cs y x e=>ev.ne_ j (e▸x) y rfl,fun u=>?_⟩
 ·rw[o.cell,Sx _ _ _ _ _ _ o_,if_pos q]
 refine ⟨a,d,l,m,?_,fun s hs=>⟨(p s hs).1,?_⟩,v⟩
 ·have e:uT n i (i8 row r ((row r).set c u)) l m=uT n i row l m:=by
   unfold uT;congr 1;apply List.map_congr_left;intro s _;by_cases hs:s=r
   ·subst hs;rw[Jc,iO]
   rw[WG _ _ hs]
  rw[e];exact o.far (fun e=>ev.ne_ j o d_ e.symm) _
 by_cases e:s=r
 ·subst e;rw[Jc];exact j.set_ c u
 rw[WG _ _ e];exact (p s hs).2.far (fun z=>e (v s r hs q z)) _
def OM.rowAt (h:OM w base G n i row) (r:Nat) (e:r<i):∃g k,w.cell? ⟨G,r,none⟩=some (.slice (some ⟨g,0,none⟩) (row r).length k)/\base<=g/\g<w.heap.size/\ev w g (row r) k:=by
 obtain ⟨p,q,l,o,m,j,s⟩:=h;refine ⟨l r,o r,?_,(j r e).1,(j r e).2.lt,(j r e).2⟩;rw[m.cell,Sx _ _ _ _ _ _ o_,if_pos e]
def OM.put (I:OM w base G n i row) (hb:Below w.heap.size w w') {r:Nat} (N:r<=i) (Q:r<n) {g k:Nat} {l:List UInt8} (c:ev w' g l k) (hg:w.heap.size<=g) :
  OM (w'.setCell ⟨G,r,none⟩ (.slice (some ⟨g,0,none⟩) l.length k)) base G n (max i (r+1)) (i8 row r l):=by
 obtain ⟨J,P,m,v,y,z,M⟩:=I;have hG:=y.lt
 have d:∀s,s<i->m s≠g:=fun s hs e=>by have:=(z s hs).2.lt;omega
 have o:=y.below hb hG;refine ⟨J,o_,fun s=>if s=r then g else m s,fun s=>if s=r then k else v s,?_,fun s hs=>?_,fun a b ha O e=>?_⟩
 ·have E:=o.set_ r (.slice (some ⟨g,0,none⟩) l.length k)
  have e:(uT n i row m v).setIfInBounds r (.slice (some ⟨g,0,none⟩) l.length k)=uT n (max i (r+1)) (i8 row r l) (fun s=>if s=r then g else m s) (fun s=>if s=r then k else v s):=by
   apply Array.ext_getElem?;intro s;rw[Array.getElem?_setIfInBounds];by_cases u:s<n
   ·rw[Sx _ _ _ _ _ _ u,Sx _ _ _ _ _ _ u]
    by_cases e:r=s
    ·subst e
     rw[if_pos rfl,if_pos (by rw[KZ];exact u),if_pos o_,Jc,if_pos rfl,if_pos rfl]
    rw[if_neg e];by_cases f:s<i
    ·rw[if_pos f,if_pos o_,WG _ _ (fun h=>e h.symm),if_neg (fun h=>e h.symm),if_neg (fun h=>e h.symm)]
    rw[if_neg f,if_neg o_]
   rw[if_neg o_,Array.getElem?_eq_none (by rw[KZ];omega),Array.getElem?_eq_none (by rw[KZ];omega)]
  rwa [e] at E
 ·by_cases e:s=r
  ·subst e
   simp only[if_true];rw[Jc];exact ⟨o_,c.far (fun q=>ev.ne_ c o d_ q) _⟩
  simp only[if_neg e];rw[WG _ _ e];have p:=z s o_;have x:=p.2.below hb p.2.lt;exact ⟨p.1,x.far (fun q=>ev.ne_ x o d_ q) _⟩
 by_cases t:a=r
 ·by_cases j:b=r
  ·omega
  simp only[if_pos t,if_neg j] at e;exact absurd e.symm (d b o_)
 by_cases j:b=r
 ·simp only[if_neg t,if_pos j] at e
  exact absurd e (d a o_)
 simp only[if_neg t,if_neg j] at e;exact M a b o_ o_ e
def OM.swap (h:OM w base G n i row) (ha:a<i) (hb:b<i):∃I N J O,
  w.cell? ⟨G,a,none⟩=some (.slice (some ⟨I,0,none⟩) (row a).length N)/\w.cell? ⟨G,b,none⟩=some (.slice (some ⟨J,0,none⟩) (row b).length O) /\
  OM ((w.setCell ⟨G,a,none⟩ (.slice (some ⟨J,0,none⟩) (row b).length O)).setCell ⟨G,b,none⟩ (.slice (some ⟨I,0,none⟩) (row a).length N)) base G n i (i8 (i8 row a (row b)) b (row a)):=by
 obtain ⟨o,p,g,j,x,v,S⟩:=h
 have M:∀r,r<i->w.cell? ⟨G,r,none⟩=some (.slice (some ⟨g r,0,none⟩) (row r).length (j r)):=fun r y=>by rw[x.cell,Sx _ _ _ _ _ _ o_,if_pos y]
 refine ⟨g a,j a,g b,j b,M a ha,M b hb,o,p,fun s=>if s=b then g a else if s=a then g b else g s,fun s=>if s=b then j a else if s=a then j b else j s,?_,fun s hs=>?_,fun r s y hs e=>?_⟩
 ·have P:=(x.set_ a (.slice (some ⟨g b,0,none⟩) (row b).length (j b))).set_ b (.slice (some ⟨g a,0,none⟩) (row a).length (j a))
  have e:((uT n i row g j).setIfInBounds a (.slice (some ⟨g b,0,none⟩) (row b).length (j b))).setIfInBounds b (.slice (some ⟨g a,0,none⟩) (row a).length (j a)) =
    uT n i (i8 (i8 row a (row b)) b (row a)) (fun s=>if s=b then g a else if s=a then g b else g s) (fun s=>if s=b then j a else if s=a then j b else j s):=by
   apply Array.ext_getElem?;intro s;rw[Array.getElem?_setIfInBounds,Array.getElem?_setIfInBounds,Array.size_setIfInBounds];by_cases u:s<n
   ·rw[Sx _ _ _ _ _ _ u,Sx _ _ _ _ _ _ u]
    by_cases k:b=s
    ·subst k
     rw[if_pos rfl,if_pos (by rw[KZ];exact u),if_pos hb,Jc,if_pos rfl,if_pos rfl]
    have q:¬s=b:=fun h=>k h.symm;by_cases l:a=s
    ·subst l
     simp only[k,q,if_true,if_false,KZ,u,ha,WG _ _ q,Jc]
    have c:¬s=a:=fun h=>l h.symm;simp only[k,l,q,c,if_false,WG _ _ q,WG _ _ c]
   rw[if_neg o_,if_neg o_,Array.getElem?_eq_none (by rw[KZ];omega),Array.getElem?_eq_none (by rw[KZ];omega)]
  rwa [e] at P
 ·have m:∀t,t<i->∀u1 u2:Value,ev ((w.setCell ⟨G,a,none⟩ u1).setCell ⟨G,b,none⟩ u2) (g t) (row t) (j t):=fun t z u1 u2=>by
   have d:=(v t z).2;have f:=ev.ne_ d x d_;exact (d.far f u1).far f u2
  by_cases k:s=b
  ·subst k
   simp only[if_true];rw[Jc];exact ⟨(v a ha).1,m a ha _ _⟩
  simp only[if_neg k];rw[WG _ _ k];by_cases l:s=a
  ·subst l
   simp only[if_true];rw[Jc];exact ⟨(v b hb).1,m b hb _ _⟩
  simp only[if_neg l];rw[WG _ _ l];exact ⟨(v s hs).1,m s hs _ _⟩
 have key:∀t,(if t=b then g a else if t=a then g b else g t)=g (if t=b then a else if t=a then b else t):=by
  intro t;by_cases o:t=b
  ·rw[if_pos o,if_pos o]
  rw[if_neg o,if_neg o];by_cases p:t=a
  ·rw[if_pos p,if_pos p]
  rw[if_neg p,if_neg p]
 have Q:g (if r=b then a else if r=a then b else r)=g (if s=b then a else if s=a then b else s):=by
  rw[<-key,<-key];exact e
 have E:∀t,t<i->(if t=b then a else if t=a then b else t)<i:=by
  intro t z;split
  ·exact ha
  split
  ·exact hb
  exact z
 have R:=S _ _ (E r y) (E s hs) Q;revert R;split<;>split<;>(try split)<;>(try split)<;>omega
def OM.reads (h:OM w base G n n row) (hn:n<=9223372036854775807) (m:List (List UInt8)) (hm:m.length=n) (e:∀r,r<n->row r=m.getD r []):lN w (.slice (some ⟨G,0,none⟩) n n) m:=by
 obtain ⟨p,q,i,o,k,l,s⟩:=h;refine ⟨(uT n n row i o).toList,by rw[Array.length_toList,KZ,hm],?_,fun r u=>?_⟩
 ·refine ⟨some ⟨G,0,none⟩,n,by rw[Array.length_toList,KZ],by rw[Array.length_toList,KZ];exact bS _,hn,fun _=>⟨G,0,rfl,fun j t=>?_⟩⟩
  rw[jm,k.cell];simp
 have g:r<n:=o_;rw[be,Array.getElem?_toList,Sx _ _ _ _ _ _ g,if_pos g];have:=(l r g).2.reads;rw[e r g] at this ⊢;exact this
end
def lN.el {o:Nat} (h:lN w (.slice (some ⟨b,o,none⟩) n c) m) (r j:Nat) (a:r<m.length) (z:j<(m.getD r []).length):∃e i g,
  w.cell? ⟨b,o+r,none⟩=some (.slice (some ⟨e,i,none⟩) (m.getD r []).length g)/\(m.getD r []).length<=g/\w.cell? ⟨e,i+j,none⟩=some (.int .u8 ((en m r j).toNat:Int)):=by
 obtain ⟨A,G,y,_,_,v⟩:=h.shape;injection y with u J M;subst u;obtain ⟨E,o',k,p⟩:=v o_;injection k with k;injection k with q s I;subst q s;obtain ⟨x,d,hR⟩:=p r a;obtain ⟨f,g,rfl,hl,_,t⟩:=hR.shape;obtain ⟨e,i,rfl,l⟩:=t o_;exact ⟨e,i,g,d,hl,l j z⟩
def lN.at_ (h:lN w v m) (hm:0<m.length):∃b o c,v=.slice (some ⟨b,o,none⟩) m.length c/\m.length<=c/\b<w.heap.size:=by
 obtain ⟨A,c,rfl,g,_,i⟩:=h.shape;obtain ⟨b,o,rfl,e⟩:=i hm;obtain ⟨x,j,_⟩:=e 0 hm;exact ⟨b,o,c,rfl,g,fV w _ j⟩
def lN.rowAt {o:Nat} (h:lN w (.slice (some ⟨b,o,none⟩) n c) m) (r:Nat) (t:r<m.length):∃g e,
  w.cell? ⟨b,o+r,none⟩=some (.slice g (m.getD r []).length e)/\(m.getD r []).length<=e/\b_ w (.slice g (m.getD r []).length e) (bv (m.getD r [])):=by
 obtain ⟨A,y,s,_,_,q⟩:=h.shape;injection s with p d f;subst p;obtain ⟨v,o',i,j⟩:=q o_;injection i with i;injection i with k l z;subst k l;obtain ⟨x,u,hR⟩:=j r t;obtain ⟨g,e,rfl,hl,_,a⟩:=hR.shape;exact ⟨g,e,u,hl,hR⟩
end
section
open GfM
def CW:(prog.info? 105).map (fun i=>(i.zero,i.size,i.bytes))=some (some (.slice none 0 0),1,24):=k_
def sA (m:Nat) (hm:m<=140737488355328):∀W:W_,(Instr.makeSlice 105 (.int .i64 m) (.int .i64 m)).run prog W=.ok (.slice (some ⟨W.heap.size,0,none⟩) m m) (W.alloc (.cells (madeCells #[.int .u8 0] m) 5)):=by
 intro W;exact run_make_row' 105 5 (.int .u8 0) 1 underlying105 nM rfl .i64 .i64 m o_ o_ W
def Cq (m:Nat) (hm:m<=1000):∀W:W_,(Instr.makeSlice 251 (.int .i64 m) (.int .i64 m)).run prog W=.ok (.slice (some ⟨W.heap.size,0,none⟩) m m) (W.alloc (.cells (madeCells #[.slice none 0 0] m) 105)):=by
 intro W;exact run_make_row' 251 105 (.slice none 0 0) 24 underlying251 CW rfl .i64 .i64 m o_ o_ W
def OM.made (W:W_) (n:Nat) (row:Nat->List UInt8):OM (W.alloc (.cells (madeCells #[.slice none 0 0] n) 105)) W.heap.size W.heap.size n 0 row:=by
 refine ⟨bS _,Nat.zero_le _,fun _=>0,fun _=>0,?_,fun r g=>absurd g o_,fun r s g=>absurd g o_⟩
 have e:madeCells #[Value.slice none 0 0] n=uT n 0 row (fun _=>0) (fun _=>0):=by
  apply Array.ext_getElem?;intro s;by_cases hs:s<n
  ·rw[Sx _ _ _ _ _ _ hs,if_neg o_]
   simp[madeCells,hs,Nat.mod_one]
  rw[Array.getElem?_eq_none (by rw[size_madeCells];omega),Array.getElem?_eq_none (by rw[KZ];omega)]
 rw[e];exact ab.new W _ _
def xu (n k:Nat) (hn:n<=16) (hk:k<=16) (w:W_) :
  Cl 248 #[.int .i64 n,.int .i64 k] w fun e w'=>e=.returned (.slice (some ⟨w.heap.size,0,none⟩) n n)/\OM w' w.heap.size w.heap.size n n (fun _=>List.replicate k 0)/\Below w.heap.size w w':=by
 have q:=sA k o_;have l:=Cq n o_;go_enter func248,ntmps248;go_wp2;clear l
 go_loopw [6,11] (fun _ h wr=>∃i:Nat,i<=n/\h=.int .i64 i/\OM wr w.heap.size w.heap.size n i (fun _=>List.replicate k 0)/\Below w.heap.size w wr) (fun _ h _=>n-(intOf h).toNat)
 case atStart=>exact ⟨0,o_,rfl,OM.made w n _,(Below.refl _ _).alloc (bS _) _⟩
 case round =>
  obtain ⟨i,p,rfl,hM,g⟩:=hrel;by_cases j:i<n
  ·have m:=hM.nil_at i j (bS _)
   have o:=hM.frozen i;have hG:=hM.lt;go_wp2;go_roundw
   case rel =>
    refine ⟨i+1,o_,by go_num,?_,(g.setCell (bS _) _).alloc (by simpa using g.size) _⟩;have:=hM.put ((Below.refl _ _).alloc (bS _) (.cells (madeCells #[.int .u8 0] k) 5)) (bS i) j (ev.made_zero wr k o_) (bS _);rw[Nat.max_eq_right o_,Aa,World.setCell_alloc_past _ _ _ _ hG] at this;refine this.congr fun r _=>?_;unfold i8;split<;>rfl
   case measure=>simp[intOf];omega
  obtain rfl:i=n:=o_;go_wp2;go_ret;exact ⟨rfl,hM,g⟩
def idM (n:Nat):List (List UInt8):=(List.range n).map (Rf n)
def NK (n r:Nat) (h:r<n):(idM n).getD r []=Rf n r:=by
 unfold idM;rw[be,gq,pB h];rfl
def x_I (n:Nat):(idM n).length=n:=by simp[idM]
def HI (n i r:Nat):List UInt8:=if r<i then Rf n r else List.replicate n 0
def lD (n i r:Nat):(HI n i r).length=n:=by unfold HI;split<;>simp[Rf]
def G5 (n i:Nat) (r:Nat):i8 (HI n i) i ((HI n i i).set i 1) r=HI n (i+1) r:=by
 unfold i8;by_cases h:r=i
 ·subst h
  rw[if_pos rfl];unfold HI;rw[if_neg (Nat.lt_irrefl r),if_pos (Nat.lt_succ_self r)];rfl
 rw[if_neg h];unfold HI;by_cases e:r<i
 ·rw[if_pos e,if_pos o_]
 rw[if_neg e,if_neg o_]
def lN.nil_ (w:W_):lN w (.slice none 0 0) []:=⟨[],rfl,⟨none,0,rfl,bS _,o_,fun h=>absurd h s_⟩,fun r e=>absurd e s_⟩
def vdM (n k:Nat):List (List UInt8):=(List.range n).map fun r=>(List.range k).map fun c=>ex (r*c)
def NZ (n k r:Nat) (h:r<n):(vdM n k).getD r []=(List.range k).map fun c=>ex (r*c):=by
 unfold vdM;rw[be,gq,pB h];rfl
def K_ (n k:Nat):(vdM n k).length=n:=by simp[vdM]
def SD (k r c:Nat):List UInt8:=((List.range k).map fun j=>if j<c then ex (r*j) else 0)
def z_aB (k r c:Nat):(SD k r c).length=k:=by simp[SD]
def Lp (k r c:Nat) (h:c<k):(SD k r c).set c (ex (r*c))=SD k r (c+1):=by
 unfold SD;apply i2
 ·simp
 intro j i l;simp at i l;rw[List.getElem_set];simp only[List.getElem_map,List.getElem_range];by_cases e:c=j
 ·subst e;rw[if_pos rfl,if_pos o_]
 rw[if_neg e];by_cases g:j<c
 ·rw[if_pos g,if_pos o_]
 rw[if_neg g,if_neg o_]
def G1 (k r:Nat):SD k r k=(List.range k).map fun c=>ex (r*c):=by
 unfold SD;apply List.map_congr_left;intro c e;rw[if_pos (by simpa using e)]
def Gg (k i c r:Nat):List UInt8:=if r<i then SD k r k else if r=i then SD k r c else List.replicate k 0
def kU (k i c r:Nat):(Gg k i c r).length=k:=by
 unfold Gg;split
 ·exact z_aB _ _ _
 split
 ·exact z_aB _ _ _
 simp
def Qv (k i c r:Nat) (g:c<k):i8 (Gg k i c) i ((Gg k i c i).set c (ex (i*c))) r=Gg k i (c+1) r:=by
 have e:Gg k i c i=SD k i c:=by unfold Gg;rw[if_neg (Nat.lt_irrefl i),if_pos rfl]
 rw[e,Lp k i c g];unfold i8 Gg;by_cases h:r=i
 ·subst h;rw[if_pos rfl,if_neg (Nat.lt_irrefl r),if_pos rfl]
 rw[if_neg h,if_neg h,if_neg h]
def G2 (k i r:Nat):Gg k i k r=Gg k (i+1) 0 r:=by
 unfold Gg;by_cases h:r<i
 ·rw[if_pos h,if_pos o_]
 rw[if_neg h];by_cases e:r=i
 ·subst e;rw[if_pos rfl,if_pos o_]
 rw[if_neg e,if_neg o_];by_cases g:r=i+1
 ·rw[if_pos g]
  unfold SD;apply i2
  ·simp
  intro j l m;simp
 rw[if_neg g]
def TZ (j:Nat):Hj 2 ((j:Nat):Int)=ex j:=by
 unfold Hj;by_cases h:j=0
 ·subst h;rfl
 rw[if_neg o_,if_neg d_,Hc,<-IA j];congr 1
end
section
open GfM
def opsD_0:ce ((Tryz.f101.body.bind (dF 11)).getD #[]) 0 (.move (.tmp 8)) (some 45):=by unfold ce;kernel_rfl
def opsD_1:ce ((Tryz.f101.body.bind (dF 11)).getD #[]) 1 (.move (.tmp 11)) (some 46):=by unfold ce;kernel_rfl
def Wt:ce ((Tryz.f101.body.bind (dF 11)).getD #[]) 2 (.buildSlice 38 1 #[(0,.tmp 46)]) (some 47):=by unfold ce;kernel_rfl
def I8:ce ((Tryz.f101.body.bind (dF 11)).getD #[]) 3 (.call { callee:=.builtin .append,args:=#[.tmp 45,.tmp 47],argTypes:=#[38,38] }) (some 48):=by unfold ce;kernel_rfl
def opsD_4:ce ((Tryz.f101.body.bind (dF 11)).getD #[]) 4 (.move (.tmp 7)) (some 49):=by unfold ce;kernel_rfl
def opsD_5:ce ((Tryz.f101.body.bind (dF 11)).getD #[]) 5 (.move (.tmp 9)) (some 50):=by unfold ce;kernel_rfl
def opsD_6:ce ((Tryz.f101.body.bind (dF 11)).getD #[]) 6 (.move (.tmp 10)) (some 51):=by unfold ce;kernel_rfl
def opsD_7:ce ((Tryz.f101.body.bind (dF 11)).getD #[]) 7 (.indexAddr 251 (.tmp 50) (.tmp 51)) (some 52):=by unfold ce;kernel_rfl
def opsD_8:ce ((Tryz.f101.body.bind (dF 11)).getD #[]) 8 (.load 105 (.tmp 52)) (some 53):=by unfold ce;kernel_rfl
def I9:ce ((Tryz.f101.body.bind (dF 11)).getD #[]) 9 (.buildSlice 251 1 #[(0,.tmp 53)]) (some 54):=by unfold ce;kernel_rfl
def Ae:ce ((Tryz.f101.body.bind (dF 11)).getD #[]) 10 (.call { callee:=.builtin .append,args:=#[.tmp 49,.tmp 54],argTypes:=#[251,251] }) (some 55):=by unfold ce;kernel_rfl
def zD:ce ((Tryz.f101.body.bind (dF 11)).getD #[]) 11 (.assign (.tmp 48)) (some 8):=by unfold ce;kernel_rfl
def AH:ce ((Tryz.f101.body.bind (dF 11)).getD #[]) 12 (.assign (.tmp 55)) (some 7):=by unfold ce;kernel_rfl
section
variable {ah:Array Oper} {Q:Exit->Act->W_->Prop} {md:Region.Mode} {S:W_->Prop} {fuel:Nat} {listed:Array Bool} {a:Act} 
def N_ (i:Nat) (e:Op) (d:Nat) (s:ce ah i e (some d)) (t:Region.ready md ah listed=[i])
  (h:∀o:Oper,o.op=e->∃v w',(execOp a.eval o).run P w=.ok (.value v) w'/\S w'/\wpAnyH P md ah Q S fuel (listed.setIfInBounds i true) (a.put (some d) v) w'):wpAnyH P md ah Q S (fuel+1) listed a w:=by
 obtain ⟨o,m,n,p,q⟩:=s.get;refine wpAnyH_all t s_ fun j r=>?_
 obtain rfl:j=i:=by simpa using r
 unfold wpOp;simp only[m];rw[if_pos (by unfold Region.wanted;rw[q])];refine .inl ?_;unfold Oper.wp;obtain ⟨v,w',g,k,l⟩:=h o n;rw[g];show _/\_;rw[p];exact ⟨k,l⟩
def Yn (i k:Nat) (l m:Op) (d1 d2:Nat) (G:ce ah i l (some d1)) (E:ce ah k m (some d2)) (u:Region.ready md ah listed=[i,k])
  (r:∀o:Oper,o.op=l->∃v w',(execOp a.eval o).run P w=.ok (.value v) w'/\S w'/\wpAnyH P md ah Q S fuel (listed.setIfInBounds i true) (a.put (some d1) v) w')
  (s:∀o:Oper,o.op=m->∃v w',(execOp a.eval o).run P w=.ok (.value v) w'/\S w'/\wpAnyH P md ah Q S fuel (listed.setIfInBounds k true) (a.put (some d2) v) w'):wpAnyH P md ah Q S (fuel+1) listed a w:=by
 obtain ⟨y,n,g2,p,q⟩:=G.get;obtain ⟨z,b,c,d,f⟩:=E.get;refine wpAnyH_all u s_ fun j t=>?_
 have x:j=i\/j=k:=by simpa using t
 unfold wpOp;rcases x with rfl|rfl
 ·simp only[n]
  rw[if_pos (by unfold Region.wanted;rw[q])];refine .inl ?_;unfold Oper.wp;obtain ⟨v,w',e,g,h⟩:=r y g2;rw[e];show _/\_;rw[p];exact ⟨g,h⟩
 simp only[b];rw[if_pos (by unfold Region.wanted;rw[f])];refine .inl ?_;unfold Oper.wp;obtain ⟨v,w',e,g,h⟩:=s z c;rw[e];show _/\_;rw[d];exact ⟨g,h⟩
end
section
variable {ρ:Operand->Value} {o:Oper}
def Xu (h:o.op=.load 105 x) {p:Addr} (e:ρ x=.pointer (some p)) (g:w.cell? p=some v):(execOp ρ o).run prog w=.ok (.value v) w:=by
 unfold execOp;rw[h];simp only[e];go_simp
def exD_ix {y:Operand} (h:o.op=.indexAddr 251 x y) {f k:Nat} (e:ρ x=.slice (some ⟨b,f,none⟩) n k) (g:ρ y=.int .i64 c) (i:(c:Int)<(n:Int)):(execOp ρ o).run prog w=.ok (.value (.pointer (some ⟨b,f+c,none⟩))) w:=by
 unfold execOp;rw[h];simp only[e,g];go_simp
def w_d (h:o.op=.assign x) (hv:ρ x=v):(execOp ρ o).run P w=.ok (.value v) w:=by
 subst hv;unfold execOp;rw[h];rfl
def D6 (h:o.op=.buildSlice 38 1 #[(0,x)]) {s:B_} (e:ρ x=.string s):(execOp ρ o).run prog w=.ok (.value (.slice (some ⟨w.heap.size,0,none⟩) 1 1)) (w.alloc (.cells #[.string s] 9)):=by
 unfold execOp;rw[h];simp only[e,List.map_toArray,List.map_cons,List.map_nil];go_simp
def sj (h:o.op=.buildSlice 251 1 #[(0,x)]) {A:Option Addr} (e:ρ x=.slice A n c):(execOp ρ o).run prog w=.ok (.value (.slice (some ⟨w.heap.size,0,none⟩) 1 1)) (w.alloc (.cells #[.slice A n c] 105)):=by
 unfold execOp;rw[h];simp only[e,List.map_toArray,List.map_cons,List.map_nil];go_simp
def v_H {s:Operand} {t:TypeId} {z:Value} {bytes:Nat} {y:Value} {R:Value->W_->Prop} (h:o.op=.call { callee:=.builtin .append,args:=#[s,x],argTypes:=#[t,t] })
  (c:P.underlying t=some (.slice e)) (m:(P.info? e).map (fun i=>(i.zero,i.size,i.bytes))=some (some z,1,bytes)) (hz:z.cells.size=1) (E:0<bytes)
  (hs:ρ s=v) (d:ρ x=.slice (some ⟨b,0,none⟩) 1 1) (r:y.oneCell'=true) (k:aH w base e v xs) (hb:ab w b e #[y]) (l:base<=w.heap.size) (hl:(xs.length+1)*bytes<=140737488355328)
  (hR:∀j g,aH g base e j (xs++[y])->w.grownBy g v.ownBlock->R j g):∃j g,(execOp ρ o).run P w=.ok (.value j) g/\R j g:=by
 obtain ⟨f,a,p,n,q⟩:=info_parts m;have I:xs.length+1<=140737488355328:=cL (Nat.le_mul_of_pos_right _ E) hl
 obtain ⟨j,g,G,u,hg,_⟩:=run_append_own_at (P:=P) w base t o.type e f z 1 bytes c a p n q hz o_ v xs.length xs k ⟨b,0,none⟩ 1 1 [y] rfl
  (World.news_of_block (cs:=#[y]) (t:=e) (fr:=(0,0)) hb) (by simpa using r) (by simp only[maxLen];omega) hl l
 refine ⟨j,g,?_,hR j g (by unfold aH;simpa using u) hg⟩;unfold execOp;simp only[h,resolve,invoke,builtin,Sem.run_bind,Sem.run_pure,Result.andThen_ok,List.map_toArray,List.map_cons,List.map_nil,hs,d,G]
end
def ab.own_no {g:Nat} {t:TypeId} {cs:Array Value} (h:ab w g t cs) (l:aH w base e v xs) (i:t≠e):some g≠v.ownBlock:=by
 rcases l.2 with ⟨rfl,_⟩|⟨j,o,p,rfl,_,k,_⟩
 ·simp[Value.ownBlock]
 intro hk
 have n:g=j:=by simpa[Value.ownBlock] using hk
 subst n;unfold ab at h;rw[k] at h;injection h with h;injection h with _ m;exact i m.symm
def neSM:(9:Nat)≠105:=d_
def Zv:105≠(9:Nat):=d_
def pc_ (a:Act) (x y:Nat) (v u:Value) (h:x≠y):(a.put (some x) v).put (some y) u=(a.put (some y) u).put (some x) v:=Act.put_comm a v u (fun d e g=>h (by injection e with e;injection g with g;omega))
def frD (a:Act) (i g j k h l e m n o p q r:Value):Act:=(((((((((((((a.put (some 45) i).put (some 46) g).put (some 49) j).put (some 50) k).put (some 51) h).put (some 52) l).put (some 53) e).put (some 47) m).put (some 48) n).put (some 54) o).put (some 55) p).put (some 8) q).put (some 7) r)
def vA {h5:Array Oper} (x9:h5=((Tryz.f101.body.bind (dF 11)).getD #[])) (Q:Exit->Act->W_->Prop) (I:∀c (a:Act) d v w,Q (.panic c) (a.put d v) w->Q (.panic c) a w) (a:Act) (W:W_) (g:a.tmps.size=88)
  (m:W_) (B C:Value) (xs ys:List Value) (s:B_) (G A n H0 i l j:Nat) (h:Option Addr) (x8:(i:Int)<(n:Int))
  (h8:a.eval (.tmp 8)=B) (x4:a.eval (.tmp 11)=.string s) (h7:a.eval (.tmp 7)=C) (h9:a.eval (.tmp 9)=.slice (some ⟨G,A,none⟩) n H0) (x6:a.eval (.tmp 10)=.int .i64 i)
  (K:m.cell? ⟨G,A+i,none⟩=some (.slice h l j)) (h2:aH W m.heap.size 9 B xs) (HR:aH W m.heap.size 105 C ys) (h1:Below m.heap.size m W) (hl:(xs.length+1)*16<=140737488355328) (H:(ys.length+1)*24<=140737488355328)
  (F:∀H4 H2 H5 H6 H3 H7 H1 H8 H9 x0 x1 R X Y,aH Y m.heap.size 9 R (xs++[.string s])->aH Y m.heap.size 105 X (ys++[.slice h l j])->Below m.heap.size m Y->Q .normal (frD a H4 H2 H5 H6 H3 H7 H1 H8 H9 x0 x1 R X) Y) :
  (Code.region 11 h5 true).wp prog Q a W:=by
 subst x9;have E:Region.noSelect ((Tryz.f101.body.bind (dF 11)).getD #[])=true:=k_;have x7:((Tryz.f101.body.bind (dF 11)).getD #[]).size=13:=k_;refine wp_region_held (S:=fun w'=>Below m.heap.size m w') k_ ?_;rw[x7];have t:Below m.heap.size m W.drew:=h1.drew;have L:aH W.drew m.heap.size 9 B xs:=h2.drew;have h0:aH W.drew m.heap.size 105 C ys:=HR.drew;clear h1 h2 HR;show wpAnyH _ _ _ _ _ _ _ _ W.drew;generalize W.drew=Z at *;refine da 0 _ _ B opsD_0 E k_ k_ I (fun w o J e=>A4 e h8) t ?_;refine da 1 _ _ (.string s) opsD_1 E k_ k_ I (fun w o J e=>A4 e ((a6 d_).trans x4)) t ?_;refine da 4 _ _ C opsD_4 E k_ k_ I (fun w o J e=>A4 e ((a6 d_).trans ((a6 d_).trans h7))) t ?_;refine da 5 _ _ (.slice (some ⟨G,A,none⟩) n H0) opsD_5 E k_ k_ I (fun w o J e=>A4 e ((a6 d_).trans ((a6 d_).trans ((a6 d_).trans h9)))) t ?_;refine da 6 _ _ (.int .i64 i) opsD_6 E k_ k_ I (fun w o J e=>A4 e ((a6 d_).trans ((a6 d_).trans ((a6 d_).trans ((a6 d_).trans x6))))) t ?_;refine da 7 _ _ (.pointer (some ⟨G,A+i,none⟩)) opsD_7 E k_ k_ I (fun w o J e=>exD_ix e ((a6 d_).trans (cV (by simp only[cY,g];decide))) (cV (by simp only[cY,g];decide)) x8) t ?_;refine da 8 _ _ (.slice h l j) opsD_8 E k_ k_ I (fun w o J e=>Xu e (cV (by simp only[cY,g];decide)) ((J.cell (fV m _ K)).trans K)) t ?_;refine Yn 2 9 _ _ _ _ Wt I9 k_ (fun o e=>?_) (fun o e=>?_)
 ·have y:=t.alloc t.size (.cells #[.string s] 9)
  have N:=L.alloc (.cells #[.string s] 9);have U:=h0.alloc (.cells #[.string s] 9);have h3:=ab.new Z 9 #[.string s];refine ⟨_,_,D6 e ((a6 d_).trans ((a6 d_).trans ((a6 d_).trans ((a6 d_).trans ((a6 d_).trans (cV (by simp only[cY,g];decide))))))),y,?_⟩;refine Yn 3 9 _ _ _ _ I8 I9 k_ (fun o e=>?_) (fun o e=>?_)
  ·refine v_H e underlying38 xT rfl d_ ((a6 d_).trans ((a6 d_).trans ((a6 d_).trans ((a6 d_).trans ((a6 d_).trans ((a6 d_).trans ((a6 d_).trans (cV (by simp only[cY,g];decide))))))))) (cV (by simp only[cY,g];decide)) rfl N h3 y.size hl fun R x2 u h6=>?_
   have r:=y.grown h6 y.size fun k hk=>(N.lt k hk).1;have M:=U.keep h6 (U.ne_ N Zv);refine ⟨r,?_⟩;refine N_ 9 _ _ I9 k_ fun o e=>?_;have p:=r.alloc r.size (.cells #[.slice h l j] 105);have z:=u.alloc (.cells #[.slice h l j] 105);have x:=M.alloc (.cells #[.slice h l j] 105);have O:=ab.new x2 105 #[.slice h l j];refine ⟨_,_,sj e ((a6 d_).trans ((a6 d_).trans (cV (by simp only[cY,g];decide)))),p,?_⟩;refine N_ 10 _ _ Ae k_ fun o e=>?_;refine v_H e underlying251 CW rfl d_ ((a6 d_).trans ((a6 d_).trans ((a6 d_).trans ((a6 d_).trans ((a6 d_).trans ((a6 d_).trans ((a6 d_).trans (cV (by simp only[cY,g];decide))))))))) (cV (by simp only[cY,g];decide)) rfl x O p.size H fun X h4 V b=>?_;have q:=p.grown b p.size fun k hk=>(x.lt k hk).1;have T:=z.keep b (z.ne_ x neSM);refine ⟨q,?_⟩;refine N_ 11 _ _ zD k_ fun o e=>⟨_,_,w_d e ((a6 d_).trans ((a6 d_).trans (cV (by simp only[cY,g];decide)))),q,?_⟩;refine N_ 12 _ _ AH k_ fun o e=>⟨_,_,w_d e ((a6 d_).trans (cV (by simp only[cY,g];decide))),q,?_⟩;exact wpAnyH_done k_ (F _ _ _ _ _ _ _ _ _ _ _ _ _ _ T V q) _
  have r:=y.alloc y.size (.cells #[.slice h l j] 105);have u:=N.alloc (.cells #[.slice h l j] 105);have M:=U.alloc (.cells #[.slice h l j] 105);have P:=ab.new (Z.alloc (.cells #[.string s] 9)) 105 #[.slice h l j];have D:=h3.alloc (.cells #[.slice h l j] 105);refine ⟨_,_,sj e ((a6 d_).trans (cV (by simp only[cY,g];decide))),r,?_⟩;refine N_ 3 _ _ I8 k_ fun o e=>?_;refine v_H e underlying38 xT rfl d_ ((a6 d_).trans ((a6 d_).trans ((a6 d_).trans ((a6 d_).trans ((a6 d_).trans ((a6 d_).trans ((a6 d_).trans ((a6 d_).trans (cV (by simp only[cY,g];decide)))))))))) ((a6 d_).trans (cV (by simp only[cY,g];decide))) rfl u D r.size hl fun R x3 z f=>?_;have p:=r.grown f r.size fun k hk=>(u.lt k hk).1;have x:=M.keep f (M.ne_ u Zv);have O:=P.grown f (P.own_no u Zv);refine ⟨p,?_⟩;refine N_ 10 _ _ Ae k_ fun o e=>?_;refine v_H e underlying251 CW rfl d_ ((a6 d_).trans ((a6 d_).trans ((a6 d_).trans ((a6 d_).trans ((a6 d_).trans ((a6 d_).trans ((a6 d_).trans (cV (by simp only[cY,g];decide))))))))) ((a6 d_).trans (cV (by simp only[cY,g];decide))) rfl x O p.size H fun X h4 V b=>?_;have q:=p.grown b p.size fun k hk=>(x.lt k hk).1;have T:=z.keep b (z.ne_ x neSM);refine ⟨q,?_⟩;refine N_ 11 _ _ zD k_ fun o e=>⟨_,_,w_d e ((a6 d_).trans (cV (by simp only[cY,g];decide))),q,?_⟩;refine N_ 12 _ _ AH k_ fun o e=>⟨_,_,w_d e ((a6 d_).trans (cV (by simp only[cY,g];decide))),q,?_⟩;rw[pc_ _ 54 48 _ _ d_];exact wpAnyH_done k_ (F _ _ _ _ _ _ _ _ _ _ _ _ _ _ T V q) _
 have y:=t.alloc t.size (.cells #[.slice h l j] 105);have N:=L.alloc (.cells #[.slice h l j] 105);have U:=h0.alloc (.cells #[.slice h l j] 105);have x5:=ab.new Z 105 #[.slice h l j];refine ⟨_,_,sj e (cV (by simp only[cY,g];decide)),y,?_⟩;refine N_ 2 _ _ Wt k_ fun o e=>?_;have r:=y.alloc y.size (.cells #[.string s] 9);have u:=N.alloc (.cells #[.string s] 9);have M:=U.alloc (.cells #[.string s] 9);have D:=ab.new (Z.alloc (.cells #[.slice h l j] 105)) 9 #[.string s];have P:=x5.alloc (.cells #[.string s] 9);refine ⟨_,_,D6 e ((a6 d_).trans ((a6 d_).trans ((a6 d_).trans ((a6 d_).trans ((a6 d_).trans ((a6 d_).trans (cV (by simp only[cY,g];decide)))))))),r,?_⟩;refine N_ 3 _ _ I8 k_ fun o e=>?_;refine v_H e underlying38 xT rfl d_ ((a6 d_).trans ((a6 d_).trans ((a6 d_).trans ((a6 d_).trans ((a6 d_).trans ((a6 d_).trans ((a6 d_).trans ((a6 d_).trans (cV (by simp only[cY,g];decide)))))))))) (cV (by simp only[cY,g];decide)) rfl u D r.size hl fun R x3 z f=>?_;have p:=r.grown f r.size fun k hk=>(u.lt k hk).1;have x:=M.keep f (M.ne_ u Zv);have O:=P.grown f (P.own_no u Zv);refine ⟨p,?_⟩;refine N_ 10 _ _ Ae k_ fun o e=>?_;refine v_H e underlying251 CW rfl d_ ((a6 d_).trans ((a6 d_).trans ((a6 d_).trans ((a6 d_).trans ((a6 d_).trans ((a6 d_).trans ((a6 d_).trans (cV (by simp only[cY,g];decide))))))))) ((a6 d_).trans ((a6 d_).trans (cV (by simp only[cY,g];decide)))) rfl x O p.size H fun X h4 V b=>?_;have q:=p.grown b p.size fun k hk=>(x.lt k hk).1;have T:=z.keep b (z.ne_ x neSM);refine ⟨q,?_⟩;refine N_ 11 _ _ zD k_ fun o e=>⟨_,_,w_d e ((a6 d_).trans (cV (by simp only[cY,g];decide))),q,?_⟩;refine N_ 12 _ _ AH k_ fun o e=>⟨_,_,w_d e ((a6 d_).trans (cV (by simp only[cY,g];decide))),q,?_⟩;rw[pc_ _ 54 47 _ _ d_];rw[pc_ _ 54 48 _ _ d_];exact wpAnyH_done k_ (F _ _ _ _ _ _ _ _ _ _ _ _ _ _ T V q) _
end
end Go.Proofs.YtdkheklakfbeeaaGreatDoor
