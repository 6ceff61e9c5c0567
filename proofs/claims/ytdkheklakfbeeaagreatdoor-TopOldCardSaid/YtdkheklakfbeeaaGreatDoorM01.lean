/- Part 1 of the proof. -/
import Derived.Test.YtdkheklakfbeeaaGreatDoorProg
import Derived.WalkKit
import Derived.WalkSpells
import Derived.WalkLawsBesides
import Derived.Laws.BitsLemmas
import Derived.Lib.Hide
import Derived.Below
import Derived.Calls
import Derived.Laws.OwnMore
import Derived.Deep.Draws
import Derived.Deep.AppendLies
import Derived.Deep.OwnRows
import Derived.Maps.AppendAt
import Derived.OwnWalk
import Derived.Laws.Rows
import Derived.Laws.BytesArg
import Derived.Deep.QuietTactic
import Derived.BigQuiet
import Derived.Deep.LoopGhost
import Derived.Deep.DeepCutAuto
import Derived.Deep.CutBlock
import Derived.Deep.RegionHeld3
import Derived.Laws.Slices
import Derived.Lib.ConvBytes
import Derived.Lib.AtoiErrMem
import Derived.Laws.IdiomCopy
import Derived.Lib.AppendStr
import Derived.ArgAppend
import Derived.RowKit3
import Derived.WideLaws
import Derived.Lib.SliceRun
import Derived.Lib.Hide
set_option linter.all false
set_option maxRecDepth 100000
set_option maxHeartbeats 16000000
namespace Go.Proofs.YtdkheklakfbeeaaGreatDoor
variable {p:Prop}
def o_ (h:p:=by omega):p:=h
def d_ (h:p:=by decide):p:=h
def k_ (h:p:=by kernel_rfl):p:=h
def s_ (h:p:=by simp):p:=h
abbrev B_:=ByteArray
abbrev W_:=World
def Zz (h:p):RowKit.Hid p:=Lib.hid h
abbrev Cl:=Calls Tryz.prog
def be:=@List.getD_eq_getElem?_getD
def cd:=@List.length_append
def fV:=@World.block_lt_of_cell?
def cr:=@List.getElem?_eq_getElem
def bS:=@Nat.le_refl
def ea:=@Nat.lt_of_lt_of_le
def cL:=@Nat.le_trans
def mx:=@List.take_succ_eq_append_getElem
def fW:=@List.length_map
def gq:=@List.getElem?_map
def iO:=@List.length_set
def gC:=@List.length_take
def i2:=@List.ext_getElem
def pB:=@List.getElem?_range
def pN:=@beq_eq_false_iff_ne
def lP:=@List.getElem?_toArray
def pD:=@List.getElem?_eq_none
def eM:=@IntKind.wrap_i64
def ie:=@IntKind.wrap_u64
def kx:=@List.take_of_length_le
def uS:=@List.getElem?_append_right
def h_:=@decide_eq_false
def Aa:=@List.length_replicate
def A_:=@List.length_singleton
def tK:=@List.size_toArray
def gx:=@Nat.mod_lt
def F6:=@List.setIfInBounds_toArray
def rY:=@List.getElem_mem
def BA:=@List.getElem?_set
def jm:=@Nat.zero_add
def lI:=@Nat.ne_of_lt
def A3:=@List.getElem?_append_left
def C8:=@List.ext_getElem?
def zH:=@List.length_range
def q_I:=@List.eq_nil_of_length_eq_zero
def AP:=@List.getElem?_eq_some_iff
def F4:=@Array.getElem?_eq_some_iff
end Go.Proofs.YtdkheklakfbeeaaGreatDoor
def Go.RowKit.Hid.o {p:Prop} (h:Go.RowKit.Hid p):p:=h.out
section
open Go.Proofs.Tryz
namespace Go.Proofs.YtdkheklakfbeeaaGreatDoor.GfM
def xt (x:Nat):Nat:=if 2*x>255 then (2*x) ^^^ 285 else 2*x
def gm:Nat->Nat->Nat->Nat->Nat
 | 0,_,_,out=>out
 | k+1,x,b,out=>gm k (xt x) (b / 2) (if b % 2=1 then out ^^^ x else out)
def Ar (a b:Nat):Nat:=gm 8 a b 0
def qK:Nat->Nat->Nat
 | 0,x=>x
 | k+1,x=>qK k (xt x)
def N7:∀x,x<256->xt x<256:=by decide +kernel
def two_xor (x y:Nat):2*(x ^^^ y)=(2*x) ^^^ (2*y):=by
 apply Nat.eq_of_testBit_eq;intro i
 cases i with
 | zero=>simp[Nat.testBit_zero,Nat.mul_mod_right]
 | succ i=>simp[Nat.testBit_succ,Nat.xor_div_two]
def Xm:∀x,x<256->xt x=(2*x) ^^^ (if x.testBit 7=true then 285 else 0):=by decide +kernel
def sT {x y:Nat} (h:x<256) (k:y<256):x ^^^ y<256:=Nat.xor_lt_two_pow (n:=8) h k
def E8 (a b c d:Nat):(a ^^^ b) ^^^ (c ^^^ d)=(a ^^^ c) ^^^ (b ^^^ d):=by
 rw[Nat.xor_assoc,Nat.xor_assoc,<-Nat.xor_assoc b c d,Nat.xor_comm b c,Nat.xor_assoc c b d]
def if_xor (p q:Bool) (v:Nat):(if (p ^^ q)=true then v else 0)=(if p=true then v else 0) ^^^ (if q=true then v else 0):=by
 cases p<;>cases q<;>simp
def Yb (x:Nat) (e:x<256) (y:Nat) (g:y<256):xt (x ^^^ y)=xt x ^^^ xt y:=by
 rw[Xm x e,Xm y g,Xm _ (sT e g),Nat.testBit_xor,if_xor,two_xor,E8]
def gm_lt (k:Nat):∀x b o,x<256->o<256->gm k x b o<256:=by
 induction k with
 | zero=>intro x b o _ h;exact h
 | succ k i =>
  intro x b o g e;refine i _ _ _ (N7 x g) ?_;split
  ·exact sT e g
  exact e
def gm_xt (k:Nat):∀x b o,x<256->o<256->gm k (xt x) b (xt o)=xt (gm k x b o):=by
 induction k with
 | zero=>intro x b o _ _;rfl
 | succ k i =>
  intro x b o e g;show gm k (xt (xt x)) (b / 2) _=xt (gm k (xt x) (b / 2) _);by_cases h:b % 2=1
  ·rw[if_pos h,if_pos h,<-Yb o g x e]
   exact i _ _ _ (N7 x e) (sT g e)
  rw[if_neg h,if_neg h];exact i _ _ _ (N7 x e) g
def gm_add (k:Nat):∀x y b o p,x<256->y<256->gm k (x ^^^ y) b (o ^^^ p)=gm k x b o ^^^ gm k y b p:=by
 induction k with
 | zero=>intro x y b o p _ _;rfl
 | succ k i =>
  intro x y b o p e g;show gm k (xt (x ^^^ y)) (b / 2) _=gm k (xt x) (b / 2) _ ^^^ gm k (xt y) (b / 2) _;rw[Yb x e y g];by_cases h:b % 2=1
  ·simp only[h,if_true];rw[E8]
   exact i _ _ _ _ _ (N7 x e) (N7 y g)
  simp only[h,if_false];exact i _ _ _ _ _ (N7 x e) (N7 y g)
def UK {a b:Nat} (h:a<256):Ar a b<256:=gm_lt 8 a b 0 h d_
def UM {a b:Nat} (h:a<256):Ar (xt a) b=xt (Ar a b):=gm_xt 8 a b 0 h d_
def Vq {x y:Nat} (b:Nat) (e:x<256) (g:y<256):Ar (x ^^^ y) b=Ar x b ^^^ Ar y b:=gm_add 8 x y b 0 0 e g
def CL:∀b,b<256->Ar 1 b=b:=by decide +kernel
def Rt:∀b,b<256->Ar 0 b=0:=by decide +kernel
def RK:∀b,b<256->Ar b 0=0:=by decide +kernel
def SM (k:Nat):∀x,x<256->qK k x<256:=by
 induction k with
 | zero=>intro x h;exact h
 | succ k e=>intro x h;exact e _ (N7 x h)
def MJ (j k:Nat):∀x,qK (j+k) x=qK j (qK k x):=by
 induction k with
 | zero=>intro x;rfl
 | succ k e=>intro x;exact e (xt x)
def Z6 (k:Nat):∀a b,a<256->Ar (qK k a) b=qK k (Ar a b):=by
 induction k with
 | zero=>intro a b _;rfl
 | succ k e =>
  intro a b h;show Ar (qK k (xt a)) b=qK k (xt (Ar a b));rw[e _ _ (N7 a h),UM h]
def YT (k b:Nat) (h:b<256):Ar (qK k 1) b=qK k b:=by
 rw[Z6 k 1 b d_,CL b h]
def S5 (j k:Nat):Ar (qK j 1) (qK k 1)=qK (j+k) 1:=by
 rw[YT _ _ (SM k 1 d_),<-MJ]
def S2:qK 255 1=1:=by decide +kernel
def S6 (k:Nat):qK (k % 255) 1=qK k 1:=by
 have h:∀q r,qK (255*q+r) 1=qK r 1:=by
  intro q r
  induction q with
  | zero=>simp
  | succ q g =>
   have e:255*(q+1)+r=(255*q+r)+255:=o_;rw[e,MJ,S2];exact g
 conv=>rhs;rw[<-Nat.div_add_mod k 255]
 exact (h _ _).symm
def lgr:Nat->Nat->Nat->Nat->Nat
 | 0,_,i,_=>i
 | k+1,p,i,a=>if p=a then i else lgr k (xt p) (i+1) a
def lg (a:Nat):Nat:=lgr 255 1 0 a
def Tu:∀a,a<256->a≠0->qK (lg a) 1=a/\lg a<255:=by decide +kernel
def Vr:∀i,i<255->lg (qK i 1)=i/\qK i 1≠0:=by decide +kernel
end Go.Proofs.YtdkheklakfbeeaaGreatDoor.GfM
namespace Go.Proofs.YtdkheklakfbeeaaGreatDoor.GfM
def cb (a b:UInt8):UInt8:=UInt8.ofNat (Ar a.toNat b.toNat)
def C_ (a:UInt8):a.toNat<256:=a.toNat_lt
def x_F (a b:UInt8):(cb a b).toNat=Ar a.toNat b.toNat:=by
 unfold cb;rw[UInt8.toNat_ofNat'];exact Nat.mod_eq_of_lt (UK (C_ a))
def ex (k:Nat):UInt8:=UInt8.ofNat (qK k 1)
def w_1 (k:Nat):(ex k).toNat=qK k 1:=by
 unfold ex;rw[UInt8.toNat_ofNat'];exact Nat.mod_eq_of_lt (SM k 1 d_)
def w_S (j k:Nat):cb (ex j) (ex k)=ex (j+k):=by
 apply UInt8.toNat_inj.1;rw[x_F,w_1,w_1,w_1,S5]
def MI:ex 0=1:=d_
def IA (k:Nat):ex (k % 255)=ex k:=by unfold ex;rw[S6]
def Xd:ex 255=1:=by rw[<-IA];rfl
def lo (a:UInt8):Nat:=lg a.toNat
def v_M {a:UInt8} (h:a≠0):a.toNat≠0:=fun e=>h (UInt8.toNat_inj.1 (by rw[e];rfl))
def jj {a:UInt8} (h:a≠0):ex (lo a)=a:=by
 apply UInt8.toNat_inj.1;rw[w_1];exact (Tu _ (C_ a) (v_M h)).1
def lo_lt {a:UInt8} (h:a≠0):lo a<255:=(Tu _ (C_ a) (v_M h)).2
def lo_ex {i:Nat} (h:i<255):lo (ex i)=i:=by unfold lo;rw[w_1];exact (Vr i h).1
def ex_ne (i:Nat):ex i≠0:=by
 rw[<-IA];intro h;have:=congrArg UInt8.toNat h;rw[w_1] at this;exact (Vr _ (gx _ d_)).2 this
def zero_mul (a:UInt8):cb 0 a=0:=by
 apply UInt8.toNat_inj.1;rw[x_F];exact Rt _ (C_ a)
def yY (a:UInt8):cb a 0=0:=by
 apply UInt8.toNat_inj.1;rw[x_F];exact RK _ (C_ a)
def one_mul (a:UInt8):cb 1 a=a:=by
 apply UInt8.toNat_inj.1;rw[x_F];exact CL _ (C_ a)
def mul_comm (a b:UInt8):cb a b=cb b a:=by
 by_cases ha:a=0
 ·rw[ha,zero_mul,yY]
 by_cases hb:b=0
 ·rw[hb,zero_mul,yY]
 rw[<-jj ha,<-jj hb,w_S,w_S,Nat.add_comm]
def mul_one (a:UInt8):cb a 1=a:=by rw[mul_comm,one_mul]
def x_D (a b c:UInt8):cb (cb a b) c=cb a (cb b c):=by
 by_cases ha:a=0
 ·rw[ha,zero_mul,zero_mul,zero_mul]
 by_cases hb:b=0
 ·rw[hb,yY,zero_mul,yY]
 by_cases e:c=0
 ·rw[e,yY,yY,yY]
 rw[<-jj ha,<-jj hb,<-jj e,w_S,w_S,w_S,w_S,Nat.add_assoc]
def add_mul (a b c:UInt8):cb (a ^^^ b) c=cb a c ^^^ cb b c:=by
 apply UInt8.toNat_inj.1;rw[x_F,UInt8.toNat_xor,UInt8.toNat_xor,x_F,x_F,Vq _ (C_ a) (C_ b)]
def Nm (a b c:UInt8):cb a (b ^^^ c)=cb a b ^^^ cb a c:=by
 rw[mul_comm,add_mul,mul_comm b,mul_comm c]
def mul_ne {a b:UInt8} (ha:a≠0) (hb:b≠0):cb a b≠0:=by
 rw[<-jj ha,<-jj hb,w_S];exact ex_ne _
def z_ag (a b:UInt8):cb a b=0↔a=0\/b=0:=by
 constructor
 ·intro h
  by_cases ha:a=0
  ·exact .inl ha
  by_cases hb:b=0
  ·exact .inr hb
  exact absurd h (mul_ne ha hb)
 rintro (rfl|rfl)
 ·exact zero_mul b
 exact yY a
def RW (a:UInt8):UInt8:=if a=0 then 0 else ex (255-lo a)
def YX:RW 0=0:=rfl
def AV {a:UInt8} (h:a≠0):cb a (RW a)=1:=by
 unfold RW;rw[if_neg h]
 conv=>lhs;lhs;rw[<-jj h]
 rw[w_S,show lo a+(255-lo a)=255 by have:=lo_lt h;omega,Xd]
def NW {a:UInt8} (h:a≠0):cb (RW a) a=1:=by rw[mul_comm,AV h]
def GR {a b c:UInt8} (h:a≠0) (e:cb a b=cb a c):b=c:=by
 have:=congrArg (cb (RW a)) e
 rwa [<-x_D,<-x_D,NW h,one_mul,one_mul] at this
def Hf {a b:UInt8} (h:cb a b=1):b=RW a:=by
 have ha:a≠0:=by
  rintro rfl;rw[zero_mul] at h;exact absurd h d_
 exact GR ha (h.trans (AV ha).symm)
def inv_ne {a:UInt8} (h:a≠0):RW a≠0:=by
 intro e;have:=AV h;rw[e,yY] at this;exact absurd this d_
def pw (a:UInt8):Nat->UInt8
 | 0=>1
 | k+1=>cb (pw a k) a
def yN (a:UInt8):pw a 0=1:=rfl
def pw_one (a:UInt8):pw a 1=a:=one_mul a
def Ww (a:UInt8) (j k:Nat):pw a (j+k)=cb (pw a j) (pw a k):=by
 induction k with
 | zero=>rw[yN,mul_one];rfl
 | succ k e=>show cb (pw a (j+k)) a=cb (pw a j) (cb (pw a k) a);rw[e,x_D]
def ZP (a:UInt8) (j k:Nat):pw a (j*k)=pw (pw a j) k:=by
 induction k with
 | zero=>rfl
 | succ k e=>rw[Nat.mul_succ,Ww,e];rfl
def Hc (k:Nat):pw 2 k=ex k:=by
 induction k with
 | zero=>rfl
 | succ k e=>show cb (pw 2 k) 2=_;rw[e,show (2:UInt8)=ex 1 by decide,w_S]
def pw_ex (i k:Nat):pw (ex i) k=ex (i*k):=by
 rw[<-Hc,<-ZP,Hc]
def one_pw (k:Nat):pw 1 k=1:=by
 induction k with
 | zero=>rfl
 | succ k e=>show cb (pw 1 k) 1=1;rw[e];rfl
def pw_255 {a:UInt8} (h:a≠0):pw a 255=1:=by
 rw[<-jj h,pw_ex,Nat.mul_comm,<-pw_ex,Xd,one_pw]
def zA (a:UInt8) (k:Nat):pw a (k+1)=cb (pw a k) a:=rfl
def inv_pw (a:UInt8) (h:a≠0):RW a=pw a 254:=by
 refine (Hf ?_).symm;rw[mul_comm,<-zA];exact pw_255 h
def sq_pw (a:UInt8) (k:Nat):pw (cb a a) k=pw a (2*k):=by
 have e:cb a a=pw a 2:=by rw[zA,zA,yN,one_mul]
 rw[e,ZP]
end Go.Proofs.YtdkheklakfbeeaaGreatDoor.GfM
end
namespace Go.Proofs.YtdkheklakfbeeaaGreatDoor
open Go.RowKit Tryz
section
open GfM
def w_U (k:IntKind) (j:Nat) (g:j<=k.bits) (hk:∀n:Int,0<=n->n<2 ^ j->k.wrap n=n) (a b:Nat) (ha:a<2 ^ j) (hb:b<2 ^ j) :
  bits .xor k (a:Int) (b:Int)=((a ^^^ b:Nat):Int):=by
 have hp:2 ^ j<=2 ^ k.bits:=Nat.pow_le_pow_right d_ g;have h:a % 2 ^ k.bits=a:=Nat.mod_eq_of_lt (ea ha hp);have e:b % 2 ^ k.bits=b:=Nat.mod_eq_of_lt (ea hb hp);simp only[bits,BitVec.ofInt_natCast,BitVec.toNat_xor,BitVec.toNat_ofNat,h,e];exact hk _ (Int.natCast_nonneg _) (by exact_mod_cast Nat.xor_lt_two_pow ha hb)
def wX (n:Int) (e:0<=n) (g:n<2 ^ 62):IntKind.i64.wrap n=n:=by rw[eM];omega
def z_ae (a b:UInt8):bits .xor .u8 (a.toNat:Int) (b.toNat:Int)=((a ^^^ b).toNat:Int):=by
 rw[w_U .u8 8 d_ wraps_u8 _ _ a.toNat_lt b.toNat_lt,UInt8.toNat_xor]
def Oc (a b:UInt8) (w:W_) :
  Cl 251 #[.int .u8 a.toNat,.int .u8 b.toNat] w fun e w'=>e=.returned (.int .u8 ((a ^^^ b).toNat:Int))/\w=w':=by
 go_enter func251,ntmps251;go_wp2;go_ret;exact ⟨by rw[<-z_ae];rfl,rfl⟩
def UA (k:Nat):∀x b o,b<2 ^ k->gm (k+1) x b o=gm k x b o:=by
 induction k with
 | zero =>
  intro x b o h
  obtain rfl:b=0:=by simpa using h
  rfl
 | succ k e =>
  intro x b o h;show gm (k+1) (xt x) (b / 2) _=gm k (xt x) (b / 2) _;exact e _ _ _ (by rw[Nat.pow_succ] at h;omega)
def qu (x b o:Nat) (h:b<256):gm 8 x b o=gm 8 (xt x) (b / 2) (if b % 2=1 then o ^^^ x else o) :=
 (UA 7 (xt x) (b / 2) _ (show b / 2<2 ^ 7 by omega)).symm
def Ko (b:Nat) (h:b<256):bits .and .u8 (b:Int) 1=((b % 2:Nat):Int):=by
 have:=(bits_nat .u8 8 d_ wraps_u8 b 1 h d_).1;rw[Nat.and_one_is_mod] at this;exact this
def Nu (a b:Nat) (ha:a<2 ^ 62) (hb:b<2 ^ 62):bits .xor .i64 (a:Int) (b:Int)=((a ^^^ b:Nat):Int) :=
 w_U .i64 62 d_ wX a b ha hb
def YC (x:Nat) (h:x<256) (g:255<(x:Int)*2):bits .xor .i64 ((x:Int)*2) 285=((xt x:Nat):Int):=by
 have e:((x:Int)*2)=((2*x:Nat):Int):=o_;rw[e];have:=Nu (2*x) 285 o_ d_;refine this.trans ?_;unfold xt;rw[if_pos o_]
def FF (x:Nat) (e:(x:Int)*2<=255):((x:Int)*2)=((xt x:Nat):Int):=by
 unfold xt;rw[if_neg o_];omega
def AD (b:Nat) (h:b<256) {r:Bool} (e:(bits .and .u8 (b:Int) 1==1)=r):(b % 2=1)↔r=true:=by
 rw[Ko b h] at e;subst e;rw[beq_iff_eq];omega
def tq (o x:Nat) (e:o<256) (g:x<256):bits .xor .i64 (o:Int) (x:Int)=((o ^^^ x:Nat):Int) :=
 Nu o x o_ o_
def mul_nat (a b:Nat) (w:W_) (ha:a<256) (hb:b<256) :
  Cl 220 #[.int .u8 a,.int .u8 b] w fun e w'=>e=.returned (.int .u8 (Ar a b:Nat))/\w=w':=by
 go_enter func220,ntmps220;go_wp2
 go_loop [1,5,6] (fun n q r=>∃g x o:Nat,g<256/\x<256/\o<256/\gm 8 x g o=Ar a b/\n=.int .u8 g/\q=.int .i64 x/\r=.int .i64 o) (fun n _ _=>(intOf n).toNat)
 case atStart=>exact ⟨b,a,0,hb,ha,d_,rfl,rfl,rfl,rfl⟩
 case round =>
  obtain ⟨g,x,o,j,i,m,hg,rfl,rfl,rfl⟩:=hrel;have H:=Zz hg;clear hg;go_wp2
  ·have l:((g:Int) != 0)=true:=‹_›
   rw[bne_iff_ne] at l;have k:=(AD g j ‹_›).2 rfl;refine ⟨⟨g / 2,xt x,o ^^^ x,o_,N7 x i,sT m i,?_,rfl,by rw[YC x i ‹_›],by rw[tq o x m i]⟩,?_⟩
   ·rw[<-H.o,qu x g o j,if_pos k]
   simp[intOf];omega
  ·have l:((g:Int) != 0)=true:=‹_›
   rw[bne_iff_ne] at l;have k:=(AD g j ‹_›).2 rfl;refine ⟨⟨g / 2,xt x,o ^^^ x,o_,N7 x i,sT m i,?_,rfl,by rw[<-FF x ‹_›],by rw[tq o x m i]⟩,?_⟩
   ·rw[<-H.o,qu x g o j,if_pos k]
   simp[intOf];omega
  ·have l:((g:Int) != 0)=true:=‹_›
   rw[bne_iff_ne] at l
   have k:¬(g % 2=1):=fun h=>by have:=(AD g j ‹_›).1 h;cases this
   refine ⟨⟨g / 2,xt x,o,o_,N7 x i,m,?_,rfl,by rw[YC x i ‹_›],rfl⟩,?_⟩
   ·rw[<-H.o,qu x g o j,if_neg k]
   simp[intOf];omega
  ·have l:((g:Int) != 0)=true:=‹_›
   rw[bne_iff_ne] at l
   have k:¬(g % 2=1):=fun h=>by have:=(AD g j ‹_›).1 h;cases this
   refine ⟨⟨g / 2,xt x,o,o_,N7 x i,m,?_,rfl,by rw[<-FF x ‹_›],rfl⟩,?_⟩
   ·rw[<-H.o,qu x g o j,if_neg k]
   simp[intOf];omega
  go_ret
  have p:g=0:=by have h:((g:Int) != 0)=false:=‹_›;simpa using h
  subst p;refine ⟨?_,rfl⟩;rw[<-H.o];rfl
def qs (x y:Int) (a b:UInt8) (g:x=(a.toNat:Int)) (i:y=(b.toNat:Int)) (w:W_) :
  Cl 220 #[.int .u8 x,.int .u8 y] w fun e w'=>e=.returned (.int .u8 ((cb a b).toNat:Int))/\w=w':=by
 subst g i;refine (mul_nat a.toNat b.toNat w a.toNat_lt b.toNat_lt).mono fun e w' h=>?_;rw[x_F];exact h
end
end Go.Proofs.YtdkheklakfbeeaaGreatDoor
section
open Go.Proofs.Tryz
namespace Go.Proofs.YtdkheklakfbeeaaGreatDoor.GfM
end Go.Proofs.YtdkheklakfbeeaaGreatDoor.GfM
end
namespace Go.Proofs.YtdkheklakfbeeaaGreatDoor
open Go.RowKit Tryz
variable {B aC base c g t:Nat}{CK qS tO v wZ x0 x1 x2 x3 x4 x5 x6 x7 x8 x9:Value}{P:Program}{T:List B_}{W w w' w0:W_}{cs:Array Value}{e:TypeId}{l:List Value}{row:Option Nat}
def ab (w:W_) (g:Nat) (t:TypeId) (cs:Array Value):Prop:=w.heap[g]?=some (.cells cs t (0,0))
section
variable {t:TypeId} 
def ab.lt (h:ab w g t cs):g<w.heap.size:=by
 rcases Nat.lt_or_ge g w.heap.size with e|i
 ·exact e
 unfold ab at h;rw[Array.getElem?_eq_none i] at h;cases h
def ab.cell (h:ab w g t cs) (i:Nat):w.cell? ⟨g,i,none⟩=cs[i]?:=cell_of_row w g i cs t (0,0) h
def ab.frozen (h:ab w g t cs) (i:Nat):w.frozen? ⟨g,i,none⟩=false:=by
 unfold ab at h;simp[World.frozen?,h]
def ab.new (w:W_) (t:TypeId) (cs:Array Value):ab (w.alloc (.cells cs t)) w.heap.size t cs:=heap_alloc_new w _
def ab.drew (h:ab w g t cs):ab w.drew g t cs:=h
def ab.drewN (h:ab w g t cs) (n:Nat):ab (w.drewN n) g t cs:=h
def ab.alloc (h:ab w g t cs) (o:Obj):ab (w.alloc o) g t cs:=(Below.heap_alloc w o g h.lt).trans h
def ab.set_ (h:ab w g t cs) (i:Nat) (u:Value):ab (w.setCell ⟨g,i,none⟩ u) g t (cs.setIfInBounds i u):=by
 unfold ab at h ⊢;simp[World.setCell,Array.getElem?_modify,h]
def ab.far (h:ab w g t cs) {p:Addr} (hp:g≠p.block) (u:Value):ab (w.setCell p u) g t cs:=(Below.heap_setCell w p u g hp).trans h
def ab.below (h:ab w g t cs) (hb:Below B w w') (hg:g<B):ab w' g t cs:=(hb.block g hg).trans h
def ab.grown (h:ab w g t cs) (hb:w.grownBy w' row) (hg:some g≠row):ab w' g t cs:=(hb.block g h.lt hg).trans h
end
def EV {a:W_} (h:Below B a w) (n:Nat):Below B a (w.drewN n):=⟨h.os,h.tape,h.output,h.size,h.block⟩
def BQ (h:Below w.heap.size w W) (o:Obj):Below w.heap.size w (W.alloc o):=h.alloc h.size o
def rz {e g:W_} (h:Below B w e) (i:B<=e.heap.size) (k:Below e.heap.size e g):Below B w g:=h.trans (k.mono i)
def up {e:W_} (h:Below w.heap.size w e) (row:Option Nat):w.grownBy e row:=⟨h.os,h.tape,h.output,h.size,fun i g _=>h.block i g⟩
def z_az {a b c:W_} (h:a.grownBy b row) (k:b.grownBy c row):a.grownBy c row :=
 ⟨k.os.trans h.os,k.tape.trans h.tape,k.output.trans h.output,cL h.size k.size,fun i g e=>(k.block i (ea g h.size) e).trans (h.block i g e)⟩
def aH (w:W_) (base:Nat) (e:TypeId) (v:Value) (g:List Value):Prop:=w.ownsRow base e 1 v g.length g
section
variable {xs:List Value}
def aH.nil_ (w:W_) (base:Nat) (e:TypeId):aH w base e (.slice none 0 0) []:=World.ownsRow_nil w base e 1
def aH.lit_ (w:W_) (base:Nat) (e:TypeId) (cs:Array Value) (hb:base<=w.heap.size) (hm:cs.size<=maxLen) :
  aH (w.alloc (.cells cs e)) base e (.slice (some ⟨w.heap.size,0,none⟩) cs.size cs.size) cs.toList:=by
 have h:=World.ownsRow_lit (base:=base) (e:=e) (size:=1) w cs cs.size hb hm s_;unfold aH;simpa using h
def aH.alloc (h:aH w base e v xs) (o:Obj):aH (w.alloc o) base e v xs:=World.ownsRow.alloc h o
def aH.drew (h:aH w base e v xs):aH w.drew base e v xs:=h
def aH.drewN (h:aH w base e v xs) (n:Nat):aH (w.drewN n) base e v xs:=h
def aH.keep (h:aH w base e v xs) (hg:w.grownBy w' row) (g:v.ownBlock=none\/v.ownBlock≠row):aH w' base e v xs:=World.ownsRow.kept h hg g
def aH.below (h:aH w base e v xs) (hb:Below w.heap.size w w'):aH w' base e v xs:=h.keep (up hb none) (by cases v.ownBlock<;>simp)
def aH.lt (h:aH w base e v xs):∀k,v.ownBlock=some k->base<=k/\k<w.heap.size:=World.ownsRow.lt h
def aH.more (h:aH w base e v xs) {base':Nat} (hb:base'<=base):aH w base' e v xs:=by
 refine ⟨h.1,?_⟩;rcases h.2 with ⟨rfl,j⟩|⟨g,aC,i,rfl,hg,k⟩
 ·exact .inl ⟨rfl,j⟩
 exact .inr ⟨g,aC,i,rfl,cL hb hg,k⟩
def aH.shape (h:aH w base e v xs):∃A c,v=.slice A xs.length c:=by
 rcases h.2 with ⟨rfl,i⟩|⟨g,aC,j,rfl,_⟩
 ·exact ⟨none,0,by rw[i]⟩
 exact ⟨_,aC,rfl⟩
def aH.form (h:aH w base e v xs) (hn:0<xs.length):∃g aC,v=.slice (some ⟨g,0,none⟩) xs.length aC/\base<=g/\g<w.heap.size/\xs.length<=aC:=by
 rcases h.2 with ⟨rfl,l⟩|⟨g,aC,k,rfl,hb,j,i,_⟩
 ·omega
 exact ⟨g,aC,rfl,hb,(F4.1 j).1,i⟩
def aH.len (h:aH w base e v xs):xs.length<=9223372036854775807:=by
 rcases h.2 with ⟨rfl,j⟩|⟨g,aC,i,rfl,hb,l,k,hm,_⟩
 ·omega
 simp only[maxLen] at hm;omega
def aH.cell (h:aH w base e (.slice (some ⟨g,0,none⟩) xs.length c) xs) (j:Nat) (n:j<xs.length):w.cell? ⟨g,j,none⟩=xs[j]?:=by
 rcases h.2 with ⟨i,q⟩|⟨p,aC,k,l,hb,m,t,hm,hs,o⟩
 ·omega
 injection l with i r s
 injection i with i
 injection i with i
 subst i;rw[cell_of_row w g j k e (0,0) m,<-o];simp only[Nat.mul_one];rw[List.getElem?_take,if_pos n];simp
def aH.frozen {n:Nat} (h:aH w base e (.slice (some ⟨g,0,none⟩) n c) xs) (j:Nat):w.frozen? ⟨g,j,none⟩=false:=by
 rcases h.2 with ⟨i,p⟩|⟨o,aC,m,k,hb,l,s,hm,hs,t⟩
 ·cases i
 injection k with i q r
 injection i with i
 injection i with i
 subst i;simp[World.frozen?,l]
def aH.set_ (h:aH w base e (.slice (some ⟨g,0,none⟩) xs.length c) xs) (j:Nat) (u:Value) :
  aH (w.setCell ⟨g,j,none⟩ u) base e (.slice (some ⟨g,0,none⟩) xs.length c) (xs.set j u):=by
 rcases h.2 with ⟨i,r⟩|⟨q,aC,k,n,hb,o,l,hm,hs,p⟩
 ·cases i
 injection n with i s m
 injection i with i
 injection i with i
 subst i;refine ⟨s_,.inr ⟨g,aC,k.setIfInBounds j u,by rw[m,iO],hb,?_,by rw[iO];exact l,hm,by simpa using hs,?_⟩⟩
 ·simp[World.setCell,Array.getElem?_modify,o]
 rw[iO,Array.toList_setIfInBounds,<-p];simp only[Nat.mul_one];rw[List.take_set,gC];congr 1
 have:k.toList.length=aC:=by simpa using hs
 rw[Nat.min_eq_left (by rw[this];exact l)]
def aH.far (h:aH w base e v xs) {p:Addr} (hp:v.ownBlock≠some p.block) (u:Value):aH (w.setCell p u) base e v xs:=by
 refine ⟨h.1,?_⟩;rcases h.2 with ⟨rfl,j⟩|⟨g,aC,i,rfl,hg,l,rest⟩
 ·exact .inl ⟨rfl,j⟩
 refine .inr ⟨g,aC,i,rfl,hg,(Below.heap_setCell w p u g ?_).trans l,rest⟩;intro k;exact hp (by rw[k];rfl)
def aH.ne_ {base':Nat} {j:TypeId} {k:Value} {l:List Value} (h:aH w base e v xs) (o:aH w base' j k l) (m:e≠j):v.ownBlock=none\/v.ownBlock≠k.ownBlock:=by
 rcases h.2 with ⟨rfl,_⟩|⟨g,aC,r,rfl,_,p,_⟩
 ·exact .inl rfl
 refine .inr fun hk=>?_;rcases o.2 with ⟨rfl,_⟩|⟨n,t,s,rfl,_,i,_⟩
 ·simp[Value.ownBlock] at hk
 have:g=n:=by simpa[Value.ownBlock] using hk
 subst this;rw[p] at i;injection i with i;injection i with _ q;exact m q
end
def b_ (w:W_) (v:Value) (e:List Value):Prop :=
 ∃A c,v=.slice A e.length c/\e.length<=c/\c<=9223372036854775807/\(0<e.length->∃b off,A=some ⟨b,off,none⟩/\∀j,j<e.length->w.cell? ⟨b,off+j,none⟩=e[j]?)
section
variable {xs:List Value}
def SN (g i j:Nat):(⟨g,i,none⟩:Addr).add j=⟨g,i+j,none⟩:=by unfold Addr.add;split<;>simp_all
def aH.reads (h:aH w base e v xs):b_ w v xs:=by
 rcases Nat.eq_zero_or_pos xs.length with m|m
 ·rcases h.2 with ⟨rfl,k⟩|⟨g,aC,l,rfl,_,_,i,hm,_⟩
  ·exact ⟨none,0,by rw[k],o_,o_,fun hp=>absurd hp o_⟩
  exact ⟨_,aC,rfl,i,hm,fun hp=>absurd hp o_⟩
 rcases h.2 with ⟨rfl,k⟩|⟨g,aC,l,rfl,_,_,i,hm,_⟩
 ·omega
 exact ⟨_,aC,rfl,i,hm,fun _=>⟨g,0,rfl,fun j n=>by rw[jm];exact h.cell j n⟩⟩
def b_.keep (h:b_ w v xs) (hk:∀p:Addr,p.block<w.heap.size->w'.cell? p=w.cell? p):b_ w' v xs:=by
 obtain ⟨A,c,rfl,i,k,l⟩:=h;refine ⟨A,c,rfl,i,k,fun hp=>?_⟩;obtain ⟨b,off,rfl,m⟩:=l hp;refine ⟨b,off,rfl,fun j g=>?_⟩;have e:=m j g;rw[cr g] at e ⊢;exact (hk _ (fV w _ e)).trans e
def b_.below (h:b_ w v xs) (hb:Below w.heap.size w w'):b_ w' v xs:=h.keep fun _ hp=>hb.cell hp
def b_.alloc (h:b_ w v xs) (o:Obj):b_ (w.alloc o) v xs:=h.keep fun p hp=>World.cell?_alloc_lt w o p hp
def b_.drewN (h:b_ w v xs) (n:Nat):b_ (w.drewN n) v xs:=h
def b_.drew (h:b_ w v xs):b_ w.drew v xs:=h
def b_.len (h:b_ w v xs):xs.length<=9223372036854775807:=by
 obtain ⟨A,c,rfl,e,g,i⟩:=h;omega
end
section
variable {ah:Array Oper} {rest:List Oper} {o:Oper} {a:Act} {Q:Exit->Act->W_->Prop}
def Bp (base:Nat) (R:o.guard=none) (s x:Operand) (t e:TypeId) (z:Value) (bytes:Nat)
  (I:o.op=.call { callee:=.builtin .append,args:=#[s,x],argTypes:=#[t,t] })
  (J:P.underlying t=some (.slice e)) (u:(P.info? e).map (fun i=>(i.zero,i.size,i.bytes))=some (some z,1,bytes)) (hz:z.cells.size=1) (O:0<bytes)
  (v:Value) (l:List Value) (y:Value) (hs:a.eval s=v) (M:a.eval x=.slice (some ⟨W.heap.size,0,none⟩) 1 1) (E:y.oneCell'=true)
  (n:aH W base e v l) (p:Below base w0 W) (q:base<=W.heap.size) (hl:(l.length+1)*bytes<=140737488355328)
  (h:∀g j,aH j base e g (l++[y])->Below base w0 j->W.grownBy j v.ownBlock->(g.ownBlock=v.ownBlock\/∃b,g.ownBlock=some b/\W.heap.size<=b)->wpList P ah Q rest (a.put o.dst g) j) :
  wpList P ah Q (o::rest) a (W.alloc (.cells #[y] e)):=by
 obtain ⟨N,G,d,c,f⟩:=info_parts u;have S:l.length+1<=140737488355328:=cL (Nat.le_mul_of_pos_right _ O) hl
 refine wpList_append_own_at (W.alloc (.cells #[y] e)) R s x t I base e N z 1 bytes J G d c f hz o_ v l.length l hs (World.ownsRow.alloc n _) ⟨W.heap.size,0,none⟩ 1 1 [y] M rfl
  (World.news_of_block (cs:=#[y]) (t:=e) (fr:=(0,0)) (heap_alloc_new W _)) (by simpa using E) (by simp only[maxLen];omega) hl (by simp;omega) ?_
 intro g j r hg _ m;refine h g j (by unfold aH;simpa using r) ((p.alloc q _).grown hg (by simp;omega) fun k hk=>(n.lt k hk).1) (z_az (World.grownBy_alloc W _ _) hg) ?_;rcases m with m|m
 ·exact .inl m
 exact .inr ⟨_,m,s_⟩
end
def bv (l:List UInt8):List Value:=l.map fun u=>.int .u8 u.toNat
def og (l:List UInt8):(bv l).length=l.length:=by simp[bv]
def w_E (l m:List UInt8):bv (l++m)=bv l++bv m:=by simp[bv]
def j5 (l:List UInt8) (i:Nat) (h:i<l.length):(bv l)[i]?=some (.int .u8 ((l.getD i 0).toNat:Int)):=by
 simp[bv,cr h]
def Xi (l:List UInt8) (i:Nat) (u:UInt8):(bv l).set i (.int .u8 u.toNat)=bv (l.set i u):=by
 simp[bv,List.map_set]
def bs (l:List UInt8):B_:=⟨l.toArray⟩
def J3 (s:B_):bs s.data.toList=s:=by simp[bs]
def AT (l:List UInt8):(bs l).data.toList=l:=by simp[bs]
def cG (l:List UInt8):(bs l).size=l.length:=rfl
def X0 {l m:List UInt8}:bs l=bs m↔l=m:=by
 constructor
 ·intro h
  have:=congrArg (fun s:B_=>s.data.toList) h;simpa[bs] using this
 intro h;rw[h]
def g5 (s:B_):s.data.toList.length=s.size:=rfl
def v_c (s:B_) (k:Nat):∀h:k<s.size,((s[k]'h).toNat:Int)=((s.data.toList.getD k 0).toNat:Int):=by
 intro h
 have e:k<s.data.toList.length:=by rw[g5];exact h
 rw[be,cr e];rfl
def UG {src dst:TypeId} {l:List UInt8} (hs:P.underlying src=some (.slice e)) (m:P.underlying e=some (.int .u8)) (k:P.underlying dst=some .string)
  (h:b_ w v (bv l)):(convert src dst v).run P w=.ok (.string (bs l)) w:=by
 have p:strOfNums (l.map fun u=>(u.toNat:Int))=bs l:=by
  unfold strOfNums bs;congr 2;rw[List.map_map]
  conv=>rhs;rw[<-List.map_id l]
  apply List.map_congr_left;intro u _;simp
 obtain ⟨A,c,rfl,x,y,q⟩:=h;rcases Nat.eq_zero_or_pos l.length with g|g
 ·obtain rfl:l=[]:=q_I g
  rcases A with _|o
  ·exact run_convert_bytes_nil w src e hs m 0 c dst k
  have hz:(loadCells o 0).run P w=.ok #[] w:=run_loadCells_list (P:=P) w o [] (fun j v s=>by simp at s);rw[run_convert_bytes_string w src dst e _ _ c hs m k];simp[Conv.bytesToString,bv,hz,bs];rfl
 obtain ⟨b,off,rfl,r⟩:=q (by rw[og];exact g);rw[<-p];refine run_convert_bytes_arg w src e hs m b off _ c _ (by simp[bv]) (fun i n=>?_) dst k;rw[r i n,j5 _ _ (by simpa[bv] using n)]
 have t:i<l.length:=by simpa[bv] using n
 simp[be,cr t]
def ab.c0 (h:ab w g t (x0::l).toArray):w.cell? ⟨g,0,none⟩=some x0:=h.cell 0
def ab.c1 (h:ab w g t (x0::x1::l).toArray):w.cell? ⟨g,1,none⟩=some x1:=h.cell 1
def ab.c2 (h:ab w g t (x0::x1::x2::l).toArray):w.cell? ⟨g,2,none⟩=some x2:=h.cell 2
def ab.c3 (h:ab w g t (x0::x1::x2::x3::l).toArray):w.cell? ⟨g,3,none⟩=some x3:=h.cell 3
def ab.c4 (h:ab w g t (x0::x1::x2::x3::x4::l).toArray):w.cell? ⟨g,4,none⟩=some x4:=h.cell 4
def ab.c5 (h:ab w g t (x0::x1::x2::x3::x4::x5::l).toArray):w.cell? ⟨g,5,none⟩=some x5:=h.cell 5
def ab.c6 (h:ab w g t (x0::x1::x2::x3::x4::x5::x6::l).toArray):w.cell? ⟨g,6,none⟩=some x6:=h.cell 6
def ab.c7 (h:ab w g t (x0::x1::x2::x3::x4::x5::x6::x7::l).toArray):w.cell? ⟨g,7,none⟩=some x7:=h.cell 7
def ab.c8 (h:ab w g t (x0::x1::x2::x3::x4::x5::x6::x7::x8::l).toArray):w.cell? ⟨g,8,none⟩=some x8:=h.cell 8
def ab.c9 (h:ab w g t (x0::x1::x2::x3::x4::x5::x6::x7::x8::x9::l).toArray):w.cell? ⟨g,9,none⟩=some x9:=h.cell 9
def ab.c10 (h:ab w g t (x0::x1::x2::x3::x4::x5::x6::x7::x8::x9::qS::l).toArray):w.cell? ⟨g,10,none⟩=some qS:=h.cell 10
def ab.c11 (h:ab w g t (x0::x1::x2::x3::x4::x5::x6::x7::x8::x9::qS::tO::l).toArray):w.cell? ⟨g,11,none⟩=some tO:=h.cell 11
def ab.c12 (h:ab w g t (x0::x1::x2::x3::x4::x5::x6::x7::x8::x9::qS::tO::wZ::l).toArray):w.cell? ⟨g,12,none⟩=some wZ:=h.cell 12
def ab.c13 (h:ab w g t (x0::x1::x2::x3::x4::x5::x6::x7::x8::x9::qS::tO::wZ::CK::l).toArray):w.cell? ⟨g,13,none⟩=some CK:=h.cell 13
def ab.c14 {e:Value} (h:ab w g t (x0::x1::x2::x3::x4::x5::x6::x7::x8::x9::qS::tO::wZ::CK::e::l).toArray):w.cell? ⟨g,14,none⟩=some e:=h.cell 14
def ab.c15 {i e:Value} (h:ab w g t (x0::x1::x2::x3::x4::x5::x6::x7::x8::x9::qS::tO::wZ::CK::i::e::l).toArray):w.cell? ⟨g,15,none⟩=some e:=h.cell 15
section
open GfM
end
section
open GfM
def Hj (a:UInt8) (n:Int):UInt8:=if n=0 then 1 else if a=0 then 0 else pw a (n % 255).toNat
def UO (n:Int):(wrap64 (n.tmod 255+255)).tmod 255=n % 255:=by
 have h:=Int.tmod_eq_emod (a:=n) (b:=255)
 have e:wrap64 (n.tmod 255+255)=n.tmod 255+255:=by
  rw[h];unfold wrap64;split<;>omega
 rw[e,h];split
 ·rw[Int.tmod_eq_emod_of_nonneg o_];omega
 rw[Int.tmod_eq_emod_of_nonneg o_];omega
def oi (k:Nat) (h:k<2 ^ 62):bits .and .i64 (k:Int) 1=((k % 2:Nat):Int):=by
 have:=(bits_nat .i64 62 d_ wX k 1 h d_).1;rw[Nat.and_one_is_mod] at this;exact this
def pow_odd (o c:UInt8) (k:Nat) (h:k % 2=1):cb (cb o c) (pw (cb c c) (k / 2))=cb o (pw c k):=by
 rw[sq_pw,x_D];congr 1;have:k=1+2*(k / 2):=o_
 conv=>rhs;rw[this,Ww,pw_one]
def ZQ (o c:UInt8) (k:Nat) (h:k % 2=0):cb o (pw (cb c c) (k / 2))=cb o (pw c k):=by
 rw[sq_pw,show 2*(k / 2)=k by omega]
def pv {a:UInt8} (h:a≠0):(((a.toNat:Nat):Int)==0)=false:=by
 have:=v_M h;rw[pN];omega
def zb (x n:Int) (a:UInt8) (r:x=(a.toNat:Int)) (w:W_) :
  Cl 162 #[.int .u8 x,.int .i64 n] w fun e w'=>e=.returned (.int .u8 ((Hj a n).toNat:Int))/\w=w':=by
 subst r;by_cases hn:n=0
 ·subst hn
  go_enter func162,ntmps162;go_wp2;go_ret;exact ⟨rfl,rfl⟩
 have v:(n==0)=false:=by simpa using hn
 by_cases ha:a=0
 ·subst ha
  have e:Hj 0 n=0:=by unfold Hj;rw[if_neg hn,if_pos rfl]
  rw[e];have l:=Zz hn;clear hn e;go_enter func162,ntmps162;go_wp2;go_ret;exact ⟨rfl,rfl⟩
 have b:=pv ha
 have e:Hj a n=pw a (n % 255).toNat:=by unfold Hj;rw[if_neg hn,if_neg ha]
 rw[e];have q:=UO n;obtain ⟨k,hk⟩:∃k:Nat,n % 255=k:=⟨(n % 255).toNat,o_⟩;have p:k<255:=o_;rw[hk] at q ⊢;simp only[Int.toNat_natCast];have l:=Zz hn;clear hn e hk;have u:=Zz ha;clear ha;go_enter func162,ntmps162;go_wp2
 go_loop [0,5,6] (fun s t g=>∃(c o:UInt8) (j:Nat),j<255/\cb o (pw c j)=pw a k/\s=.int .u8 c.toNat/\t=.int .u8 o.toNat/\g=.int .i64 j) (fun _ _ g=>(intOf g).toNat)
 case atStart=>exact ⟨a,1,k,p,one_mul _,rfl,rfl,rfl⟩
 case round =>
  obtain ⟨c,o,j,z,hg,rfl,rfl,rfl⟩:=hrel;have H:=Zz hg;clear hg;by_cases y:0<j
  ·by_cases i:j % 2=1
   ·have hb:(bits .and .i64 (j:Int) 1==1)=true:=by rw[oi j o_,i];rfl
    go_wp2_with (go_at_call 220;refine (qs _ _ _ _ rfl rfl _).mono ?_;rintro e w' ⟨rfl,rfl⟩)
    go_round
    case rel=>exact ⟨cb c c,cb o c,j / 2,o_,by rw[pow_odd o c j i];exact H.o,rfl,rfl,rfl⟩
    case measure=>simp[intOf];omega
   have hb:(bits .and .i64 (j:Int) 1==1)=false:=by rw[oi j o_,show j % 2=0 by omega];rfl
   go_wp2_with (go_at_call 220;refine (qs _ _ _ _ rfl rfl _).mono ?_;rintro e w' ⟨rfl,rfl⟩)
   go_round
   case rel=>exact ⟨cb c c,o,j / 2,o_,by rw[ZQ o c j o_];exact H.o,rfl,rfl,rfl⟩
   case measure=>simp[intOf];omega
  obtain rfl:j=0:=o_
  have h:o=pw a k:=by rw[<-H.o,yN,mul_one]
  have m:=Zz h;clear h H;go_wp2;go_ret;exact ⟨by rw[<-m.o];rfl,rfl⟩
end
section
open GfM
def eW (a b:List UInt8):List UInt8:=List.zipWith (· ^^^ ·) a b
def nM:(prog.info? 5).map (fun i=>(i.zero,i.size,i.bytes))=some (some (.int .u8 0),1,1):=k_
def Sp (a b:List UInt8) (i:Nat) (ha:i<a.length) (hb:i<b.length):eW (a.take (i+1)) (b.take (i+1))=eW (a.take i) (b.take i)++[a.getD i 0 ^^^ b.getD i 0]:=by
 unfold eW;rw[mx ha,mx hb,List.zipWith_append (by simp;omega)];simp[ha,hb]
def UH (a b:List UInt8) (i:Nat) (h:i=a.length\/i=b.length) (ha:i<=a.length) (hb:i<=b.length):eW (a.take i) (b.take i)=eW a b:=by
 unfold eW;rw[<-List.take_zipWith,kx];simp;omega
end
section
open GfM
def Xk (x:Int) (a:UInt8) (g:x=(a.toNat:Int)) (w:W_) :
  Cl 217 #[.int .u8 x] w fun e w'=>e=.returned (.tuple #[.int .u8 ((RW a).toNat:Int),.int .i64 (if a=0 then 6 else 0)])/\w=w':=by
 subst g;by_cases ha:a=0
 ·subst ha
  rw[if_pos rfl,YX];go_enter func217,ntmps217;go_wp2;go_ret2;exact ⟨rfl,rfl⟩
 rw[if_neg ha];have i:=pv ha
 have e:Hj a 254=RW a:=by
  rw[inv_pw a ha];unfold Hj;rw[if_neg d_,if_neg ha];rfl
 rw[<-e];have h:=Zz ha;clear ha e;go_enter func217,ntmps217
 go_wp2_with (go_at_call 162;refine (zb _ _ a rfl _).mono ?_;rintro e w' ⟨rfl,rfl⟩)
 go_ret2;exact ⟨rfl,rfl⟩
end
section
open GfM
def ev (w:W_) (g:Nat) (l:List UInt8) (aC:Nat):Prop :=
 l.length<=aC/\aC<=9223372036854775807/\∃(cs:Array Value) (fr:Nat × Nat),w.heap[g]?=some (.cells cs 5 fr)/\(∀j,j<aC->¬(fr.1<=j/\j<fr.2))/\l.length<=cs.size/\∀j,j<l.length->cs[j]?=(bv l)[j]?
section
variable {l:List UInt8}
def ev.lt (h:ev w g l aC):g<w.heap.size:=by
 obtain ⟨_,_,cs,fr,e,_⟩:=h;exact (F4.1 e).1
def ev.cell (h:ev w g l aC) (j:Nat) (e:j<l.length):w.cell? ⟨g,j,none⟩=some (.int .u8 ((l.getD j 0).toNat:Int)):=by
 obtain ⟨_,_,cs,fr,k,_,_,i⟩:=h;rw[cell_of_row w g j cs 5 fr k,i j e,j5 l j e]
def ev.frozen (h:ev w g l aC) (j:Nat) (k:j<aC):w.frozen? ⟨g,j,none⟩=false:=by
 obtain ⟨_,_,cs,fr,i,e,_⟩:=h;obtain ⟨lo,m⟩:=fr;have:=e j k;simp only at this;simp[World.frozen?,i];omega
def ev.set_ (h:ev w g l aC) (j:Nat) (u:UInt8):ev (w.setCell ⟨g,j,none⟩ (.int .u8 u.toNat)) g (l.set j u) aC:=by
 obtain ⟨i,m,cs,fr,p,o,hs,n⟩:=h;refine ⟨by simpa using i,m,cs.setIfInBounds j (.int .u8 u.toNat),fr,?_,o,by simpa using hs,?_⟩
 ·simp[World.setCell,Array.getElem?_modify,p]
 intro k hk;rw[iO] at hk;rw[<-Xi,Array.getElem?_setIfInBounds,BA,og];by_cases e:j=k
 ·subst e
  rw[if_pos rfl,if_pos o_,if_pos rfl,if_pos hk]
 rw[if_neg e,if_neg e];exact n k hk
def ev.drew (h:ev w g l aC):ev w.drew g l aC:=h
def ev.drewN (h:ev w g l aC) (n:Nat):ev (w.drewN n) g l aC:=h
def ev.reads (h:ev w g l aC):b_ w (.slice (some ⟨g,0,none⟩) l.length aC) (bv l):=by
 refine ⟨some ⟨g,0,none⟩,aC,by rw[og],by rw[og];exact h.1,h.2.1,fun _=>⟨g,0,rfl,fun j e=>?_⟩⟩;rw[og] at e;rw[jm,h.cell j e,j5 l j e]
def ev.below (h:ev w g l aC) (hb:Below B w w') (hg:g<B):ev w' g l aC:=by
 obtain ⟨e,i,cs,fr,j,rest⟩:=h;exact ⟨e,i,cs,fr,(hb.block g hg).trans j,rest⟩
end
def ev.alloc {l:List UInt8} (h:ev w g l aC) (o:Obj):ev (w.alloc o) g l aC:=h.below (B:=w.heap.size) ((Below.refl _ _).alloc (bS _) o) h.lt
def ev.far {l:List UInt8} (h:ev w g l aC) {p:Addr} (hp:g≠p.block) (u:Value):ev (w.setCell p u) g l aC:=by
 obtain ⟨e,i,cs,fr,j,rest⟩:=h;exact ⟨e,i,cs,fr,(Below.heap_setCell w p u g hp).trans j,rest⟩
def ev.grown {l:List UInt8} (h:ev w g l aC) (hb:w.grownBy w' row) (hg:some g≠row):ev w' g l aC:=by
 have e:=h.lt;obtain ⟨i,j,cs,fr,k,rest⟩:=h;exact ⟨i,j,cs,fr,(hb.block g e hg).trans k,rest⟩
def ev.of_own {l:List UInt8} (h:aH w base 5 (.slice (some ⟨g,0,none⟩) l.length aC) (bv l)):ev w g l aC:=by
 rcases h.2 with ⟨e,_⟩|⟨r,t,i,n,hb,o,m,hm,hs,q⟩
 ·cases e
 injection n with e s k
 injection e with e
 injection e with e
 subst e k;rw[og] at *;refine ⟨m,hm,i,(0,0),o,fun j _=>s_,by simp at hs;omega,fun j p=>?_⟩;rw[<-q];simp only[Nat.mul_one];rw[List.getElem?_take,if_pos p];simp
def ev.ne_ {i:Nat} {l:List UInt8} {t:TypeId} (h:ev w g l aC) (e:ab w i t cs) (j:(5:Nat)≠t):g≠i:=by
 rintro rfl;obtain ⟨_,_,n,fr,k,_⟩:=h;unfold ab at e;rw[k] at e;injection e with e;injection e with _ m;exact j m
def ev.made_zero (W:W_) (n:Nat) (h:n<=140737488351232):ev (W.alloc (.cells (madeCells #[.int .u8 0] n) 5)) W.heap.size (List.replicate n 0) n:=by
 refine ⟨s_,o_,madeCells #[.int .u8 0] n,(0,0),heap_alloc_new W _,fun j _=>s_,by simp[size_madeCells],fun j e=>?_⟩
 have g:j<n:=by simpa using e
 rw[j5 _ _ e];simp[madeCells,g,Nat.mod_one,be]
def pH (w:W_) (s:B_) (h:s.size<=140737488351232):s.size<=grownCap w s.size 0 5/\grownCap w s.size 0 5<=9223372036854775807:=by
 refine ⟨grownCap_ge w s.size 0 5,?_⟩;have:=grownCap_le_maxLen w s.size 0 5 (by simp only[maxLen];omega);simpa[maxLen] using this
def ev.made (w:W_) (s:B_) (l:List UInt8) (hl:l=s.data.toList) (h:s.size<=140737488351232):ev (Lib.bytesWorld w 5 s) w.heap.size l (grownCap w s.size 0 5):=by
 obtain ⟨i,m⟩:=pH w s h;subst hl
 have g:(Lib.bytesCells w 5 s).size=grownCap w s.size 0 5:=by
  have:s.data.size=s.size:=rfl;simp only[Lib.bytesCells,Array.size_append,Array.size_map,Array.size_replicate];omega
 refine ⟨by rw[g5];exact i,m,_,_,Lib.bytesWorld_at_new w 5 s,?_,?_,?_⟩
 ·intro j e
  rw[g];simp only;omega
 ·rw[g,g5];exact i
 intro j e;rw[g5] at e;have k:=Lib.bytesWorld_cell w 5 s j e;rw[cell_of_row _ _ j _ _ _ (Lib.bytesWorld_at_new w 5 s)] at k;rw[k,j5 _ _ (by rw[g5];exact e)]
def SG (a:UInt8) (l:List UInt8) (i:Nat):List UInt8:=(l.take i).map (cb a)++l.drop i
def z_aA (a:UInt8) (l:List UInt8) (i:Nat):(SG a l i).length=l.length:=by
 simp[SG];omega
def FM (a:UInt8) (l:List UInt8):SG a l 0=l:=by simp[SG]
def KT (a:UInt8) (l:List UInt8):SG a l l.length=l.map (cb a):=by simp[SG]
def Qj (a:UInt8) (l:List UInt8) (i:Nat) (h:i<l.length):(SG a l i).getD i 0=l.getD i 0:=by
 simp only[SG,be];rw[uS (by simp;omega),fW,gC,Nat.min_eq_left o_,Nat.sub_self,List.getElem?_drop,Nat.add_zero]
def Ff (a:UInt8) (l:List UInt8) (i:Nat) (h:i<l.length):(SG a l i).set i (cb a (l.getD i 0))=SG a l (i+1):=by
 simp only[SG]
 rw[List.set_append_right _ _ (by simp;omega),fW,gC,Nat.min_eq_left o_,Nat.sub_self,List.drop_eq_getElem_cons h,List.set_cons_zero,
  mx h,List.map_append,List.append_assoc]
 simp[be,h]
def sC (x:Int) (a:UInt8) (c:x=(a.toNat:Int)) (s:B_) (l:List UInt8) (hl:l=s.data.toList) (hs:s.size<=140737488351232) (w:W_) :
  Cl 161 #[.int .u8 x,.string s] w fun e w'=>e=.returned (.string (bs (l.map (cb a))))/\Below w.heap.size w w':=by
 subst c;have d:=Lib.run_convert_string_bytes (P:=prog) w 9 105 5 s underlying9 underlying105 underlying5;have g:=ev.made w s l hl hs;have LE:=Lib.bytesWorld_below w 5 s
 have m:l.length=s.size:=by rw[hl];exact g5 s
 have hg:=g.lt;generalize Lib.bytesWorld w 5 s=w0 at *;generalize grownCap w s.size 0 5=aC at *;have h:=Zz m;have f:=g.1;rw[m] at f;have E:=g.2.1;clear hl m;go_enter func161,ntmps161;go_wp2;clear d
 go_loopw [6,11] (fun _ o wr=>∃i:Nat,i<=s.size/\o=.int .i64 i/\ev wr w.heap.size (SG a l i) aC/\Below w.heap.size w wr) (fun _ o _=>s.size-(intOf o).toNat)
 case atStart=>exact ⟨0,o_,rfl,by rw[FM];exact g,LE⟩
 case round =>
  obtain ⟨i,G,rfl,j,p⟩:=hrel;by_cases z:i<s.size
  ·have n:i<l.length:=by rw[h.o];exact z
   have y:=j.cell i (by rw[z_aA];exact n);rw[Qj a l i n] at y;have I:=j.frozen i o_;have k:=j.set_ i (cb a (l.getD i 0));rw[Ff a l i n] at k;generalize l.getD i 0=u at *;have v:=Zz k;clear k
   go_wp2_with (go_at_call 220;refine (qs _ _ a u rfl rfl _).mono ?_;rintro e w' ⟨rfl,rfl⟩)
   go_roundw
   case rel=>exact ⟨i+1,o_,by go_num,v.o,p.setCell s_ _⟩
   case measure=>simp[intOf];omega
  obtain rfl:i=s.size:=o_;have q:=j.reads;rw[z_aA,h.o] at q;have b:=UG (P:=prog) (src:=105) (dst:=9) underlying105 underlying5 underlying9 q;rw[<-h.o,KT,h.o] at b;generalize t:l.map (cb a)=r at *;have HR:=Zz t;clear t;go_wp2;go_ret;exact ⟨by rw[HR.o];rfl,p⟩
end
section
open GfM
def w_o (a b:List UInt8):(eW a b).length=min a.length b.length:=by simp[eW]
def mz (a b:List UInt8) (n i:Nat):List UInt8:=eW (a.take i) (b.take i)++List.replicate (n-i) 0
def py (a b:List UInt8) (n i:Nat) (e:i<=n) (ha:n<=a.length) (hb:n<=b.length):(mz a b n i).length=n:=by
 simp[mz,eW];omega
def xA (a b:List UInt8) (n:Nat):mz a b n 0=List.replicate n 0:=by simp[mz,eW]
def Dm (a b:List UInt8) (n:Nat) (hn:n=min a.length b.length):mz a b n n=eW a b:=by
 unfold mz;rw[Nat.sub_self,List.replicate_zero,List.append_nil];exact UH a b n o_ o_ o_
def xW (a b:List UInt8) (n i:Nat) (e:i<n) (ha:n<=a.length) (hb:n<=b.length):(mz a b n i).set i (a.getD i 0 ^^^ b.getD i 0)=mz a b n (i+1):=by
 have hl:(eW (a.take i) (b.take i)).length=i:=by simp[eW];omega
 unfold mz;rw[List.set_append_right _ _ o_,hl,Nat.sub_self,Sp a b i o_ o_,List.append_assoc];congr 1;rw[show n-i=(n-(i+1))+1 by omega,List.replicate_succ,List.set_cons_zero];rfl
def r7 (m:Nat) (hm:m<=140737488355328):∀W:W_,(Instr.makeSlice 105 (.int .i64 m) (.int .i64 m)).run prog W=.ok (.slice (some ⟨W.heap.size,0,none⟩) m m) (W.alloc (.cells (madeCells #[.int .u8 0] m) 5)):=by
 intro W;exact run_make_row' 105 5 (.int .u8 0) 1 underlying105 nM rfl .i64 .i64 m o_ o_ W
def xor_le (s t:B_) (a b:List UInt8) (hs:a=s.data.toList) (o:b=t.data.toList) (X:s.size<=t.size) (N:s.size<=140737488351232) (w:W_) :
  Cl 160 #[.string s,.string t] w fun e w'=>e=.returned (.string (bs (eW a b)))/\Below w.heap.size w w':=by
 have v:∀i,∀h:i<s.size,((s[i]'h).toNat:Int)=((a.getD i 0).toNat:Int):=by subst hs;exact v_c s
 have u:∀i,∀h:i<t.size,((t[i]'h).toNat:Int)=((b.getD i 0).toNat:Int):=by subst o;exact v_c t
 have I:a.length=s.size:=by subst hs;exact g5 s
 have G:b.length=t.size:=by subst o;exact g5 t
 have d:=ev.made_zero w s.size N;have J:=Zz v;clear v;have M:=Zz u;clear u;have j:=Zz I;clear I;have k:=Zz G;clear G;have R:=Zz d;clear d;have Q:=r7 s.size o_;clear hs o;go_enter func160,ntmps160;go_wp2;clear Q
 go_loopw [6,15] (fun _ p wr=>∃i:Nat,i<=s.size/\p=.int .i64 i/\ev wr w.heap.size (mz a b s.size i) s.size/\Below w.heap.size w wr) (fun _ p _=>s.size-(intOf p).toNat)
 case atStart=>exact ⟨0,o_,rfl,by rw[xA];exact R.o,((Below.refl _ _).alloc (bS _) _)⟩
 case round =>
  obtain ⟨i,A,rfl,g,f⟩:=hrel;by_cases c:i<s.size
  ·have T:=J.o i
   have U:=M.o i;have B:=g.frozen i o_;have m:=py a b s.size i o_ (by have:=j.o;omega) (by have:=k.o;omega);have V:=g.cell i (by rw[m];exact c);have l:=g.set_ i (a.getD i 0 ^^^ b.getD i 0);rw[xW a b s.size i c (by have:=j.o;omega) (by have:=k.o;omega)] at l;have W:=z_ae (a.getD i 0) (b.getD i 0);generalize (mz a b s.size i).getD i 0=u0 at *;generalize a.getD i 0=x at *;generalize b.getD i 0=y at *;generalize x ^^^ y=z at *;have O:=Zz l;clear l;have S:=Zz m;clear m;go_wp2
   go_region
   go_wp2;go_roundw
   case rel=>exact ⟨i+1,o_,by go_num,O.o.drew,(f.setCell s_ _).drew⟩
   case measure=>simp[intOf];omega
  obtain rfl:i=s.size:=o_;have n:=g.reads;rw[Dm a b s.size (by have:=j.o;have:=k.o;omega)] at n
  have q:(eW a b).length=s.size:=by rw[w_o];have:=j.o;have:=k.o;omega
  rw[q] at n;have Y:=UG (P:=prog) (src:=105) (dst:=9) underlying105 underlying5 underlying9 n;generalize E:eW a b=r at *;have HR:=Zz E;clear E;have Z:=Zz q;clear q;go_wp2;go_ret;exact ⟨by rw[HR.o];rfl,f⟩
def xor_ge (s t:B_) (a b:List UInt8) (hs:a=s.data.toList) (o:b=t.data.toList) (X:t.size<s.size) (N:t.size<=140737488351232) (w:W_) :
  Cl 160 #[.string s,.string t] w fun e w'=>e=.returned (.string (bs (eW a b)))/\Below w.heap.size w w':=by
 have v:∀i,∀h:i<s.size,((s[i]'h).toNat:Int)=((a.getD i 0).toNat:Int):=by subst hs;exact v_c s
 have u:∀i,∀h:i<t.size,((t[i]'h).toNat:Int)=((b.getD i 0).toNat:Int):=by subst o;exact v_c t
 have I:a.length=s.size:=by subst hs;exact g5 s
 have G:b.length=t.size:=by subst o;exact g5 t
 have d:=ev.made_zero w t.size N;have J:=Zz v;clear v;have M:=Zz u;clear u;have j:=Zz I;clear I;have k:=Zz G;clear G;have R:=Zz d;clear d;have Q:=r7 t.size o_;clear hs o;go_enter func160,ntmps160;go_wp2;clear Q
 go_loopw [6,15] (fun _ p wr=>∃i:Nat,i<=t.size/\p=.int .i64 i/\ev wr w.heap.size (mz a b t.size i) t.size/\Below w.heap.size w wr) (fun _ p _=>t.size-(intOf p).toNat)
 case atStart=>exact ⟨0,o_,rfl,by rw[xA];exact R.o,((Below.refl _ _).alloc (bS _) _)⟩
 case round =>
  obtain ⟨i,A,rfl,g,f⟩:=hrel;by_cases c:i<t.size
  ·have T:=J.o i
   have U:=M.o i;have B:=g.frozen i o_;have m:=py a b t.size i o_ (by have:=j.o;omega) (by have:=k.o;omega);have V:=g.cell i (by rw[m];exact c);have l:=g.set_ i (a.getD i 0 ^^^ b.getD i 0);rw[xW a b t.size i c (by have:=j.o;omega) (by have:=k.o;omega)] at l;have W:=z_ae (a.getD i 0) (b.getD i 0);generalize (mz a b t.size i).getD i 0=u0 at *;generalize a.getD i 0=x at *;generalize b.getD i 0=y at *;generalize x ^^^ y=z at *;have O:=Zz l;clear l;have S:=Zz m;clear m;go_wp2
   go_region
   go_wp2;go_roundw
   case rel=>exact ⟨i+1,o_,by go_num,O.o.drew,(f.setCell s_ _).drew⟩
   case measure=>simp[intOf];omega
  obtain rfl:i=t.size:=o_;have n:=g.reads;rw[Dm a b t.size (by have:=j.o;have:=k.o;omega)] at n
  have q:(eW a b).length=t.size:=by rw[w_o];have:=j.o;have:=k.o;omega
  rw[q] at n;have Y:=UG (P:=prog) (src:=105) (dst:=9) underlying105 underlying5 underlying9 n;generalize E:eW a b=r at *;have HR:=Zz E;clear E;have Z:=Zz q;clear q;go_wp2;go_ret;exact ⟨by rw[HR.o];rfl,f⟩
def AO (s t:B_) (a b:List UInt8) (hs:a=s.data.toList) (g:b=t.data.toList) (i:min s.size t.size<=140737488351232) (w:W_) :
  Cl 160 #[.string s,.string t] w fun e w'=>e=.returned (.string (bs (eW a b)))/\Below w.heap.size w w':=by
 by_cases h:s.size<=t.size
 ·exact xor_le s t a b hs g h o_ w
 exact xor_ge s t a b hs g o_ o_ w
end
section
open GfM
def sv (T:List B_):List Value:=T.map Value.string
def cN (T:List B_):(sv T).length=T.length:=by simp[sv]
def x_q (T U:List B_):sv (T++U)=sv T++sv U:=by simp[sv]
def tl (T:List B_) (i:Nat):B_:=T.getD i ByteArray.empty
def tb (T:List B_) (i:Nat):List UInt8:=(tl T i).data.toList
def x_E (T:List B_) (i:Nat):(tb T i).length=(tl T i).size:=rfl
def NA (T:List B_) (i:Nat) (h:i<T.length):T[i]?=some (tl T i):=by
 simp[tl,h]
def iQ (T:List B_) (i:Nat) (h:i<T.length):(sv T)[i]?=some (.string (tl T i)):=by
 rw[sv,gq,NA T i h];rfl
def w_M (T:List B_) (i:Nat) (s:B_):(sv T).set i (.string s)=sv (T.set i s):=by simp[sv,List.map_set]
def sv_take (T:List B_) (i:Nat):(sv T).take i=sv (T.take i):=by simp[sv,List.map_take]
def K7 (T:List B_) (i:Nat) (h:i<T.length):tl T i∈T:=List.mem_of_getElem? (NA T i h)
def RA {s:B_} (h:s∈T):∃i,i<T.length/\tl T i=s:=by
 obtain ⟨i,e,g⟩:=List.getElem_of_mem h;exact ⟨i,e,by simp[tl,e,g]⟩
def z_ac (T U:List B_) (i:Nat):tl (T++U) i=if i<T.length then tl T i else tl U (i-T.length):=by
 unfold tl;by_cases h:i<T.length
 ·rw[if_pos h,be,A3 h,be]
 rw[if_neg h,be,uS (Nat.le_of_not_lt h),be]
def yW (T:List B_) (i j:Nat) (s:B_) (h:i<T.length):tl (T.set i s) j=if j=i then s else tl T j:=by
 unfold tl;by_cases e:j=i
 ·subst e;simp[h]
 rw[if_neg e];simp[BA,Ne.symm e]
def Sw (T:List B_):Prop:=∀i,i<T.length->(tl T i).size=(tl T 0).size
open Classical in
noncomputable def uU (T:List B_):Int:=if Sw T then (if 0<T.length/\65536<(tl T 0).size then 5 else 0) else 7
def kL (h:Sw T) (hs:(tl T 0).size<=65536):uU T=0:=by
 unfold uU;rw[if_pos h,if_neg o_]
def shE_ok (h:uU T=0):Sw T/\(0<T.length->(tl T 0).size<=65536):=by
 unfold uU at h;by_cases e:Sw T
 ·rw[if_pos e] at h
  refine ⟨e,fun hp=>?_⟩;by_cases g:0<T.length/\65536<(tl T 0).size
  ·rw[if_pos g] at h;cases h
  omega
 rw[if_neg e] at h;cases h
def W7 (h:Sw T) (hp:0<T.length) (hs:65536<(tl T 0).size):uU T=5:=by
 unfold uU;rw[if_pos h,if_pos ⟨hp,hs⟩]
def shE_odd (h:¬Sw T):uU T=7:=by unfold uU;rw[if_neg h]
def Qw (h:¬Sw T):∃i,i<T.length/\(tl T i).size≠(tl T 0).size/\∀j,j<i->(tl T j).size=(tl T 0).size:=by
 have m:∃i,i<T.length/\(tl T i).size≠(tl T 0).size:=by
  apply Classical.byContradiction;intro hn;apply h;intro i e;apply Classical.byContradiction;intro k;exact hn ⟨i,e,k⟩
 obtain ⟨i,e⟩:=m
 induction i using Nat.strongRecOn with
 | ind i n =>
  by_cases l:∃j,j<i/\(tl T j).size≠(tl T 0).size
  ·obtain ⟨j,g,o⟩:=l
   exact n j g ⟨o_,o⟩
  refine ⟨i,e.1,e.2,fun j g=>?_⟩;apply Classical.byContradiction;intro k;exact l ⟨j,g,k⟩
def Aw (a b:List UInt8) (k:Nat) (ha:k<a.length) (hb:k<b.length):(eW a b).getD k 0=a.getD k 0 ^^^ b.getD k 0:=by
 simp[eW,List.getElem?_zipWith,ha,hb]
def OG {a b:List UInt8} {n:Nat} (ha:a.length=n) (hb:b.length=n) (h:∀k,k<n->a.getD k 0=b.getD k 0):a=b:=by
 apply i2 o_;intro k e g;have:=h k o_;simpa[be,e,g] using this
def wt (i:Nat):UInt8:=Hj 2 (i:Int)
def pb (T:List B_) (k:Nat):Nat->UInt8
 | 0=>0
 | i+1=>pb T k i ^^^ (tb T i).getD k 0
def qb (T:List B_) (k:Nat):Nat->UInt8
 | 0=>0
 | i+1=>qb T k i ^^^ cb (wt i) ((tb T i).getD k 0)
def pp (T:List B_) (n:Nat):Nat->List UInt8
 | 0=>List.replicate n 0
 | i+1=>eW (pp T n i) (tb T i)
def qq (T:List B_) (n:Nat):Nat->List UInt8
 | 0=>List.replicate n 0
 | i+1=>eW (qq T n i) ((tb T i).map (cb (wt i)))
def Cj (f:UInt8->UInt8) (l:List UInt8) (k:Nat) (h:k<l.length):(l.map f).getD k 0=f (l.getD k 0):=by simp[h]
def ms (T:List B_) (n i:Nat) (h:∀j,j<i->(tl T j).size=n):(pp T n i).length=n:=by
 induction i with
 | zero=>simp[pp]
 | succ i e=>rw[pp,w_o,e (fun j g=>h j o_),x_E,h i o_,Nat.min_self]
def mP (T:List B_) (n i:Nat) (h:∀j,j<i->(tl T j).size=n):(qq T n i).length=n:=by
 induction i with
 | zero=>simp[qq]
 | succ i e=>rw[qq,w_o,e (fun j g=>h j o_),fW,x_E,h i o_,Nat.min_self]
def pp_at (T:List B_) (n i k:Nat) (h:∀j,j<i->(tl T j).size=n) (hk:k<n):(pp T n i).getD k 0=pb T k i:=by
 induction i with
 | zero=>simp[pp,pb,hk]
 | succ i g =>
  have e:∀j,j<i->(tl T j).size=n:=fun j l=>h j o_;rw[pp,pb,Aw _ _ _ (by rw[ms T n i e];exact hk) (by rw[x_E,h i o_];exact hk),g e]
def qq_at (T:List B_) (n i k:Nat) (h:∀j,j<i->(tl T j).size=n) (hk:k<n):(qq T n i).getD k 0=qb T k i:=by
 induction i with
 | zero=>simp[qq,qb,hk]
 | succ i g =>
  have e:∀j,j<i->(tl T j).size=n:=fun j l=>h j o_
  have hl:k<(tb T i).length:=by rw[x_E,h i o_];exact hk
  rw[qq,qb,Aw _ _ _ (by rw[mP T n i e];exact hk) (by rw[fW];exact hl),g e,Cj _ _ _ hl]
def nn (T:List B_):Nat:=(tl T 0).size
noncomputable def enE (T:List B_):Int:=if T.length<1\/8<T.length then 2 else uU T
open Classical in
noncomputable def enP (T:List B_):List UInt8:=if enE T=0 then pp T (nn T) T.length else []
open Classical in
noncomputable def enQ (T:List B_):List UInt8:=if enE T=0 then qq T (nn T) T.length else []
def Ao (h:enE T=0):1<=T.length/\T.length<=8/\(∀j,j<T.length->(tl T j).size=nn T)/\nn T<=65536:=by
 unfold enE at h;by_cases e:T.length<1\/8<T.length
 ·rw[if_pos e] at h;cases h
 rw[if_neg e] at h;obtain ⟨g,i⟩:=shE_ok h;exact ⟨o_,o_,g,i o_⟩
def enE_of (h:1<=T.length) (i:T.length<=8) (e:∀j,j<T.length->(tl T j).size=nn T) (g:nn T<=65536):enE T=0:=by
 unfold enE;rw[if_neg o_];exact kL e g
end
section
open GfM
def D1 {t:TypeId} (h:w.heap[g]?=some (.cells cs t (0,0))) (i:Nat):w.frozen? ⟨g,i,none⟩=false:=by simp[World.frozen?,h]
def XB {t:TypeId} (h:w.heap[g]?=some (.cells cs t (0,0))) (i:Nat) (u:Value):(w.setCell ⟨g,i,none⟩ u).heap[g]?=some (.cells (cs.setIfInBounds i u) t (0,0)):=by
 simp[World.setCell,Array.getElem?_modify,h]
def yS (g j:Nat):(⟨g,0,none⟩:Addr).add j=⟨g,j,none⟩:=by rw[SN,jm]
def x_5 :∀(vs:List Value) (o:Nat) {w:W_} (k:Nat),k≠g->(w.setCells g o vs).heap[k]?=w.heap[k]?
 | [],_,_,_,_=>rfl
 | v::r,o,w,k,hk=>by
  rw[World.setCells,x_5 r (o+1) k hk];exact Below.heap_setCell w ⟨g,o,none⟩ v k hk
def v_s (g:Nat):∀(vs:List Value) (o:Nat) (w:W_),(w.setCells g o vs).os=w.os/\(w.setCells g o vs).tape=w.tape/\(w.setCells g o vs).output=w.output/\(w.setCells g o vs).heap.size=w.heap.size
 | [],_,_=>⟨rfl,rfl,rfl,rfl⟩
 | v::r,o,w=>by
  obtain ⟨e,h,i,j⟩:=v_s g r (o+1) (w.setCell ⟨g,o,none⟩ v);rw[World.setCells];exact ⟨e,h,i,by rw[j];simp[World.setCell]⟩
def v_W :∀(vs:List Value) (o:Nat) (w:W_) (i:Array Value),w.heap[g]?=some (.cells i e (0,0))->o+vs.length<=i.size ->
  ∃j,(w.setCells g o vs).heap[g]?=some (.cells j e (0,0))/\j.size=i.size/\j.toList=i.toList.take o++vs++i.toList.drop (o+vs.length)
 | [],o,w,i,h,_=>⟨i,h,rfl,s_⟩
 | v::r,o,w,i,h,hl=>by
  have l:=XB h o v;simp only[List.length_cons] at hl;obtain ⟨j,m,n,p⟩:=v_W r (o+1) (w.setCell ⟨g,o,none⟩ v) _ l (by simp;omega);refine ⟨j,m,by rw[n];simp,?_⟩;rw[p,Array.toList_setIfInBounds]
  have q:o<i.toList.length:=by rw[Array.length_toList];omega
  rw[List.take_set,List.drop_set_of_lt o_];simp only[List.length_cons];rw[show o+1+r.length=o+(r.length+1) by omega];congr 1;rw[mx q,List.set_append_right _ _ (by rw[gC];omega)];have k:o<i.size:=o_;simp[Nat.min_eq_left (Nat.le_of_lt k)]
section
def nt (w:W_) (base:Nat) (t N F e:TypeId) (i:TypeInfo) (z:Value) (size bytes:Nat) (s:P.underlying t=some (.slice e)) {k:IntKind} (y:P.underlying N=some (.int k)) (r:P.info? e=some i) (hz:i.zero=some z)
  (h8:i.size=size) (h0:i.bytes=bytes) (T:z.cells.size=size) (H9:0<size) (H1:0<bytes)
  (v:Value) (n:Nat) (l:List Value) (p:w.ownsRow base e size v n l) (D:IntKind) (m:Nat) (Y:∀u∈(Builtin.zeroCells z.cells m).toList,u.oneCell'=true)
  (I:(n+m)*bytes<=140737488355328) (h2:base<=w.heap.size) :
  ∃d w',(Builtin.append_ #[t,N] F #[v,.int D m]).run P w=.ok d w'/\w'.ownsRow base e size d (n+m) (l++(Builtin.zeroCells z.cells m).toList)/\w.grownBy w' v.ownBlock /\
   (d.ownBlock=v.ownBlock\/d.ownBlock=some w.heap.size):=by
 subst h8;subst h0;have x0:n+m<=140737488355328:=cL (Nat.le_mul_of_pos_right _ H1) I
 have h1:n+m<=maxLen:=by simp only[maxLen];omega
 have Z:IntKind.i64.wrap (m:Int)=m:=by rw[eM];omega
 have E:IntKind.i64.wrap 0=0:=by rw[eM];rfl
 have R:¬((m:Int)<0):=o_;have H8:m*i.bytes<=140737488355328:=cL (Nat.mul_le_mul_right _ (Nat.le_add_left m n)) I
 have C:¬(281474976710656<(m:Int)*(i.bytes:Int)):=by
  rw[<-Int.natCast_mul];omega
 have X:i.size≠0:=o_;obtain ⟨news,J⟩:∃news,news=(Builtin.zeroCells z.cells m).toList:=⟨_,rfl⟩;rw[<-J] at Y ⊢
 have hl:news.length=m*i.size:=by rw[J,Array.length_toList,size_zeroCells,T]
 have U:Builtin.zeroCells z.cells m=news.toArray:=by rw[J]
 have b:(l++news).length=(n+m)*i.size:=by rw[cd,p.1,hl,Nat.add_mul]
 have G:m=0->news=[]:=fun h=>q_I (by rw[hl,h,Nat.zero_mul])
 have grown:∀(o:Nat),o<n+m->∀(row:Option Nat),
   (w.drew.alloc (.cells (l.toArray++news.toArray++Builtin.zeroCells z.cells (grownCap w (n+m) o e-(n+m))) e)).ownsRow base e i.size
    (.slice (some ⟨w.heap.size,0,none⟩) (n+m) (grownCap w (n+m) o e)) (n+m) (l++news) /\
   w.grownBy (w.drew.alloc (.cells (l.toArray++news.toArray++Builtin.zeroCells z.cells (grownCap w (n+m) o e-(n+m))) e)) row:=by
  intro o x2 row;have H3:=grownCap_ge w (n+m) o e;have O:grownCap w (n+m) o e<=maxLen:=grownCap_le_maxLen w (n+m) o e h1;refine ⟨⟨b,.inr ⟨w.heap.size,_,_,rfl,h2,heap_alloc_new w.drew _,H3,O,?_,?_⟩⟩,⟨rfl,rfl,rfl,s_,fun k hk _=>heap_alloc_old w.drew _ hk⟩⟩
  ·simp only[Array.size_append,tK,size_zeroCells,T,p.1,hl,<-Nat.add_mul]
   congr 1;omega
  simp only[Array.toList_append,List.append_assoc];rw[<-List.append_assoc,<-b];exact List.take_left
 have runs:∀(A:Option Addr) (aC:Nat),aC<n+m->(Builtin.firstCells i.size n (.slice A n aC)).run P w.drew=.ok l.toArray w.drew->(Builtin.append_ #[t,N] F #[.slice A n aC,.int D m]).run P w =
   .ok (.slice (some ⟨w.heap.size,0,none⟩) (n+m) (grownCap w (n+m) aC e)) (w.drew.alloc (.cells (l.toArray++news.toArray++Builtin.zeroCells z.cells (grownCap w (n+m) aC e-(n+m))) e)):=by
  intro A aC H2 V;have hn:¬(n+m<=aC):=o_;have S:¬(9223372036854775807<((n:Int)+(m:Int))):=o_;have B:=growslice_fits H2 I;have Q:¬(281474976710656<Builtin.nextslicecap (n+m) aC*i.bytes):=o_;by_cases hm:m=0
  ·have x:=G hm
   subst hm;rw[x];simp only[Nat.add_zero] at hn S Q ⊢;have h63'':¬(9223372036854775807<(n:Int)):=o_;simp[Builtin.append_,run_underlying s,run_underlying y,sizeOf,typeInfo,zeroValue,r,hz,asInt,asIntOf,E,hn,h63'',Q,Question.forced,V,newRow,grownCap]
  have f:¬(m*i.size=0):=Nat.mul_ne_zero hm X;simp[Builtin.append_,run_underlying s,run_underlying y,sizeOf,typeInfo,zeroValue,r,hz,asInt,asIntOf,Z,R,C,hn,S,Q,Question.forced,V,newRow,grownCap,f,U];congr 2;apply Array.ext';simp[List.append_assoc]
 rcases p.2 with ⟨rfl,rfl⟩|⟨g,aC,c,rfl,h7,hg,L,O,W,H⟩
 ·have h9:l=[]:=q_I (by simpa using p.1)
  subst h9;by_cases hm:m=0
  ·have x:=G hm
   subst hm;rw[x];refine ⟨.slice none 0 0,w,?_,World.ownsRow_nil w base e i.size,⟨rfl,rfl,rfl,bS _,fun _ _ _=>rfl⟩,Or.inl rfl⟩;simp[Builtin.append_,run_underlying s,run_underlying y,sizeOf,typeInfo,r,asInt,asIntOf,E]
  have q:=grown 0 o_ (Value.ownBlock (.slice none 0 0));exact ⟨_,_,runs none 0 o_ (by simp[Builtin.firstCells]),q.1,q.2,Or.inr rfl⟩
 by_cases M:n+m<=aC
 ·have B:n*i.size+news.length<=c.size:=by rw[hl,W,<-Nat.add_mul];exact Nat.mul_le_mul_right _ M
  obtain ⟨H0,h3,h4,h5⟩:=v_W news (n*i.size) w c hg B;obtain ⟨H4,H5,H6,H7⟩:=v_s g news (n*i.size) w;have a:=run_storeCells_cells (P:=P) g (n*i.size) news 0 w (fun j x1=>by rw[cell_of_row w g _ c e (0,0) hg];simp;omega) (fun j _=>D1 hg _) Y;simp only[Nat.add_zero] at a;refine ⟨.slice (some ⟨g,0,none⟩) (n+m) aC,w.setCells g (n*i.size) news,?_,⟨b,.inr ⟨g,aC,H0,rfl,h7,h3,M,O,by rw[h4,W],?_⟩⟩,⟨H4,H5,H6,by rw[H7];exact bS _,fun k _ hk=>x_5 news _ k (fun e=>hk (by simp[Value.ownBlock,e]))⟩,Or.inl rfl⟩
  ·by_cases hm:m=0
   ·have x:=G hm
    subst hm;rw[x] at a ⊢;simp[Builtin.append_,run_underlying s,run_underlying y,sizeOf,typeInfo,r,asInt,asIntOf,E,L,yS,a]
   have f:¬(m*i.size=0):=Nat.mul_ne_zero hm X;simp[Builtin.append_,run_underlying s,run_underlying y,sizeOf,typeInfo,zeroValue,r,hz,asInt,asIntOf,Z,R,C,M,f,U,yS,a]
  rw[h5];have h6:c.toList.take (n*i.size)=l:=H;rw[h6,<-b];exact List.take_left
 have K:∀j u,l[j]?=some u->w.cell? ((⟨g,0,none⟩:Addr).add j)=some u:=p.cells (g:=g) rfl;have q:=grown aC o_ (Value.ownBlock (.slice (some ⟨g,0,none⟩) n aC));exact ⟨_,_,runs (some ⟨g,0,none⟩) aC o_ (run_firstCells_some (P:=P) w.drew i.size n _ n aC l p.1 (by simpa using K)),q.1,q.2,Or.inr rfl⟩
end
section
variable {ah:Array Oper} {rest:List Oper} {o:Oper} {a:Act} {Q:Exit->Act->W_->Prop}
def WW (m:Nat):(Builtin.zeroCells (Value.int .u8 0).cells m).toList=bv (List.replicate m 0):=by
 rw[show Builtin.zeroCells (Value.int .u8 0).cells m=madeCells #[.int .u8 0] m by unfold Builtin.zeroCells madeCells;simp[Value.cells],toList_madeCells_one];simp[bv]
def vv (base:Nat) (S:o.guard=none) (s x:Operand) (t p:TypeId)
  (J:o.op=.call { callee:=.builtin .append,args:=#[s,x],argTypes:=#[t,p] })
  (M:P.underlying t=some (.slice 5)) {k:IntKind} (T:P.underlying p=some (.int k)) (c:(P.info? 5).map (fun i=>(i.zero,i.size,i.bytes))=some (some (.int .u8 0),1,1))
  (v:Value) (l:List UInt8) (y:IntKind) (m:Nat) (hs:a.eval s=v) (N:a.eval x=.int y m)
  (q:aH W base 5 v (bv l)) (z:Below base w0 W) (r:base<=W.heap.size) (hl:l.length+m<=140737488355328)
  (h:∀e g,aH g base 5 e (bv (l++List.replicate m 0))->Below base w0 g->W.grownBy g v.ownBlock->(e.ownBlock=v.ownBlock\/e.ownBlock=some W.heap.size)->wpList P ah Q rest (a.put o.dst e) g) :
  wpList P ah Q (o::rest) a W:=by
 obtain ⟨O,I,f,d,E⟩:=info_parts c
 obtain ⟨e,g,R,j,hg,b⟩:=nt (P:=P) W base t p o.type 5 O (.int .u8 0) 1 1 M T I f d E rfl d_ d_ v (bv l).length (bv l) q y m
  (fun u n=>by rw[WW] at n;simp[bv] at n;obtain ⟨_,rfl⟩:=n;rfl) (by rw[og];omega) r
 refine wpList_plain S fun K G=>?_;unfold Oper.wp execOp;simp only[J,resolve,invoke,builtin,Sem.run_bind,Sem.run_pure,Result.andThen_ok,List.map_toArray,List.map_cons,List.map_nil,hs,N,R];refine G _ _ (h e g ?_ (z.grown hg r fun k hk=>(aH.lt q k hk).1) hg b);rw[WW,<-w_E] at j;unfold aH;rw[og] at j ⊢;rw[cd,Aa];exact j
def jZ (w:W_) (base:Nat) (t m e:TypeId) (i:TypeInfo) (size:Nat) (j:P.underlying t=some (.slice e)) (h:P.info? e=some i)
  (v:Value) (n:Nat) (o:List Value) (l:w.ownsRow base e size v n o) (c:Nat):(Builtin.append_ #[t,t] m #[v,.slice none 0 c]).run P w=.ok v w:=by
 rcases l.2 with ⟨rfl,rfl⟩|⟨g,aC,p,rfl,_,_,k,_⟩
 ·simp[Builtin.append_,run_underlying j,sizeOf,typeInfo,h,Builtin.lenOf,Builtin.firstCells]
 simp[Builtin.append_,run_underlying j,sizeOf,typeInfo,h,Builtin.lenOf,Builtin.firstCells,k,storeCells]
def LK (base:Nat) (R:o.guard=none) (s x:Operand) (t e:TypeId) (z:Value) (bytes:Nat)
  (I:o.op=.call { callee:=.builtin .append,args:=#[s,x],argTypes:=#[t,t] })
  (J:P.underlying t=some (.slice e)) (U:(P.info? e).map (fun i=>(i.zero,i.size,i.bytes))=some (some z,1,bytes)) (hz:z.cells.size=1) (L:0<bytes)
  (v:Value) (g:List Value) (y:Value) (ys:List Value) (hs:a.eval s=v) (N:a.eval x=y) (H:b_ W y ys) (Z:∀u∈ys,u.oneCell'=true)
  (p:aH W base e v g) (r:Below base w0 W) (d:base<=W.heap.size) (hl:(g.length+ys.length)*bytes<=140737488355328)
  (h:∀l m,aH m base e l (g++ys)->Below base w0 m->W.grownBy m v.ownBlock->(l.ownBlock=v.ownBlock\/l.ownBlock=some W.heap.size)->wpList P ah Q rest (a.put o.dst l) m) :
  wpList P ah Q (o::rest) a W:=by
 obtain ⟨O,G,X,V,Y⟩:=info_parts U;have h1:g.length+ys.length<=140737488355328:=cL (Nat.le_mul_of_pos_right _ L) hl;obtain ⟨A,c,rfl,h0,h2,f⟩:=H;rcases A with _|E
 ·have hn:ys.length=0:=by
   rcases Nat.eq_zero_or_pos ys.length with q|q
   ·exact q
   obtain ⟨b,off,n,_⟩:=f q;cases n
  obtain rfl:ys=[]:=q_I hn;have F:=jZ (P:=P) W base t o.type e O 1 J G v g.length g p c;refine wpList_plain R fun K B=>?_;unfold Oper.wp execOp;simp only[I,resolve,invoke,builtin,Sem.run_bind,Sem.run_pure,Result.andThen_ok,List.map_toArray,List.map_cons,List.map_nil,hs,N,List.length_nil,F];exact B _ _ (h v W (by rw[List.append_nil];exact p) r (World.grownBy.refl W _) (.inl rfl))
 have w:∀j u,ys[j]?=some u->W.cell? (E.add j)=some u:=by
  intro j u M;have D:j<ys.length:=(AP.1 M).1;obtain ⟨b,off,n,C⟩:=f o_;injection n with n;subst n;rw[SN,C j D,M]
 refine wpList_append_own_at W R s x t I base e O z 1 bytes J G X V Y hz o_ v g.length g hs p E ys.length c ys N s_ w Z (by simp only[maxLen];omega) hl d ?_;intro l m T hg _ S;refine h l m ?_ (r.grown hg d fun k hk=>(aH.lt p k hk).1) hg S;unfold aH;rw[cd];exact T
end
def bv_one (l:List UInt8):∀u∈bv l,u.oneCell'=true:=by
 intro u e;simp[bv] at e;obtain ⟨_,_,rfl⟩:=e;rfl
end
end Go.Proofs.YtdkheklakfbeeaaGreatDoor
