/- Part 1 of the proof. -/
import Derived.Test.YtdkheklakfbeeaaGreatDoorProg
import Derived.WalkKit
import Derived.WalkSpells
import Derived.WalkLawsBesides
import Derived.Laws.BitsLemmas
import Derived.Lib.Hide
import Derived.Below
import Derived.Calls
import Derived.Laws.OwnMore
import Derived.Deep.Draws
import Derived.Deep.AppendLies
import Derived.Deep.OwnRows
import Derived.Maps.AppendAt
import Derived.OwnWalk
import Derived.Laws.Rows
import Derived.Laws.BytesArg
import Derived.Deep.QuietTactic
import Derived.BigQuiet
import Derived.Deep.LoopGhost
import Derived.Deep.DeepCutAuto
import Derived.Deep.CutBlock
import Derived.Deep.RegionHeld3
import Derived.Laws.Slices
import Derived.Lib.ConvBytes
import Derived.Lib.Hide
set_option linter.all false
set_option maxRecDepth 100000
set_option maxHeartbeats 16000000
namespace Go.Proofs.YtdkheklakfbeeaaGreatDoor
theorem Zz {p:Prop} (h:p):RowKit.Hid p:=Lib.hid h
abbrev Cl:=Calls Tryz.prog
def q_a:=@List.getD_eq_getElem?_getD
def q_b:=@List.length_append
def q_c:=@World.block_lt_of_cell?
def q_d:=@List.getElem?_eq_getElem
def q_e:=@Nat.le_refl
def q_f:=@Nat.lt_of_lt_of_le
def q_g:=@Nat.le_trans
def q_h:=@List.take_succ_eq_append_getElem
def q_i:=@List.length_map
def q_j:=@List.getElem?_map
def q_k:=@List.length_set
def q_l:=@List.length_take
def q_m:=@List.ext_getElem
def q_n:=@List.getElem?_range
def q_o:=@beq_eq_false_iff_ne
def q_p:=@List.getElem?_toArray
def q_q:=@List.getElem?_eq_none
def q_r:=@IntKind.wrap_i64
def q_s:=@IntKind.wrap_u64
def q_t:=@List.take_of_length_le
def q_u:=@List.getElem?_append_right
def q_v:=@decide_eq_false
def q_w:=@List.length_replicate
def q_x:=@List.length_singleton
def q_y:=@List.size_toArray
def q_z:=@Nat.mod_lt
def q_A:=@List.setIfInBounds_toArray
def q_B:=@List.getElem_mem
def q_C:=@List.getElem?_set
def q_D:=@Nat.zero_add
def q_E:=@Nat.ne_of_lt
def q_F:=@List.getElem?_append_left
def q_G:=@List.ext_getElem?
def q_H:=@List.length_range
def q_I:=@List.eq_nil_of_length_eq_zero
def q_J:=@List.getElem?_eq_some_iff
def q_K:=@Array.getElem?_eq_some_iff
end Go.Proofs.YtdkheklakfbeeaaGreatDoor
theorem Go.RowKit.Hid.o {p:Prop} (h:Go.RowKit.Hid p):p:=h.out
section
open Go.Proofs.Tryz
namespace Go.Proofs.YtdkheklakfbeeaaGreatDoor.GfM
def xt (x:Nat):Nat:=if 2*x>255 then (2*x) ^^^ 285 else 2*x
def gm:Nat->Nat->Nat->Nat->Nat
 | 0,_,_,out=>out
 | k+1,x,b,out=>gm k (xt x) (b / 2) (if b % 2=1 then out ^^^ x else out)
def x_x (a b:Nat):Nat:=gm 8 a b 0
def xts:Nat->Nat->Nat
 | 0,x=>x
 | k+1,x=>xts k (xt x)
theorem x_V:∀x,x<256->xt x<256:=by decide +kernel
theorem two_xor (x y:Nat):2*(x ^^^ y)=(2*x) ^^^ (2*y):=by
 apply Nat.eq_of_testBit_eq;intro i
 cases i with
 | zero=>simp[Nat.testBit_zero,Nat.mul_mod_right]
 | succ i=>simp[Nat.testBit_succ,Nat.xor_div_two]
theorem xt_eq:∀x,x<256->xt x=(2*x) ^^^ (if x.testBit 7=true then 285 else 0):=by decide +kernel
theorem xor_lt {x y:Nat} (h:x<256) (k:y<256):x ^^^ y<256:=Nat.xor_lt_two_pow (n:=8) h k
theorem xor_four (a b c d:Nat):(a ^^^ b) ^^^ (c ^^^ d)=(a ^^^ c) ^^^ (b ^^^ d):=by
 rw[Nat.xor_assoc,Nat.xor_assoc,<-Nat.xor_assoc b c d,Nat.xor_comm b c,Nat.xor_assoc c b d]
theorem if_xor (p q:Bool) (v:Nat):(if (p ^^ q)=true then v else 0)=(if p=true then v else 0) ^^^ (if q=true then v else 0):=by
 cases p<;>cases q<;>simp
theorem xt_lin (x:Nat) (hx:x<256) (y:Nat) (hy:y<256):xt (x ^^^ y)=xt x ^^^ xt y:=by
 rw[xt_eq x hx,xt_eq y hy,xt_eq _ (xor_lt hx hy),Nat.testBit_xor,if_xor,two_xor,xor_four]
theorem gm_lt (k:Nat):∀x b o,x<256->o<256->gm k x b o<256:=by
 induction k with
 | zero=>intro x b o _ h;exact h
 | succ k ih =>
  intro x b o hx ho;refine ih _ _ _ (x_V x hx) ?_;split
  ·exact xor_lt ho hx
  ·exact ho
theorem gm_xt (k:Nat):∀x b o,x<256->o<256->gm k (xt x) b (xt o)=xt (gm k x b o):=by
 induction k with
 | zero=>intro x b o _ _;rfl
 | succ k ih =>
  intro x b o hx ho;show gm k (xt (xt x)) (b / 2) _=xt (gm k (xt x) (b / 2) _);by_cases h:b % 2=1
  ·rw[if_pos h,if_pos h,<-xt_lin o ho x hx]
   exact ih _ _ _ (x_V x hx) (xor_lt ho hx)
  ·rw[if_neg h,if_neg h]
   exact ih _ _ _ (x_V x hx) ho
theorem gm_add (k:Nat):∀x y b o p,x<256->y<256->gm k (x ^^^ y) b (o ^^^ p)=gm k x b o ^^^ gm k y b p:=by
 induction k with
 | zero=>intro x y b o p _ _;rfl
 | succ k ih =>
  intro x y b o p hx hy;show gm k (xt (x ^^^ y)) (b / 2) _=gm k (xt x) (b / 2) _ ^^^ gm k (xt y) (b / 2) _;rw[xt_lin x hx y hy];by_cases h:b % 2=1
  ·simp only[h,if_true];rw[xor_four]
   exact ih _ _ _ _ _ (x_V x hx) (x_V y hy)
  ·simp only[h,if_false]
   exact ih _ _ _ _ _ (x_V x hx) (x_V y hy)
theorem gmul_lt {a b:Nat} (h:a<256):x_x a b<256:=gm_lt 8 a b 0 h (by decide)
theorem gmul_xt {a b:Nat} (h:a<256):x_x (xt a) b=xt (x_x a b):=gm_xt 8 a b 0 h (by decide)
theorem gmul_add {x y:Nat} (b:Nat) (hx:x<256) (hy:y<256):x_x (x ^^^ y) b=x_x x b ^^^ x_x y b:=gm_add 8 x y b 0 0 hx hy
theorem one_gmul:∀b,b<256->x_x 1 b=b:=by decide +kernel
theorem zero_gmul:∀b,b<256->x_x 0 b=0:=by decide +kernel
theorem gmul_zero:∀b,b<256->x_x b 0=0:=by decide +kernel
theorem xts_lt (k:Nat):∀x,x<256->xts k x<256:=by
 induction k with
 | zero=>intro x h;exact h
 | succ k ih=>intro x h;exact ih _ (x_V x h)
theorem xts_add (j k:Nat):∀x,xts (j+k) x=xts j (xts k x):=by
 induction k with
 | zero=>intro x;rfl
 | succ k ih=>intro x;exact ih (xt x)
theorem gmul_xts (k:Nat):∀a b,a<256->x_x (xts k a) b=xts k (x_x a b):=by
 induction k with
 | zero=>intro a b _;rfl
 | succ k ih =>
  intro a b h;show x_x (xts k (xt a)) b=xts k (xt (x_x a b));rw[ih _ _ (x_V a h),gmul_xt h]
theorem exp_gmul (k b:Nat) (h:b<256):x_x (xts k 1) b=xts k b:=by
 rw[gmul_xts k 1 b (by decide),one_gmul b h]
theorem exp_add (j k:Nat):x_x (xts j 1) (xts k 1)=xts (j+k) 1:=by
 rw[exp_gmul _ _ (xts_lt k 1 (by decide)),<-xts_add]
theorem exp_255:xts 255 1=1:=by decide +kernel
theorem exp_mod (k:Nat):xts (k % 255) 1=xts k 1:=by
 have h:∀q r,xts (255*q+r) 1=xts r 1:=by
  intro q r
  induction q with
  | zero=>simp
  | succ q ih =>
   have e:255*(q+1)+r=(255*q+r)+255:=by omega
   rw[e,xts_add,exp_255];exact ih
 conv=>rhs;rw[<-Nat.div_add_mod k 255]
 exact (h _ _).symm
def lgr:Nat->Nat->Nat->Nat->Nat
 | 0,_,i,_=>i
 | k+1,p,i,a=>if p=a then i else lgr k (xt p) (i+1) a
def lg (a:Nat):Nat:=lgr 255 1 0 a
theorem lg_exp:∀a,a<256->a≠0->xts (lg a) 1=a/\lg a<255:=by decide +kernel
theorem exp_lg:∀i,i<255->lg (xts i 1)=i/\xts i 1≠0:=by decide +kernel
end Go.Proofs.YtdkheklakfbeeaaGreatDoor.GfM
namespace Go.Proofs.YtdkheklakfbeeaaGreatDoor.GfM
def mul (a b:UInt8):UInt8:=UInt8.ofNat (x_x a.toNat b.toNat)
theorem u_lt (a:UInt8):a.toNat<256:=a.toNat_lt
theorem x_q (a b:UInt8):(mul a b).toNat=x_x a.toNat b.toNat:=by
 unfold mul;rw[UInt8.toNat_ofNat'];exact Nat.mod_eq_of_lt (gmul_lt (u_lt a))
def ex (k:Nat):UInt8:=UInt8.ofNat (xts k 1)
theorem w_K (k:Nat):(ex k).toNat=xts k 1:=by
 unfold ex;rw[UInt8.toNat_ofNat'];exact Nat.mod_eq_of_lt (xts_lt k 1 (by decide))
theorem w_y (j k:Nat):mul (ex j) (ex k)=ex (j+k):=by
 apply UInt8.toNat_inj.1;rw[x_q,w_K,w_K,w_K,exp_add]
theorem ex_zero:ex 0=1:=by decide
theorem ex_mod (k:Nat):ex (k % 255)=ex k:=by unfold ex;rw[exp_mod]
theorem ex_255:ex 255=1:=by rw[<-ex_mod];rfl
def lo (a:UInt8):Nat:=lg a.toNat
theorem v_E {a:UInt8} (h:a≠0):a.toNat≠0:=fun e=>h (UInt8.toNat_inj.1 (by rw[e];rfl))
theorem ex_lo {a:UInt8} (h:a≠0):ex (lo a)=a:=by
 apply UInt8.toNat_inj.1;rw[w_K];exact (lg_exp _ (u_lt a) (v_E h)).1
theorem lo_lt {a:UInt8} (h:a≠0):lo a<255:=(lg_exp _ (u_lt a) (v_E h)).2
theorem lo_ex {i:Nat} (h:i<255):lo (ex i)=i:=by unfold lo;rw[w_K];exact (exp_lg i h).1
theorem ex_ne (i:Nat):ex i≠0:=by
 rw[<-ex_mod];intro h;have:=congrArg UInt8.toNat h;rw[w_K] at this;exact (exp_lg _ (q_z _ (by decide))).2 this
theorem zero_mul (a:UInt8):mul 0 a=0:=by
 apply UInt8.toNat_inj.1;rw[x_q];exact zero_gmul _ (u_lt a)
theorem z_3 (a:UInt8):mul a 0=0:=by
 apply UInt8.toNat_inj.1;rw[x_q];exact gmul_zero _ (u_lt a)
theorem one_mul (a:UInt8):mul 1 a=a:=by
 apply UInt8.toNat_inj.1;rw[x_q];exact one_gmul _ (u_lt a)
theorem mul_comm (a b:UInt8):mul a b=mul b a:=by
 by_cases ha:a=0
 ·rw[ha,zero_mul,z_3]
 by_cases hb:b=0
 ·rw[hb,zero_mul,z_3]
 rw[<-ex_lo ha,<-ex_lo hb,w_y,w_y,Nat.add_comm]
theorem mul_one (a:UInt8):mul a 1=a:=by rw[mul_comm,one_mul]
theorem x_s (a b c:UInt8):mul (mul a b) c=mul a (mul b c):=by
 by_cases ha:a=0
 ·rw[ha,zero_mul,zero_mul,zero_mul]
 by_cases hb:b=0
 ·rw[hb,z_3,zero_mul,z_3]
 by_cases hc:c=0
 ·rw[hc,z_3,z_3,z_3]
 rw[<-ex_lo ha,<-ex_lo hb,<-ex_lo hc,w_y,w_y,w_y,w_y,Nat.add_assoc]
theorem add_mul (a b c:UInt8):mul (a ^^^ b) c=mul a c ^^^ mul b c:=by
 apply UInt8.toNat_inj.1;rw[x_q,UInt8.toNat_xor,UInt8.toNat_xor,x_q,x_q,gmul_add _ (u_lt a) (u_lt b)]
theorem mul_add (a b c:UInt8):mul a (b ^^^ c)=mul a b ^^^ mul a c:=by
 rw[mul_comm,add_mul,mul_comm b,mul_comm c]
theorem mul_ne {a b:UInt8} (ha:a≠0) (hb:b≠0):mul a b≠0:=by
 rw[<-ex_lo ha,<-ex_lo hb,w_y];exact ex_ne _
theorem v_X (a b:UInt8):mul a b=0↔a=0\/b=0:=by
 constructor
 ·intro h
  by_cases ha:a=0
  ·exact .inl ha
  by_cases hb:b=0
  ·exact .inr hb
  exact absurd h (mul_ne ha hb)
 ·rintro (rfl|rfl)
  ·exact zero_mul b
  ·exact z_3 a
def inv (a:UInt8):UInt8:=if a=0 then 0 else ex (255-lo a)
theorem inv_zero:inv 0=0:=rfl
theorem mul_inv {a:UInt8} (h:a≠0):mul a (inv a)=1:=by
 unfold inv;rw[if_neg h]
 conv=>lhs;lhs;rw[<-ex_lo h]
 rw[w_y,show lo a+(255-lo a)=255 by have:=lo_lt h;omega,ex_255]
theorem inv_mul {a:UInt8} (h:a≠0):mul (inv a) a=1:=by rw[mul_comm,mul_inv h]
theorem mul_cancel {a b c:UInt8} (h:a≠0) (e:mul a b=mul a c):b=c:=by
 have:=congrArg (mul (inv a)) e
 rwa [<-x_s,<-x_s,inv_mul h,one_mul,one_mul] at this
theorem inv_unique {a b:UInt8} (h:mul a b=1):b=inv a:=by
 have ha:a≠0:=by
  rintro rfl;rw[zero_mul] at h;exact absurd h (by decide)
 exact mul_cancel ha (h.trans (mul_inv ha).symm)
theorem inv_ne {a:UInt8} (h:a≠0):inv a≠0:=by
 intro e;have:=mul_inv h;rw[e,z_3] at this;exact absurd this (by decide)
def pw (a:UInt8):Nat->UInt8
 | 0=>1
 | k+1=>mul (pw a k) a
theorem pw_zero (a:UInt8):pw a 0=1:=rfl
theorem pw_one (a:UInt8):pw a 1=a:=one_mul a
theorem pw_add (a:UInt8) (j k:Nat):pw a (j+k)=mul (pw a j) (pw a k):=by
 induction k with
 | zero=>rw[pw_zero,mul_one];rfl
 | succ k ih=>show mul (pw a (j+k)) a=mul (pw a j) (mul (pw a k) a);rw[ih,x_s]
theorem pw_mul (a:UInt8) (j k:Nat):pw a (j*k)=pw (pw a j) k:=by
 induction k with
 | zero=>rfl
 | succ k ih=>rw[Nat.mul_succ,pw_add,ih];rfl
theorem pw_two (k:Nat):pw 2 k=ex k:=by
 induction k with
 | zero=>rfl
 | succ k ih=>show mul (pw 2 k) 2=_;rw[ih,show (2:UInt8)=ex 1 by decide,w_y]
theorem pw_ex (i k:Nat):pw (ex i) k=ex (i*k):=by
 rw[<-pw_two,<-pw_mul,pw_two]
theorem one_pw (k:Nat):pw 1 k=1:=by
 induction k with
 | zero=>rfl
 | succ k ih=>show mul (pw 1 k) 1=1;rw[ih];rfl
theorem pw_255 {a:UInt8} (h:a≠0):pw a 255=1:=by
 rw[<-ex_lo h,pw_ex,Nat.mul_comm,<-pw_ex,ex_255,one_pw]
theorem pw_succ (a:UInt8) (k:Nat):pw a (k+1)=mul (pw a k) a:=rfl
theorem inv_pw (a:UInt8) (h:a≠0):inv a=pw a 254:=by
 refine (inv_unique ?_).symm;rw[mul_comm,<-pw_succ];exact pw_255 h
theorem sq_pw (a:UInt8) (k:Nat):pw (mul a a) k=pw a (2*k):=by
 have e:mul a a=pw a 2:=by rw[pw_succ,pw_succ,pw_zero,one_mul]
 rw[e,pw_mul]
end Go.Proofs.YtdkheklakfbeeaaGreatDoor.GfM
end
namespace Go.Proofs.YtdkheklakfbeeaaGreatDoor
open Go.RowKit Tryz
section
open GfM
theorem w_x (k:IntKind) (j:Nat) (hj:j<=k.bits) (hk:∀n:Int,0<=n->n<2 ^ j->k.wrap n=n) (a b:Nat) (ha:a<2 ^ j) (hb:b<2 ^ j) :
  bits .xor k (a:Int) (b:Int)=((a ^^^ b:Nat):Int):=by
 have hp:2 ^ j<=2 ^ k.bits:=Nat.pow_le_pow_right (by decide) hj;have uJ:a % 2 ^ k.bits=a:=Nat.mod_eq_of_lt (q_f ha hp);have fm:b % 2 ^ k.bits=b:=Nat.mod_eq_of_lt (q_f hb hp);simp only[bits,BitVec.ofInt_natCast,BitVec.toNat_xor,BitVec.toNat_ofNat,uJ,fm];exact hk _ (Int.natCast_nonneg _) (by exact_mod_cast Nat.xor_lt_two_pow ha hb)
theorem wraps_i64 (n:Int) (h₀:0<=n) (h₁:n<2 ^ 62):IntKind.i64.wrap n=n:=by rw[q_r];omega
theorem v_Y (a b:UInt8):bits .xor .u8 (a.toNat:Int) (b.toNat:Int)=((a ^^^ b).toNat:Int):=by
 rw[w_x .u8 8 (by decide) wraps_u8 _ _ a.toNat_lt b.toNat_lt,UInt8.toNat_xor]
theorem add_any (a b:UInt8) (w:World) :
  Cl 251 #[.int .u8 a.toNat,.int .u8 b.toNat] w fun e w'=>e=.returned (.int .u8 ((a ^^^ b).toNat:Int))/\w=w':=by
 go_enter func251,ntmps251;go_wp2;go_ret;exact ⟨by rw[<-v_Y];rfl,rfl⟩
theorem gm_more (k:Nat):∀x b o,b<2 ^ k->gm (k+1) x b o=gm k x b o:=by
 induction k with
 | zero =>
  intro x b o h
  obtain rfl:b=0:=by simpa using h
  rfl
 | succ k ih =>
  intro x b o h;show gm (k+1) (xt x) (b / 2) _=gm k (xt x) (b / 2) _;exact ih _ _ _ (by rw[Nat.pow_succ] at h;omega)
theorem gm_step (x b o:Nat) (h:b<256):gm 8 x b o=gm 8 (xt x) (b / 2) (if b % 2=1 then o ^^^ x else o) :=
 (gm_more 7 (xt x) (b / 2) _ (show b / 2<2 ^ 7 by omega)).symm
theorem and_one_u8 (b:Nat) (h:b<256):bits .and .u8 (b:Int) 1=((b % 2:Nat):Int):=by
 have:=(bits_nat .u8 8 (by decide) wraps_u8 b 1 h (by decide)).1;rw[Nat.and_one_is_mod] at this;exact this
theorem xor_i64 (a b:Nat) (ha:a<2 ^ 62) (hb:b<2 ^ 62):bits .xor .i64 (a:Int) (b:Int)=((a ^^^ b:Nat):Int) :=
 w_x .i64 62 (by decide) wraps_i64 a b ha hb
theorem xt_big (x:Nat) (h:x<256) (hx:255<(x:Int)*2):bits .xor .i64 ((x:Int)*2) 285=((xt x:Nat):Int):=by
 have e:((x:Int)*2)=((2*x:Nat):Int):=by omega
 rw[e];have:=xor_i64 (2*x) 285 (by omega) (by decide);refine this.trans ?_;unfold xt;rw[if_pos (by omega)]
theorem xt_small (x:Nat) (hx:(x:Int)*2<=255):((x:Int)*2)=((xt x:Nat):Int):=by
 unfold xt;rw[if_neg (by omega)];omega
theorem odd_of (b:Nat) (h:b<256) {r:Bool} (e:(bits .and .u8 (b:Int) 1==1)=r):(b % 2=1)↔r=true:=by
 rw[and_one_u8 b h] at e;subst e;rw[beq_iff_eq];omega
theorem xor_i64_lt (o x:Nat) (ho:o<256) (hx:x<256):bits .xor .i64 (o:Int) (x:Int)=((o ^^^ x:Nat):Int) :=
 xor_i64 o x (by omega) (by omega)
theorem mul_nat (a b:Nat) (w:World) (ha:a<256) (hb:b<256) :
  Cl 220 #[.int .u8 a,.int .u8 b] w fun e w'=>e=.returned (.int .u8 (x_x a b:Nat))/\w=w':=by
 go_enter func220,ntmps220;go_wp2
 go_loop [1,5,6] (fun s1 s5 s6=>∃b' x o:Nat,b'<256/\x<256/\o<256/\gm 8 x b' o=x_x a b/\s1=.int .u8 b'/\s5=.int .i64 x/\s6=.int .i64 o) (fun s1 _ _=>(intOf s1).toNat)
 case atStart=>exact ⟨b,a,0,hb,ha,by decide,rfl,rfl,rfl,rfl⟩
 case round =>
  obtain ⟨b',x,o,fm,hx,ho,hg,rfl,rfl,rfl⟩:=hrel;have H:=Zz hg;clear hg;go_wp2
  ·have uK:((b':Int) != 0)=true:=‹_›
   rw[bne_iff_ne] at uK;have pE:=(odd_of b' fm ‹_›).2 rfl;refine ⟨⟨b' / 2,xt x,o ^^^ x,by omega,x_V x hx,xor_lt ho hx,?_,rfl,by rw[xt_big x hx ‹_›],by rw[xor_i64_lt o x ho hx]⟩,?_⟩
   ·rw[<-H.o,gm_step x b' o fm,if_pos pE]
   ·simp[intOf];omega
  ·have uK:((b':Int) != 0)=true:=‹_›
   rw[bne_iff_ne] at uK;have pE:=(odd_of b' fm ‹_›).2 rfl;refine ⟨⟨b' / 2,xt x,o ^^^ x,by omega,x_V x hx,xor_lt ho hx,?_,rfl,by rw[<-xt_small x ‹_›],by rw[xor_i64_lt o x ho hx]⟩,?_⟩
   ·rw[<-H.o,gm_step x b' o fm,if_pos pE]
   ·simp[intOf];omega
  ·have uK:((b':Int) != 0)=true:=‹_›
   rw[bne_iff_ne] at uK
   have pE:¬(b' % 2=1):=fun h=>by have:=(odd_of b' fm ‹_›).1 h;cases this
   refine ⟨⟨b' / 2,xt x,o,by omega,x_V x hx,ho,?_,rfl,by rw[xt_big x hx ‹_›],rfl⟩,?_⟩
   ·rw[<-H.o,gm_step x b' o fm,if_neg pE]
   ·simp[intOf];omega
  ·have uK:((b':Int) != 0)=true:=‹_›
   rw[bne_iff_ne] at uK
   have pE:¬(b' % 2=1):=fun h=>by have:=(odd_of b' fm ‹_›).1 h;cases this
   refine ⟨⟨b' / 2,xt x,o,by omega,x_V x hx,ho,?_,rfl,by rw[<-xt_small x ‹_›],rfl⟩,?_⟩
   ·rw[<-H.o,gm_step x b' o fm,if_neg pE]
   ·simp[intOf];omega
  ·go_ret
   have h0:b'=0:=by have h:((b':Int) != 0)=false:=‹_›;simpa using h
   subst h0;refine ⟨?_,rfl⟩;rw[<-H.o];rfl
theorem mul_any (x y:Int) (a b:UInt8) (hx:x=(a.toNat:Int)) (hy:y=(b.toNat:Int)) (w:World) :
  Cl 220 #[.int .u8 x,.int .u8 y] w fun e w'=>e=.returned (.int .u8 ((mul a b).toNat:Int))/\w=w':=by
 subst hx hy;refine (mul_nat a.toNat b.toNat w a.toNat_lt b.toNat_lt).mono fun e w' h=>?_;rw[x_q];exact h
end
end Go.Proofs.YtdkheklakfbeeaaGreatDoor
section
open Go.Proofs.Tryz
namespace Go.Proofs.YtdkheklakfbeeaaGreatDoor.GfM
end Go.Proofs.YtdkheklakfbeeaaGreatDoor.GfM
end
namespace Go.Proofs.YtdkheklakfbeeaaGreatDoor
open Go.RowKit Tryz
def Blk (w:World) (g:Nat) (t:TypeId) (cs:Array Value):Prop:=w.heap[g]?=some (.cells cs t (0,0))
section
variable {w w':World} {g:Nat} {t:TypeId} {cs:Array Value}
theorem Blk.lt (h:Blk w g t cs):g<w.heap.size:=by
 rcases Nat.lt_or_ge g w.heap.size with af|m9
 ·exact af
 ·unfold Blk at h;rw[Array.getElem?_eq_none m9] at h;cases h
theorem Blk.cell (h:Blk w g t cs) (i:Nat):w.cell? ⟨g,i,none⟩=cs[i]?:=cell_of_row w g i cs t (0,0) h
theorem Blk.frozen (h:Blk w g t cs) (i:Nat):w.frozen? ⟨g,i,none⟩=false:=by
 unfold Blk at h;simp[World.frozen?,h]
theorem Blk.new (w:World) (t:TypeId) (cs:Array Value):Blk (w.alloc (.cells cs t)) w.heap.size t cs:=heap_alloc_new w _
theorem Blk.drew (h:Blk w g t cs):Blk w.drew g t cs:=h
theorem Blk.drewN (h:Blk w g t cs) (n:Nat):Blk (w.drewN n) g t cs:=h
theorem Blk.alloc (h:Blk w g t cs) (o:Obj):Blk (w.alloc o) g t cs:=(Below.heap_alloc w o g h.lt).trans h
theorem Blk.set_ (h:Blk w g t cs) (i:Nat) (u:Value):Blk (w.setCell ⟨g,i,none⟩ u) g t (cs.setIfInBounds i u):=by
 unfold Blk at h ⊢;simp[World.setCell,Array.getElem?_modify,h]
theorem Blk.far (h:Blk w g t cs) {p:Addr} (hp:g≠p.block) (u:Value):Blk (w.setCell p u) g t cs:=(Below.heap_setCell w p u g hp).trans h
theorem Blk.below {B:Nat} (h:Blk w g t cs) (hb:Below B w w') (hg:g<B):Blk w' g t cs:=(hb.block g hg).trans h
theorem Blk.grown {row:Option Nat} (h:Blk w g t cs) (hb:w.grownBy w' row) (hg:some g≠row):Blk w' g t cs:=(hb.block g h.lt hg).trans h
end
theorem below_drewN {B:Nat} {a w:World} (h:Below B a w) (n:Nat):Below B a (w.drewN n):=⟨h.os,h.tape,h.output,h.size,h.block⟩
theorem below_alloc {w W:World} (h:Below w.heap.size w W) (o:Obj):Below w.heap.size w (W.alloc o):=h.alloc h.size o
theorem z_G {B:Nat} {w w1 w2:World} (h:Below B w w1) (hB:B<=w1.heap.size) (k:Below w1.heap.size w1 w2):Below B w w2:=h.trans (k.mono hB)
theorem grown_of_below {w w1:World} (h:Below w.heap.size w w1) (row:Option Nat):w.grownBy w1 row:=⟨h.os,h.tape,h.output,h.size,fun i hi _=>h.block i hi⟩
theorem z_ad {a b c:World} {row:Option Nat} (h:a.grownBy b row) (k:b.grownBy c row):a.grownBy c row :=
 ⟨k.os.trans h.os,k.tape.trans h.tape,k.output.trans h.output,q_g h.size k.size,fun i hi aA=>(k.block i (q_f hi h.size) aA).trans (h.block i hi aA)⟩
def Own (w:World) (base:Nat) (e:TypeId) (v:Value) (xs:List Value):Prop:=w.ownsRow base e 1 v xs.length xs
section
variable {w w':World} {base:Nat} {e:TypeId} {v:Value} {xs:List Value}
theorem Own.nil_ (w:World) (base:Nat) (e:TypeId):Own w base e (.slice none 0 0) []:=World.ownsRow_nil w base e 1
theorem Own.lit_ (w:World) (base:Nat) (e:TypeId) (cs:Array Value) (hb:base<=w.heap.size) (hm:cs.size<=maxLen) :
  Own (w.alloc (.cells cs e)) base e (.slice (some ⟨w.heap.size,0,none⟩) cs.size cs.size) cs.toList:=by
 have h:=World.ownsRow_lit (base:=base) (e:=e) (size:=1) w cs cs.size hb hm (by simp);unfold Own;simpa using h
theorem Own.alloc (h:Own w base e v xs) (o:Obj):Own (w.alloc o) base e v xs:=World.ownsRow.alloc h o
theorem Own.drew (h:Own w base e v xs):Own w.drew base e v xs:=h
theorem Own.drewN (h:Own w base e v xs) (n:Nat):Own (w.drewN n) base e v xs:=h
theorem Own.keep (h:Own w base e v xs) {row:Option Nat} (hg:w.grownBy w' row) (aA:v.ownBlock=none\/v.ownBlock≠row):Own w' base e v xs:=World.ownsRow.kept h hg aA
theorem Own.below (h:Own w base e v xs) (hb:Below w.heap.size w w'):Own w' base e v xs:=h.keep (grown_of_below hb none) (by cases v.ownBlock<;>simp)
theorem Own.lt (h:Own w base e v xs):∀k,v.ownBlock=some k->base<=k/\k<w.heap.size:=World.ownsRow.lt h
theorem Own.more (h:Own w base e v xs) {base':Nat} (hb:base'<=base):Own w base' e v xs:=by
 refine ⟨h.1,?_⟩;rcases h.2 with ⟨rfl,h0⟩|⟨g,av,aQ,rfl,hg,hh⟩
 ·exact .inl ⟨rfl,h0⟩
 ·exact .inr ⟨g,av,aQ,rfl,q_g hb hg,hh⟩
theorem Own.shape (h:Own w base e v xs):∃A c,v=.slice A xs.length c:=by
 rcases h.2 with ⟨rfl,h0⟩|⟨g,av,aQ,rfl,_⟩
 ·exact ⟨none,0,by rw[h0]⟩
 ·exact ⟨_,av,rfl⟩
theorem Own.form (h:Own w base e v xs) (hn:0<xs.length):∃g av,v=.slice (some ⟨g,0,none⟩) xs.length av/\base<=g/\g<w.heap.size/\xs.length<=av:=by
 rcases h.2 with ⟨rfl,h0⟩|⟨g,av,aQ,rfl,hb,hh,hc,_⟩
 ·omega
 ·exact ⟨g,av,rfl,hb,(q_K.1 hh).1,hc⟩
theorem Own.len (h:Own w base e v xs):xs.length<=9223372036854775807:=by
 rcases h.2 with ⟨rfl,h0⟩|⟨g,av,aQ,rfl,hb,hh,hc,hm,_⟩
 ·omega
 ·simp only[maxLen] at hm;omega
theorem Own.cell {g c:Nat} (h:Own w base e (.slice (some ⟨g,0,none⟩) xs.length c) xs) (j:Nat) (hj:j<xs.length):w.cell? ⟨g,j,none⟩=xs[j]?:=by
 rcases h.2 with ⟨h1,h0⟩|⟨g',av,aQ,he,hb,hh,hc,hm,hs,ht⟩
 ·omega
 ·injection he with h1 h2 h3
  injection h1 with h1
  injection h1 with h1
  subst h1;rw[cell_of_row w g j aQ e (0,0) hh,<-ht];simp only[Nat.mul_one];rw[List.getElem?_take,if_pos hj];simp
theorem Own.frozen {g n c:Nat} (h:Own w base e (.slice (some ⟨g,0,none⟩) n c) xs) (j:Nat):w.frozen? ⟨g,j,none⟩=false:=by
 rcases h.2 with ⟨h1,h0⟩|⟨g',av,aQ,he,hb,hh,hc,hm,hs,ht⟩
 ·cases h1
 ·injection he with h1 h2 h3
  injection h1 with h1
  injection h1 with h1
  subst h1;simp[World.frozen?,hh]
theorem Own.set_ {g c:Nat} (h:Own w base e (.slice (some ⟨g,0,none⟩) xs.length c) xs) (j:Nat) (u:Value) :
  Own (w.setCell ⟨g,j,none⟩ u) base e (.slice (some ⟨g,0,none⟩) xs.length c) (xs.set j u):=by
 rcases h.2 with ⟨h1,h0⟩|⟨g',av,aQ,he,hb,hh,hc,hm,hs,ht⟩
 ·cases h1
 ·injection he with h1 h2 h3
  injection h1 with h1
  injection h1 with h1
  subst h1;refine ⟨by simp,.inr ⟨g,av,aQ.setIfInBounds j u,by rw[h3,q_k],hb,?_,by rw[q_k];exact hc,hm,by simpa using hs,?_⟩⟩
  ·simp[World.setCell,Array.getElem?_modify,hh]
  ·rw[q_k,Array.toList_setIfInBounds,<-ht]
   simp only[Nat.mul_one];rw[List.take_set,q_l];congr 1
   have:aQ.toList.length=av:=by simpa using hs
   rw[Nat.min_eq_left (by rw[this];exact hc)]
theorem Own.far (h:Own w base e v xs) {p:Addr} (hp:v.ownBlock≠some p.block) (u:Value):Own (w.setCell p u) base e v xs:=by
 refine ⟨h.1,?_⟩;rcases h.2 with ⟨rfl,h0⟩|⟨g,av,aQ,rfl,hg,hh,rest⟩
 ·exact .inl ⟨rfl,h0⟩
 ·refine .inr ⟨g,av,aQ,rfl,hg,(Below.heap_setCell w p u g ?_).trans hh,rest⟩
  intro he;exact hp (by rw[he];rfl)
theorem Own.ne_ {base':Nat} {e':TypeId} {v':Value} {Qe:List Value} (h:Own w base e v xs) (h':Own w base' e' v' Qe) (aA:e≠e'):v.ownBlock=none\/v.ownBlock≠v'.ownBlock:=by
 rcases h.2 with ⟨rfl,_⟩|⟨g,av,aQ,rfl,_,hh,_⟩
 ·exact .inl rfl
 ·refine .inr fun hk=>?_
  rcases h'.2 with ⟨rfl,_⟩|⟨g',nH,iO,rfl,_,Ik,_⟩
  ·simp[Value.ownBlock] at hk
  ·have:g=g':=by simpa[Value.ownBlock] using hk
   subst this;rw[hh] at Ik;injection Ik with Ik;injection Ik with _ ht;exact aA ht
end
def z_g (w:World) (v:Value) (xs:List Value):Prop :=
 ∃A c,v=.slice A xs.length c/\xs.length<=c/\c<=9223372036854775807/\(0<xs.length->∃b off,A=some ⟨b,off,none⟩/\∀j,j<xs.length->w.cell? ⟨b,off+j,none⟩=xs[j]?)
section
variable {w w':World} {base:Nat} {e:TypeId} {v:Value} {xs:List Value}
theorem y_M (g i j:Nat):(⟨g,i,none⟩:Addr).add j=⟨g,i+j,none⟩:=by unfold Addr.add;split<;>simp_all
theorem Own.reads (h:Own w base e v xs):z_g w v xs:=by
 rcases Nat.eq_zero_or_pos xs.length with h0|h0
 ·rcases h.2 with ⟨rfl,h1⟩|⟨g,av,aQ,rfl,_,_,hc,hm,_⟩
  ·exact ⟨none,0,by rw[h1],by omega,by omega,fun hp=>absurd hp (by omega)⟩
  ·exact ⟨_,av,rfl,hc,hm,fun hp=>absurd hp (by omega)⟩
 ·rcases h.2 with ⟨rfl,h1⟩|⟨g,av,aQ,rfl,_,_,hc,hm,_⟩
  ·omega
  ·exact ⟨_,av,rfl,hc,hm,fun _=>⟨g,0,rfl,fun j hj=>by rw[q_D];exact h.cell j hj⟩⟩
theorem z_g.keep (h:z_g w v xs) (hk:∀p:Addr,p.block<w.heap.size->w'.cell? p=w.cell? p):z_g w' v xs:=by
 obtain ⟨A,c,rfl,h1,h2,h3⟩:=h;refine ⟨A,c,rfl,h1,h2,fun hp=>?_⟩;obtain ⟨b,off,rfl,hc⟩:=h3 hp;refine ⟨b,off,rfl,fun j hj=>?_⟩;have jI:=hc j hj;rw[q_d hj] at jI ⊢;exact (hk _ (q_c w _ jI)).trans jI
theorem z_g.below (h:z_g w v xs) (hb:Below w.heap.size w w'):z_g w' v xs:=h.keep fun _ hp=>hb.cell hp
theorem z_g.alloc (h:z_g w v xs) (o:Obj):z_g (w.alloc o) v xs:=h.keep fun p hp=>World.cell?_alloc_lt w o p hp
theorem z_g.drewN (h:z_g w v xs) (n:Nat):z_g (w.drewN n) v xs:=h
theorem z_g.drew (h:z_g w v xs):z_g w.drew v xs:=h
theorem z_g.len (h:z_g w v xs):xs.length<=9223372036854775807:=by
 obtain ⟨A,c,rfl,h1,h2,h3⟩:=h;omega
end
section
variable {P:Program} {ah:Array Oper} {rest:List Oper} {o:Oper} {a:Act} {Q:Exit->Act->World->Prop}
theorem x_d {w0 W:World} (base:Nat) (rI:o.guard=none) (s x:Operand) (t e:TypeId) (z:Value) (bytes:Nat)
  (ho:o.op=.call { callee:=.builtin .append,args:=#[s,x],argTypes:=#[t,t] })
  (ht:P.underlying t=some (.slice e)) (b5:(P.info? e).map (fun i=>(i.zero,i.size,i.bytes))=some (some z,1,bytes)) (hz:z.cells.size=1) (iy:0<bytes)
  (v:Value) (xs:List Value) (y:Value) (hs:a.eval s=v) (hx:a.eval x=.slice (some ⟨W.heap.size,0,none⟩) 1 1) (h1:y.oneCell'=true)
  (HO:Own W base e v xs) (HB:Below base w0 W) (aP:base<=W.heap.size) (hl:(xs.length+1)*bytes<=140737488355328)
  (h:∀v1 w1,Own w1 base e v1 (xs++[y])->Below base w0 w1->W.grownBy w1 v.ownBlock->(v1.ownBlock=v.ownBlock\/∃b,v1.ownBlock=some b/\W.heap.size<=b)->wpList P ah Q rest (a.put o.dst v1) w1) :
  wpList P ah Q (o::rest) a (W.alloc (.cells #[y] e)):=by
 obtain ⟨i0,hi,dB,dv,cX⟩:=info_parts b5;have aq:xs.length+1<=140737488355328:=q_g (Nat.le_mul_of_pos_right _ iy) hl
 refine wpList_append_own_at (W.alloc (.cells #[y] e)) rI s x t ho base e i0 z 1 bytes ht hi dB dv cX hz (by omega) v xs.length xs hs (World.ownsRow.alloc HO _) ⟨W.heap.size,0,none⟩ 1 1 [y] hx rfl
  (World.news_of_block (cs:=#[y]) (t:=e) (fr:=(0,0)) (heap_alloc_new W _)) (by simpa using h1) (by simp only[maxLen];omega) hl (by simp;omega) ?_
 intro v1 w1 bD hg _ br;refine h v1 w1 (by unfold Own;simpa using bD) ((HB.alloc aP _).grown hg (by simp;omega) fun k hk=>(HO.lt k hk).1) (z_ad (World.grownBy_alloc W _ _) hg) ?_;rcases br with br|br
 ·exact .inl br
 ·exact .inr ⟨_,br,by simp⟩
end
def bv (l:List UInt8):List Value:=l.map fun u=>.int .u8 u.toNat
theorem z_D (l:List UInt8):(bv l).length=l.length:=by simp[bv]
theorem w_h (l m:List UInt8):bv (l++m)=bv l++bv m:=by simp[bv]
theorem bv_at (l:List UInt8) (i:Nat) (h:i<l.length):(bv l)[i]?=some (.int .u8 ((l.getD i 0).toNat:Int)):=by
 simp[bv,q_d h]
theorem bv_set (l:List UInt8) (i:Nat) (u:UInt8):(bv l).set i (.int .u8 u.toNat)=bv (l.set i u):=by
 simp[bv,List.map_set]
def bs (l:List UInt8):ByteArray:=⟨l.toArray⟩
theorem x_D (s:ByteArray):bs s.data.toList=s:=by simp[bs]
theorem z_Y (l:List UInt8):(bs l).data.toList=l:=by simp[bs]
theorem z_b (l:List UInt8):(bs l).size=l.length:=rfl
theorem bs_inj {l m:List UInt8}:bs l=bs m↔l=m:=by
 constructor
 ·intro h
  have:=congrArg (fun s:ByteArray=>s.data.toList) h;simpa[bs] using this
 ·intro h;rw[h]
theorem z_n (s:ByteArray):s.data.toList.length=s.size:=rfl
theorem w_J (s:ByteArray) (k:Nat):∀h:k<s.size,((s[k]'h).toNat:Int)=((s.data.toList.getD k 0).toNat:Int):=by
 intro h
 have h2:k<s.data.toList.length:=by rw[z_n];exact h
 rw[q_a,q_d h2];rfl
theorem y_b {P:Program} {w:World} {src dst e:TypeId} {v:Value} {l:List UInt8} (hs:P.underlying src=some (.slice e)) (he:P.underlying e=some (.int .u8)) (hd:P.underlying dst=some .string)
  (h:z_g w v (bv l)):(convert src dst v).run P w=.ok (.string (bs l)) w:=by
 have e0:strOfNums (l.map fun u=>(u.toNat:Int))=bs l:=by
  unfold strOfNums bs;congr 2;rw[List.map_map]
  conv=>rhs;rw[<-List.map_id l]
  apply List.map_congr_left;intro u _;simp
 obtain ⟨A,c,rfl,h1,h2,h3⟩:=h;rcases Nat.eq_zero_or_pos l.length with h0|h0
 ·obtain rfl:l=[]:=q_I h0
  rcases A with _|ad
  ·exact run_convert_bytes_nil w src e hs he 0 c dst hd
  ·have hz:(loadCells ad 0).run P w=.ok #[] w:=run_loadCells_list (P:=P) w ad [] (fun j v hj=>by simp at hj)
   rw[run_convert_bytes_string w src dst e _ _ c hs he hd];simp[Conv.bytesToString,bv,hz,bs];rfl
 ·obtain ⟨b,off,rfl,hc⟩:=h3 (by rw[z_D];exact h0)
  rw[<-e0];refine run_convert_bytes_arg w src e hs he b off _ c _ (by simp[bv]) (fun i hi=>?_) dst hd;rw[hc i hi,bv_at _ _ (by simpa[bv] using hi)]
  have sD:i<l.length:=by simpa[bv] using hi
  simp[q_a,q_d sD]
theorem Blk.c0 {w:World} {g t:Nat} {x0:Value} {l:List Value} (h:Blk w g t (x0::l).toArray):w.cell? ⟨g,0,none⟩=some x0:=h.cell 0
theorem Blk.c1 {w:World} {g t:Nat} {x0 x1:Value} {l:List Value} (h:Blk w g t (x0::x1::l).toArray):w.cell? ⟨g,1,none⟩=some x1:=h.cell 1
theorem Blk.c2 {w:World} {g t:Nat} {x0 x1 x2:Value} {l:List Value} (h:Blk w g t (x0::x1::x2::l).toArray):w.cell? ⟨g,2,none⟩=some x2:=h.cell 2
theorem Blk.c3 {w:World} {g t:Nat} {x0 x1 x2 x3:Value} {l:List Value} (h:Blk w g t (x0::x1::x2::x3::l).toArray):w.cell? ⟨g,3,none⟩=some x3:=h.cell 3
theorem Blk.c4 {w:World} {g t:Nat} {x0 x1 x2 x3 x4:Value} {l:List Value} (h:Blk w g t (x0::x1::x2::x3::x4::l).toArray):w.cell? ⟨g,4,none⟩=some x4:=h.cell 4
theorem Blk.c5 {w:World} {g t:Nat} {x0 x1 x2 x3 x4 x5:Value} {l:List Value} (h:Blk w g t (x0::x1::x2::x3::x4::x5::l).toArray):w.cell? ⟨g,5,none⟩=some x5:=h.cell 5
theorem Blk.c6 {w:World} {g t:Nat} {x0 x1 x2 x3 x4 x5 x6:Value} {l:List Value} (h:Blk w g t (x0::x1::x2::x3::x4::x5::x6::l).toArray):w.cell? ⟨g,6,none⟩=some x6:=h.cell 6
theorem Blk.c7 {w:World} {g t:Nat} {x0 x1 x2 x3 x4 x5 x6 x7:Value} {l:List Value} (h:Blk w g t (x0::x1::x2::x3::x4::x5::x6::x7::l).toArray):w.cell? ⟨g,7,none⟩=some x7:=h.cell 7
theorem Blk.c8 {w:World} {g t:Nat} {x0 x1 x2 x3 x4 x5 x6 x7 x8:Value} {l:List Value} (h:Blk w g t (x0::x1::x2::x3::x4::x5::x6::x7::x8::l).toArray):w.cell? ⟨g,8,none⟩=some x8:=h.cell 8
theorem Blk.c9 {w:World} {g t:Nat} {x0 x1 x2 x3 x4 x5 x6 x7 x8 x9:Value} {l:List Value} (h:Blk w g t (x0::x1::x2::x3::x4::x5::x6::x7::x8::x9::l).toArray):w.cell? ⟨g,9,none⟩=some x9:=h.cell 9
theorem Blk.c10 {w:World} {g t:Nat} {x0 x1 x2 x3 x4 x5 x6 x7 x8 x9 oS:Value} {l:List Value} (h:Blk w g t (x0::x1::x2::x3::x4::x5::x6::x7::x8::x9::oS::l).toArray):w.cell? ⟨g,10,none⟩=some oS:=h.cell 10
theorem Blk.c11 {w:World} {g t:Nat} {x0 x1 x2 x3 x4 x5 x6 x7 x8 x9 oS rJ:Value} {l:List Value} (h:Blk w g t (x0::x1::x2::x3::x4::x5::x6::x7::x8::x9::oS::rJ::l).toArray):w.cell? ⟨g,11,none⟩=some rJ:=h.cell 11
theorem Blk.c12 {w:World} {g t:Nat} {x0 x1 x2 x3 x4 x5 x6 x7 x8 x9 oS rJ uL:Value} {l:List Value} (h:Blk w g t (x0::x1::x2::x3::x4::x5::x6::x7::x8::x9::oS::rJ::uL::l).toArray):w.cell? ⟨g,12,none⟩=some uL:=h.cell 12
theorem Blk.c13 {w:World} {g t:Nat} {x0 x1 x2 x3 x4 x5 x6 x7 x8 x9 oS rJ uL AP:Value} {l:List Value} (h:Blk w g t (x0::x1::x2::x3::x4::x5::x6::x7::x8::x9::oS::rJ::uL::AP::l).toArray):w.cell? ⟨g,13,none⟩=some AP:=h.cell 13
theorem Blk.c14 {w:World} {g t:Nat} {x0 x1 x2 x3 x4 x5 x6 x7 x8 x9 oS rJ uL AP Il:Value} {l:List Value} (h:Blk w g t (x0::x1::x2::x3::x4::x5::x6::x7::x8::x9::oS::rJ::uL::AP::Il::l).toArray):w.cell? ⟨g,14,none⟩=some Il:=h.cell 14
theorem Blk.c15 {w:World} {g t:Nat} {x0 x1 x2 x3 x4 x5 x6 x7 x8 x9 oS rJ uL AP Il Qf:Value} {l:List Value} (h:Blk w g t (x0::x1::x2::x3::x4::x5::x6::x7::x8::x9::oS::rJ::uL::AP::Il::Qf::l).toArray):w.cell? ⟨g,15,none⟩=some Qf:=h.cell 15
section
open GfM
end
section
open GfM
def pwI (a:UInt8) (n:Int):UInt8:=if n=0 then 1 else if a=0 then 0 else pw a (n % 255).toNat
theorem tmod_255 (n:Int):(wrap64 (n.tmod 255+255)).tmod 255=n % 255:=by
 have h:=Int.tmod_eq_emod (a:=n) (b:=255)
 have hw:wrap64 (n.tmod 255+255)=n.tmod 255+255:=by
  rw[h];unfold wrap64;split<;>omega
 rw[hw,h];split
 ·rw[Int.tmod_eq_emod_of_nonneg (by omega)];omega
 ·rw[Int.tmod_eq_emod_of_nonneg (by omega)];omega
theorem and_one_i64 (k:Nat) (h:k<2 ^ 62):bits .and .i64 (k:Int) 1=((k % 2:Nat):Int):=by
 have:=(bits_nat .i64 62 (by decide) wraps_i64 k 1 h (by decide)).1;rw[Nat.and_one_is_mod] at this;exact this
theorem pow_odd (o c:UInt8) (k:Nat) (h:k % 2=1):mul (mul o c) (pw (mul c c) (k / 2))=mul o (pw c k):=by
 rw[sq_pw,x_s];congr 1
 have:k=1+2*(k / 2):=by omega
 conv=>rhs;rw[this,pw_add,pw_one]
theorem pow_even (o c:UInt8) (k:Nat) (h:k % 2=0):mul o (pw (mul c c) (k / 2))=mul o (pw c k):=by
 rw[sq_pw,show 2*(k / 2)=k by omega]
theorem ne_zero_beq {a:UInt8} (h:a≠0):(((a.toNat:Nat):Int)==0)=false:=by
 have:=v_E h;rw[q_o];omega
theorem pow_any (x n:Int) (a:UInt8) (hx:x=(a.toNat:Int)) (w:World) :
  Cl 162 #[.int .u8 x,.int .i64 n] w fun e w'=>e=.returned (.int .u8 ((pwI a n).toNat:Int))/\w=w':=by
 subst hx;by_cases hn:n=0
 ·subst hn
  go_enter func162,ntmps162;go_wp2;go_ret;exact ⟨rfl,rfl⟩
 have JR:(n==0)=false:=by simpa using hn
 by_cases ha:a=0
 ·subst ha
  have e:pwI 0 n=0:=by unfold pwI;rw[if_neg hn,if_pos rfl]
  rw[e];have HN:=Zz hn;clear hn e;go_enter func162,ntmps162;go_wp2;go_ret;exact ⟨rfl,rfl⟩
 have uJ:=ne_zero_beq ha
 have e:pwI a n=pw a (n % 255).toNat:=by unfold pwI;rw[if_neg hn,if_neg ha]
 rw[e];have ht:=tmod_255 n;obtain ⟨k,hk⟩:∃k:Nat,n % 255=k:=⟨(n % 255).toNat,by omega⟩
 have dN:k<255:=by omega
 rw[hk] at ht ⊢;simp only[Int.toNat_natCast];have HN:=Zz hn;clear hn e hk;have HA:=Zz ha;clear ha;go_enter func162,ntmps162;go_wp2
 go_loop [0,5,6] (fun s0 s5 s6=>∃(c o:UInt8) (j:Nat),j<255/\mul o (pw c j)=pw a k/\s0=.int .u8 c.toNat/\s5=.int .u8 o.toNat/\s6=.int .i64 j) (fun _ _ s6=>(intOf s6).toNat)
 case atStart=>exact ⟨a,1,k,dN,one_mul _,rfl,rfl,rfl⟩
 case round =>
  obtain ⟨c,o,j,hj,hg,rfl,rfl,rfl⟩:=hrel;have H:=Zz hg;clear hg;by_cases h0:0<j
  ·by_cases iP:j % 2=1
   ·have hb:(bits .and .i64 (j:Int) 1==1)=true:=by rw[and_one_i64 j (by omega),iP];rfl
    go_wp2_with (go_at_call 220;refine (mul_any _ _ _ _ rfl rfl _).mono ?_;rintro e w' ⟨rfl,rfl⟩)
    go_round
    case rel=>exact ⟨mul c c,mul o c,j / 2,by omega,by rw[pow_odd o c j iP];exact H.o,rfl,rfl,rfl⟩
    case measure=>simp[intOf];omega
   ·have hb:(bits .and .i64 (j:Int) 1==1)=false:=by rw[and_one_i64 j (by omega),show j % 2=0 by omega];rfl
    go_wp2_with (go_at_call 220;refine (mul_any _ _ _ _ rfl rfl _).mono ?_;rintro e w' ⟨rfl,rfl⟩)
    go_round
    case rel=>exact ⟨mul c c,o,j / 2,by omega,by rw[pow_even o c j (by omega)];exact H.o,rfl,rfl,rfl⟩
    case measure=>simp[intOf];omega
  ·obtain rfl:j=0:=by omega
   have hP:o=pw a k:=by rw[<-H.o,pw_zero,mul_one]
   have HP:=Zz hP;clear hP H;go_wp2;go_ret;exact ⟨by rw[<-HP.o];rfl,rfl⟩
end
section
open GfM
def z_H (a b:List UInt8):List UInt8:=List.zipWith (· ^^^ ·) a b
theorem info5:(prog.info? 5).map (fun i=>(i.zero,i.size,i.bytes))=some (some (.int .u8 0),1,1):=by kernel_rfl
theorem xorL_take (a b:List UInt8) (i:Nat) (ha:i<a.length) (hb:i<b.length):z_H (a.take (i+1)) (b.take (i+1))=z_H (a.take i) (b.take i)++[a.getD i 0 ^^^ b.getD i 0]:=by
 unfold z_H;rw[q_h ha,q_h hb,List.zipWith_append (by simp;omega)];simp[ha,hb]
theorem xorL_all (a b:List UInt8) (i:Nat) (h:i=a.length\/i=b.length) (ha:i<=a.length) (hb:i<=b.length):z_H (a.take i) (b.take i)=z_H a b:=by
 unfold z_H;rw[<-List.take_zipWith,q_t];simp;omega
end
section
open GfM
theorem inv_any (x:Int) (a:UInt8) (hx:x=(a.toNat:Int)) (w:World) :
  Cl 217 #[.int .u8 x] w fun e w'=>e=.returned (.tuple #[.int .u8 ((inv a).toNat:Int),.int .i64 (if a=0 then 6 else 0)])/\w=w':=by
 subst hx;by_cases ha:a=0
 ·subst ha
  rw[if_pos rfl,inv_zero];go_enter func217,ntmps217;go_wp2;go_ret2;exact ⟨rfl,rfl⟩
 ·rw[if_neg ha]
  have uJ:=ne_zero_beq ha
  have e:pwI a 254=inv a:=by
   rw[inv_pw a ha];unfold pwI;rw[if_neg (by decide),if_neg ha];rfl
  rw[<-e];have HE:=Zz ha;clear ha e;go_enter func217,ntmps217
  go_wp2_with (go_at_call 162;refine (pow_any _ _ a rfl _).mono ?_;rintro e w' ⟨rfl,rfl⟩)
  go_ret2;exact ⟨rfl,rfl⟩
end
end Go.Proofs.YtdkheklakfbeeaaGreatDoor
