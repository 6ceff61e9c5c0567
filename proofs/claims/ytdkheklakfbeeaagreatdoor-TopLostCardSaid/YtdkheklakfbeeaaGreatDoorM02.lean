/- Part 2 of the proof. -/
import Derived.Lib.ConvBytes
import Derived.Lib.AtoiErrMem
import Derived.Laws.IdiomCopy
import Derived.Lib.AppendStr
import Derived.ArgAppend
import Derived.RowKit3
import Derived.WideLaws
import Derived.Lib.SliceRun
import Derived.Test.YtdkheklakfbeeaaGreatDoorM01
set_option linter.all false
set_option maxRecDepth 100000
set_option maxHeartbeats 16000000
namespace Go.Proofs.YtdkheklakfbeeaaGreatDoor
open Go.RowKit Tryz
section
open GfM
def z_T (w:World) (g:Nat) (l:List UInt8) (av:Nat):Prop :=
 l.length<=av/\av<=9223372036854775807/\∃(cs:Array Value) (fr:Nat × Nat),w.heap[g]?=some (.cells cs 5 fr)/\(∀j,j<av->¬(fr.1<=j/\j<fr.2))/\l.length<=cs.size/\∀j,j<l.length->cs[j]?=(bv l)[j]?
section
variable {w w':World} {g av:Nat} {l:List UInt8}
theorem z_T.lt (h:z_T w g l av):g<w.heap.size:=by
 obtain ⟨_,_,cs,fr,hh,_⟩:=h;exact (q_K.1 hh).1
theorem z_T.cell (h:z_T w g l av) (j:Nat) (hj:j<l.length):w.cell? ⟨g,j,none⟩=some (.int .u8 ((l.getD j 0).toNat:Int)):=by
 obtain ⟨_,_,cs,fr,hh,_,_,hc⟩:=h;rw[cell_of_row w g j cs 5 fr hh,hc j hj,bv_at l j hj]
theorem z_T.frozen (h:z_T w g l av) (j:Nat) (hj:j<av):w.frozen? ⟨g,j,none⟩=false:=by
 obtain ⟨_,_,cs,fr,hh,hf,_⟩:=h;obtain ⟨lo,hi⟩:=fr;have:=hf j hj;simp only at this;simp[World.frozen?,hh];omega
theorem z_T.set_ (h:z_T w g l av) (j:Nat) (u:UInt8):z_T (w.setCell ⟨g,j,none⟩ (.int .u8 u.toNat)) g (l.set j u) av:=by
 obtain ⟨h1,h2,cs,fr,hh,hf,hs,hc⟩:=h;refine ⟨by simpa using h1,h2,cs.setIfInBounds j (.int .u8 u.toNat),fr,?_,hf,by simpa using hs,?_⟩
 ·simp[World.setCell,Array.getElem?_modify,hh]
 ·intro k hk
  rw[q_k] at hk;rw[<-bv_set,Array.getElem?_setIfInBounds,q_C,z_D];by_cases e:j=k
  ·subst e
   rw[if_pos rfl,if_pos (by omega),if_pos rfl,if_pos hk]
  ·rw[if_neg e,if_neg e]
   exact hc k hk
theorem z_T.drew (h:z_T w g l av):z_T w.drew g l av:=h
theorem z_T.drewN (h:z_T w g l av) (n:Nat):z_T (w.drewN n) g l av:=h
theorem z_T.reads (h:z_T w g l av):z_g w (.slice (some ⟨g,0,none⟩) l.length av) (bv l):=by
 refine ⟨some ⟨g,0,none⟩,av,by rw[z_D],by rw[z_D];exact h.1,h.2.1,fun _=>⟨g,0,rfl,fun j hj=>?_⟩⟩;rw[z_D] at hj;rw[q_D,h.cell j hj,bv_at l j hj]
theorem z_T.below {B:Nat} (h:z_T w g l av) (hb:Below B w w') (hg:g<B):z_T w' g l av:=by
 obtain ⟨h1,h2,cs,fr,hh,rest⟩:=h;exact ⟨h1,h2,cs,fr,(hb.block g hg).trans hh,rest⟩
end
theorem z_T.alloc {w:World} {g av:Nat} {l:List UInt8} (h:z_T w g l av) (o:Obj):z_T (w.alloc o) g l av:=h.below (B:=w.heap.size) ((Below.refl _ _).alloc (q_e _) o) h.lt
theorem z_T.far {w:World} {g av:Nat} {l:List UInt8} (h:z_T w g l av) {p:Addr} (hp:g≠p.block) (u:Value):z_T (w.setCell p u) g l av:=by
 obtain ⟨h1,h2,cs,fr,hh,rest⟩:=h;exact ⟨h1,h2,cs,fr,(Below.heap_setCell w p u g hp).trans hh,rest⟩
theorem z_T.grown {w w':World} {g av:Nat} {l:List UInt8} (h:z_T w g l av) {row:Option Nat} (hb:w.grownBy w' row) (hg:some g≠row):z_T w' g l av:=by
 have af:=h.lt;obtain ⟨h1,h2,cs,fr,hh,rest⟩:=h;exact ⟨h1,h2,cs,fr,(hb.block g af hg).trans hh,rest⟩
theorem z_T.of_own {w:World} {base g av:Nat} {l:List UInt8} (h:Own w base 5 (.slice (some ⟨g,0,none⟩) l.length av) (bv l)):z_T w g l av:=by
 rcases h.2 with ⟨h1,_⟩|⟨g',nH,aQ,he,hb,hh,hc,hm,hs,ht⟩
 ·cases h1
 ·injection he with h1 h2 h3
  injection h1 with h1
  injection h1 with h1
  subst h1 h3;rw[z_D] at *;refine ⟨hc,hm,aQ,(0,0),hh,fun j _=>by simp,by simp at hs;omega,fun j hj=>?_⟩;rw[<-ht];simp only[Nat.mul_one];rw[List.getElem?_take,if_pos hj];simp
theorem z_T.ne_ {w:World} {g g' av:Nat} {l:List UInt8} {t:TypeId} {cs:Array Value} (h:z_T w g l av) (h':Blk w g' t cs) (aA:(5:Nat)≠t):g≠g':=by
 rintro rfl;obtain ⟨_,_,iz,fr,hh,_⟩:=h;unfold Blk at h';rw[hh] at h';injection h' with h';injection h' with _ ht;exact aA ht
theorem z_T.made_zero (W:World) (n:Nat) (h:n<=140737488351232):z_T (W.alloc (.cells (madeCells #[.int .u8 0] n) 5)) W.heap.size (List.replicate n 0) n:=by
 refine ⟨by simp,by omega,madeCells #[.int .u8 0] n,(0,0),heap_alloc_new W _,fun j _=>by simp,by simp[size_madeCells],fun j hj=>?_⟩
 have iQ:j<n:=by simpa using hj
 rw[bv_at _ _ hj];simp[madeCells,iQ,Nat.mod_one,q_a]
theorem grownCap_bounds (w:World) (s:ByteArray) (h:s.size<=140737488351232):s.size<=grownCap w s.size 0 5/\grownCap w s.size 0 5<=9223372036854775807:=by
 refine ⟨grownCap_ge w s.size 0 5,?_⟩;have:=grownCap_le_maxLen w s.size 0 5 (by simp only[maxLen];omega);simpa[maxLen] using this
theorem z_T.made (w:World) (s:ByteArray) (l:List UInt8) (hl:l=s.data.toList) (h:s.size<=140737488351232):z_T (Lib.bytesWorld w 5 s) w.heap.size l (grownCap w s.size 0 5):=by
 obtain ⟨h1,h2⟩:=grownCap_bounds w s h;subst hl
 have aj:(Lib.bytesCells w 5 s).size=grownCap w s.size 0 5:=by
  have:s.data.size=s.size:=rfl;simp only[Lib.bytesCells,Array.size_append,Array.size_map,Array.size_replicate];omega
 refine ⟨by rw[z_n];exact h1,h2,_,_,Lib.bytesWorld_at_new w 5 s,?_,?_,?_⟩
 ·intro j hj
  rw[aj];simp only;omega
 ·rw[aj,z_n];exact h1
 ·intro j hj
  rw[z_n] at hj;have hc:=Lib.bytesWorld_cell w 5 s j hj;rw[cell_of_row _ _ j _ _ _ (Lib.bytesWorld_at_new w 5 s)] at hc;rw[hc,bv_at _ _ (by rw[z_n];exact hj)]
def x_l (a:UInt8) (l:List UInt8) (i:Nat):List UInt8:=(l.take i).map (mul a)++l.drop i
theorem z_ag (a:UInt8) (l:List UInt8) (i:Nat):(x_l a l i).length=l.length:=by
 simp[x_l];omega
theorem scaled_zero (a:UInt8) (l:List UInt8):x_l a l 0=l:=by simp[x_l]
theorem scaled_all (a:UInt8) (l:List UInt8):x_l a l l.length=l.map (mul a):=by simp[x_l]
theorem scaled_at (a:UInt8) (l:List UInt8) (i:Nat) (h:i<l.length):(x_l a l i).getD i 0=l.getD i 0:=by
 simp only[x_l,q_a];rw[q_u (by simp;omega),q_i,q_l,Nat.min_eq_left (by omega),Nat.sub_self,List.getElem?_drop,Nat.add_zero]
theorem scaled_succ (a:UInt8) (l:List UInt8) (i:Nat) (h:i<l.length):(x_l a l i).set i (mul a (l.getD i 0))=x_l a l (i+1):=by
 simp only[x_l]
 rw[List.set_append_right _ _ (by simp;omega),q_i,q_l,Nat.min_eq_left (by omega),Nat.sub_self,List.drop_eq_getElem_cons h,List.set_cons_zero,
  q_h h,List.map_append,List.append_assoc]
 simp[q_a,h]
theorem scale_ba (x:Int) (a:UInt8) (hx:x=(a.toNat:Int)) (s:ByteArray) (l:List UInt8) (hl:l=s.data.toList) (hs:s.size<=140737488351232) (w:World) :
  Cl 161 #[.int .u8 x,.string s] w fun e w'=>e=.returned (.string (bs (l.map (mul a))))/\Below w.heap.size w w':=by
 subst hx;have kc:=Lib.run_convert_string_bytes (P:=prog) w 9 105 5 s underlying9 underlying105 underlying5;have bx:=z_T.made w s l hl hs;have JS:=Lib.bytesWorld_below w 5 s
 have aj:l.length=s.size:=by rw[hl];exact z_n s
 have hg:=bx.lt;generalize Lib.bytesWorld w 5 s=w0 at *;generalize grownCap w s.size 0 5=av at *;have b6:=Zz aj;have kU:=bx.1;rw[aj] at kU;have Qg:=bx.2.1;clear hl aj;go_enter func161,ntmps161;go_wp2;clear kc
 go_loopw [6,11] (fun _ s11 wr=>∃i:Nat,i<=s.size/\s11=.int .i64 i/\z_T wr w.heap.size (x_l a l i) av/\Below w.heap.size w wr) (fun _ s11 _=>s.size-(intOf s11).toNat)
 case atStart=>exact ⟨0,by omega,rfl,by rw[scaled_zero];exact bx,JS⟩
 case round =>
  obtain ⟨i,hi,rfl,hB,fo⟩:=hrel;by_cases af:i<s.size
  ·have bt:i<l.length:=by rw[b6.o];exact af
   have aa:=hB.cell i (by rw[z_ag];exact bt);rw[scaled_at a l i bt] at aa;have sE:=hB.frozen i (by omega);have aH:=hB.set_ i (mul a (l.getD i 0));rw[scaled_succ a l i bt] at aH;generalize l.getD i 0=u at *;have aR:=Zz aH;clear aH
   go_wp2_with (go_at_call 220;refine (mul_any _ _ a u rfl rfl _).mono ?_;rintro e w' ⟨rfl,rfl⟩)
   go_roundw
   case rel=>exact ⟨i+1,by omega,by go_num,aR.o,fo.setCell (by simp) _⟩
   case measure=>simp[intOf];omega
  ·obtain rfl:i=s.size:=by omega
   have hr:=hB.reads;rw[z_ag,b6.o] at hr;have eq:=y_b (P:=prog) (src:=105) (dst:=9) underlying105 underlying5 underlying9 hr;rw[<-b6.o,scaled_all,b6.o] at eq;generalize kV:l.map (mul a)=r at *;have HR:=Zz kV;clear kV;go_wp2;go_ret;exact ⟨by rw[HR.o];rfl,fo⟩
end
section
open GfM
theorem x_8 (a b:List UInt8):(z_H a b).length=min a.length b.length:=by simp[z_H]
def xord (a b:List UInt8) (n i:Nat):List UInt8:=z_H (a.take i) (b.take i)++List.replicate (n-i) 0
theorem xord_length (a b:List UInt8) (n i:Nat) (hi:i<=n) (ha:n<=a.length) (hb:n<=b.length):(xord a b n i).length=n:=by
 simp[xord,z_H];omega
theorem xord_zero (a b:List UInt8) (n:Nat):xord a b n 0=List.replicate n 0:=by simp[xord,z_H]
theorem xord_all (a b:List UInt8) (n:Nat) (hn:n=min a.length b.length):xord a b n n=z_H a b:=by
 unfold xord;rw[Nat.sub_self,List.replicate_zero,List.append_nil];exact xorL_all a b n (by omega) (by omega) (by omega)
theorem xord_succ (a b:List UInt8) (n i:Nat) (hi:i<n) (ha:n<=a.length) (hb:n<=b.length):(xord a b n i).set i (a.getD i 0 ^^^ b.getD i 0)=xord a b n (i+1):=by
 have hl:(z_H (a.take i) (b.take i)).length=i:=by simp[z_H];omega
 unfold xord;rw[List.set_append_right _ _ (by omega),hl,Nat.sub_self,xorL_take a b i (by omega) (by omega),List.append_assoc];congr 1;rw[show n-i=(n-(i+1))+1 by omega,List.replicate_succ,List.set_cons_zero];rfl
theorem mk_bytes (m:Nat) (hm:m<=140737488355328):∀W:World,(Instr.makeSlice 105 (.int .i64 m) (.int .i64 m)).run prog W=.ok (.slice (some ⟨W.heap.size,0,none⟩) m m) (W.alloc (.cells (madeCells #[.int .u8 0] m) 5)):=by
 intro W;exact run_make_row' 105 5 (.int .u8 0) 1 underlying105 info5 rfl .i64 .i64 m (by omega) (by omega) W
theorem xor_le (s t:ByteArray) (a b:List UInt8) (hs:a=s.data.toList) (ht:b=t.data.toList) (cY:s.size<=t.size) (Im:s.size<=140737488351232) (w:World) :
  Cl 160 #[.string s,.string t] w fun e w'=>e=.returned (.string (bs (z_H a b)))/\Below w.heap.size w w':=by
 have xj:∀i,∀h:i<s.size,((s[i]'h).toNat:Int)=((a.getD i 0).toNat:Int):=by subst hs;exact w_J s
 have Cf:∀i,∀h:i<t.size,((t[i]'h).toNat:Int)=((b.getD i 0).toNat:Int):=by subst ht;exact w_J t
 have xk:a.length=s.size:=by subst hs;exact z_n s
 have rK:b.length=t.size:=by subst ht;exact z_n t
 have bK:=z_T.made_zero w s.size Im;have HS:=Zz xj;clear xj;have HT:=Zz Cf;clear Cf;have nJ:=Zz xk;clear xk;have pF:=Zz rK;clear rK;have rL:=Zz bK;clear bK;have gV:=mk_bytes s.size (by omega);clear hs ht;go_enter func160,ntmps160;go_wp2;clear gV
 go_loopw [6,15] (fun _ s15 wr=>∃i:Nat,i<=s.size/\s15=.int .i64 i/\z_T wr w.heap.size (xord a b s.size i) s.size/\Below w.heap.size w wr) (fun _ s15 _=>s.size-(intOf s15).toNat)
 case atStart=>exact ⟨0,by omega,rfl,by rw[xord_zero];exact rL.o,((Below.refl _ _).alloc (q_e _) _)⟩
 case round =>
  obtain ⟨i,hi,rfl,hB,fo⟩:=hrel;by_cases af:i<s.size
  ·have JT:=HS.o i
   have Ur:=HT.o i;have sE:=hB.frozen i (by omega);have aq:=xord_length a b s.size i (by omega) (by have:=nJ.o;omega) (by have:=pF.o;omega);have aa:=hB.cell i (by rw[aq];exact af);have aH:=hB.set_ i (a.getD i 0 ^^^ b.getD i 0);rw[xord_succ a b s.size i af (by have:=nJ.o;omega) (by have:=pF.o;omega)] at aH;have cJ:=v_Y (a.getD i 0) (b.getD i 0);generalize (xord a b s.size i).getD i 0=u0 at *;generalize a.getD i 0=x at *;generalize b.getD i 0=y at *;generalize x ^^^ y=z at *;have aR:=Zz aH;clear aH;have HL:=Zz aq;clear aq;go_wp2
   go_region
   go_wp2;go_roundw
   case rel=>exact ⟨i+1,by omega,by go_num,aR.o.drew,(fo.setCell (by simp) _).drew⟩
   case measure=>simp[intOf];omega
  ·obtain rfl:i=s.size:=by omega
   have hr:=hB.reads;rw[xord_all a b s.size (by have:=nJ.o;have:=pF.o;omega)] at hr
   have iR:(z_H a b).length=s.size:=by rw[x_8];have:=nJ.o;have:=pF.o;omega
   rw[iR] at hr;have eq:=y_b (P:=prog) (src:=105) (dst:=9) underlying105 underlying5 underlying9 hr;generalize kV:z_H a b=r at *;have HR:=Zz kV;clear kV;have jr:=Zz iR;clear iR;go_wp2;go_ret;exact ⟨by rw[HR.o];rfl,fo⟩
theorem xor_ge (s t:ByteArray) (a b:List UInt8) (hs:a=s.data.toList) (ht:b=t.data.toList) (cY:t.size<s.size) (Im:t.size<=140737488351232) (w:World) :
  Cl 160 #[.string s,.string t] w fun e w'=>e=.returned (.string (bs (z_H a b)))/\Below w.heap.size w w':=by
 have xj:∀i,∀h:i<s.size,((s[i]'h).toNat:Int)=((a.getD i 0).toNat:Int):=by subst hs;exact w_J s
 have Cf:∀i,∀h:i<t.size,((t[i]'h).toNat:Int)=((b.getD i 0).toNat:Int):=by subst ht;exact w_J t
 have xk:a.length=s.size:=by subst hs;exact z_n s
 have rK:b.length=t.size:=by subst ht;exact z_n t
 have bK:=z_T.made_zero w t.size Im;have HS:=Zz xj;clear xj;have HT:=Zz Cf;clear Cf;have nJ:=Zz xk;clear xk;have pF:=Zz rK;clear rK;have rL:=Zz bK;clear bK;have gV:=mk_bytes t.size (by omega);clear hs ht;go_enter func160,ntmps160;go_wp2;clear gV
 go_loopw [6,15] (fun _ s15 wr=>∃i:Nat,i<=t.size/\s15=.int .i64 i/\z_T wr w.heap.size (xord a b t.size i) t.size/\Below w.heap.size w wr) (fun _ s15 _=>t.size-(intOf s15).toNat)
 case atStart=>exact ⟨0,by omega,rfl,by rw[xord_zero];exact rL.o,((Below.refl _ _).alloc (q_e _) _)⟩
 case round =>
  obtain ⟨i,hi,rfl,hB,fo⟩:=hrel;by_cases af:i<t.size
  ·have JT:=HS.o i
   have Ur:=HT.o i;have sE:=hB.frozen i (by omega);have aq:=xord_length a b t.size i (by omega) (by have:=nJ.o;omega) (by have:=pF.o;omega);have aa:=hB.cell i (by rw[aq];exact af);have aH:=hB.set_ i (a.getD i 0 ^^^ b.getD i 0);rw[xord_succ a b t.size i af (by have:=nJ.o;omega) (by have:=pF.o;omega)] at aH;have cJ:=v_Y (a.getD i 0) (b.getD i 0);generalize (xord a b t.size i).getD i 0=u0 at *;generalize a.getD i 0=x at *;generalize b.getD i 0=y at *;generalize x ^^^ y=z at *;have aR:=Zz aH;clear aH;have HL:=Zz aq;clear aq;go_wp2
   go_region
   go_wp2;go_roundw
   case rel=>exact ⟨i+1,by omega,by go_num,aR.o.drew,(fo.setCell (by simp) _).drew⟩
   case measure=>simp[intOf];omega
  ·obtain rfl:i=t.size:=by omega
   have hr:=hB.reads;rw[xord_all a b t.size (by have:=nJ.o;have:=pF.o;omega)] at hr
   have iR:(z_H a b).length=t.size:=by rw[x_8];have:=nJ.o;have:=pF.o;omega
   rw[iR] at hr;have eq:=y_b (P:=prog) (src:=105) (dst:=9) underlying105 underlying5 underlying9 hr;generalize kV:z_H a b=r at *;have HR:=Zz kV;clear kV;have jr:=Zz iR;clear iR;go_wp2;go_ret;exact ⟨by rw[HR.o];rfl,fo⟩
theorem xor_ba (s t:ByteArray) (a b:List UInt8) (hs:a=s.data.toList) (ht:b=t.data.toList) (Im:min s.size t.size<=140737488351232) (w:World) :
  Cl 160 #[.string s,.string t] w fun e w'=>e=.returned (.string (bs (z_H a b)))/\Below w.heap.size w w':=by
 by_cases h:s.size<=t.size
 ·exact xor_le s t a b hs ht h (by omega) w
 ·exact xor_ge s t a b hs ht (by omega) (by omega) w
end
section
open GfM
def sv (T:List ByteArray):List Value:=T.map Value.string
theorem z_c (T:List ByteArray):(sv T).length=T.length:=by simp[sv]
theorem w_0 (T U:List ByteArray):sv (T++U)=sv T++sv U:=by simp[sv]
def tl (T:List ByteArray) (i:Nat):ByteArray:=T.getD i ByteArray.empty
def tb (T:List ByteArray) (i:Nat):List UInt8:=(tl T i).data.toList
theorem x_r (T:List ByteArray) (i:Nat):(tb T i).length=(tl T i).size:=rfl
theorem tl_at (T:List ByteArray) (i:Nat) (h:i<T.length):T[i]?=some (tl T i):=by
 simp[tl,h]
theorem y_y (T:List ByteArray) (i:Nat) (h:i<T.length):(sv T)[i]?=some (.string (tl T i)):=by
 rw[sv,q_j,tl_at T i h];rfl
theorem v_q (T:List ByteArray) (i:Nat) (s:ByteArray):(sv T).set i (.string s)=sv (T.set i s):=by simp[sv,List.map_set]
theorem sv_take (T:List ByteArray) (i:Nat):(sv T).take i=sv (T.take i):=by simp[sv,List.map_take]
theorem tl_mem (T:List ByteArray) (i:Nat) (h:i<T.length):tl T i∈T:=List.mem_of_getElem? (tl_at T i h)
theorem v_S (T U:List ByteArray) (i:Nat):tl (T++U) i=if i<T.length then tl T i else tl U (i-T.length):=by
 unfold tl;by_cases h:i<T.length
 ·rw[if_pos h,q_a,q_F h,q_a]
 ·rw[if_neg h,q_a,q_u (Nat.le_of_not_lt h),q_a]
theorem tl_set (T:List ByteArray) (i j:Nat) (s:ByteArray) (h:i<T.length):tl (T.set i s) j=if j=i then s else tl T j:=by
 unfold tl;by_cases e:j=i
 ·subst e;simp[h]
 ·rw[if_neg e];simp[q_C,Ne.symm e]
def Evn (T:List ByteArray):Prop:=∀i,i<T.length->(tl T i).size=(tl T 0).size
open Classical in
noncomputable def shE (T:List ByteArray):Int:=if Evn T then (if 0<T.length/\65536<(tl T 0).size then 5 else 0) else 7
theorem shE_zero {T:List ByteArray} (h:Evn T) (hs:(tl T 0).size<=65536):shE T=0:=by
 unfold shE;rw[if_pos h,if_neg (by omega)]
theorem shE_ok {T:List ByteArray} (h:shE T=0):Evn T/\(0<T.length->(tl T 0).size<=65536):=by
 unfold shE at h;by_cases h1:Evn T
 ·rw[if_pos h1] at h
  refine ⟨h1,fun hp=>?_⟩;by_cases h2:0<T.length/\65536<(tl T 0).size
  ·rw[if_pos h2] at h;cases h
  ·omega
 ·rw[if_neg h1] at h;cases h
theorem shE_long {T:List ByteArray} (h:Evn T) (hp:0<T.length) (hs:65536<(tl T 0).size):shE T=5:=by
 unfold shE;rw[if_pos h,if_pos ⟨hp,hs⟩]
theorem shE_odd {T:List ByteArray} (h:¬Evn T):shE T=7:=by unfold shE;rw[if_neg h]
theorem odd_first {T:List ByteArray} (h:¬Evn T):∃i,i<T.length/\(tl T i).size≠(tl T 0).size/\∀j,j<i->(tl T j).size=(tl T 0).size:=by
 have hx:∃i,i<T.length/\(tl T i).size≠(tl T 0).size:=by
  apply Classical.byContradiction;intro hn;apply h;intro i hi;apply Classical.byContradiction;intro he;exact hn ⟨i,hi,he⟩
 obtain ⟨i,hi⟩:=hx
 induction i using Nat.strongRecOn with
 | ind i ih =>
  by_cases hj:∃j,j<i/\(tl T j).size≠(tl T 0).size
  ·obtain ⟨j,AQ,xm⟩:=hj
   exact ih j AQ ⟨by omega,xm⟩
  ·refine ⟨i,hi.1,hi.2,fun j AQ=>?_⟩
   apply Classical.byContradiction;intro he;exact hj ⟨j,AQ,he⟩
theorem xorL_at (a b:List UInt8) (k:Nat) (ha:k<a.length) (hb:k<b.length):(z_H a b).getD k 0=a.getD k 0 ^^^ b.getD k 0:=by
 simp[z_H,List.getElem?_zipWith,ha,hb]
theorem list_ext0 {a b:List UInt8} {n:Nat} (ha:a.length=n) (hb:b.length=n) (h:∀k,k<n->a.getD k 0=b.getD k 0):a=b:=by
 apply q_m (by omega);intro k h1 h2;have:=h k (by omega);simpa[q_a,h1,h2] using this
def wt (i:Nat):UInt8:=pwI 2 (i:Int)
def pb (T:List ByteArray) (k:Nat):Nat->UInt8
 | 0=>0
 | i+1=>pb T k i ^^^ (tb T i).getD k 0
def qb (T:List ByteArray) (k:Nat):Nat->UInt8
 | 0=>0
 | i+1=>qb T k i ^^^ mul (wt i) ((tb T i).getD k 0)
def pp (T:List ByteArray) (n:Nat):Nat->List UInt8
 | 0=>List.replicate n 0
 | i+1=>z_H (pp T n i) (tb T i)
def qq (T:List ByteArray) (n:Nat):Nat->List UInt8
 | 0=>List.replicate n 0
 | i+1=>z_H (qq T n i) ((tb T i).map (mul (wt i)))
theorem getD_map (f:UInt8->UInt8) (l:List UInt8) (k:Nat) (h:k<l.length):(l.map f).getD k 0=f (l.getD k 0):=by simp[h]
theorem pp_length (T:List ByteArray) (n i:Nat) (h:∀j,j<i->(tl T j).size=n):(pp T n i).length=n:=by
 induction i with
 | zero=>simp[pp]
 | succ i ih=>rw[pp,x_8,ih (fun j hj=>h j (by omega)),x_r,h i (by omega),Nat.min_self]
theorem qq_length (T:List ByteArray) (n i:Nat) (h:∀j,j<i->(tl T j).size=n):(qq T n i).length=n:=by
 induction i with
 | zero=>simp[qq]
 | succ i ih=>rw[qq,x_8,ih (fun j hj=>h j (by omega)),q_i,x_r,h i (by omega),Nat.min_self]
theorem pp_at (T:List ByteArray) (n i k:Nat) (h:∀j,j<i->(tl T j).size=n) (hk:k<n):(pp T n i).getD k 0=pb T k i:=by
 induction i with
 | zero=>simp[pp,pb,hk]
 | succ i ih =>
  have h':∀j,j<i->(tl T j).size=n:=fun j hj=>h j (by omega);rw[pp,pb,xorL_at _ _ _ (by rw[pp_length T n i h'];exact hk) (by rw[x_r,h i (by omega)];exact hk),ih h']
theorem qq_at (T:List ByteArray) (n i k:Nat) (h:∀j,j<i->(tl T j).size=n) (hk:k<n):(qq T n i).getD k 0=qb T k i:=by
 induction i with
 | zero=>simp[qq,qb,hk]
 | succ i ih =>
  have h':∀j,j<i->(tl T j).size=n:=fun j hj=>h j (by omega)
  have hl:k<(tb T i).length:=by rw[x_r,h i (by omega)];exact hk
  rw[qq,qb,xorL_at _ _ _ (by rw[qq_length T n i h'];exact hk) (by rw[q_i];exact hl),ih h',getD_map _ _ _ hl]
def nn (T:List ByteArray):Nat:=(tl T 0).size
noncomputable def enE (T:List ByteArray):Int:=if T.length<1\/8<T.length then 2 else shE T
open Classical in
noncomputable def enP (T:List ByteArray):List UInt8:=if enE T=0 then pp T (nn T) T.length else []
open Classical in
noncomputable def enQ (T:List ByteArray):List UInt8:=if enE T=0 then qq T (nn T) T.length else []
theorem enE_ok {T:List ByteArray} (h:enE T=0):1<=T.length/\T.length<=8/\(∀j,j<T.length->(tl T j).size=nn T)/\nn T<=65536:=by
 unfold enE at h;by_cases h1:T.length<1\/8<T.length
 ·rw[if_pos h1] at h;cases h
 ·rw[if_neg h1] at h
  obtain ⟨h2,h3⟩:=shE_ok h;exact ⟨by omega,by omega,h2,h3 (by omega)⟩
theorem enE_of {T:List ByteArray} (h1:1<=T.length) (h2:T.length<=8) (h3:∀j,j<T.length->(tl T j).size=nn T) (h4:nn T<=65536):enE T=0:=by
 unfold enE;rw[if_neg (by omega)];exact shE_zero h3 h4
end
section
open GfM
theorem blk_frozen0 {w:World} {g:Nat} {t:TypeId} {cs:Array Value} (h:w.heap[g]?=some (.cells cs t (0,0))) (i:Nat):w.frozen? ⟨g,i,none⟩=false:=by simp[World.frozen?,h]
theorem blk_set0 {w:World} {g:Nat} {t:TypeId} {cs:Array Value} (h:w.heap[g]?=some (.cells cs t (0,0))) (i:Nat) (u:Value):(w.setCell ⟨g,i,none⟩ u).heap[g]?=some (.cells (cs.setIfInBounds i u) t (0,0)):=by
 simp[World.setCell,Array.getElem?_modify,h]
theorem add_plain0 (g j:Nat):(⟨g,0,none⟩:Addr).add j=⟨g,j,none⟩:=by rw[y_M,q_D]
theorem x_M {g:Nat}:∀(vs:List Value) (o:Nat) {w:World} (k:Nat),k≠g->(w.setCells g o vs).heap[k]?=w.heap[k]?
 | [],_,_,_,_=>rfl
 | v::r,o,w,k,hk=>by
  rw[World.setCells,x_M r (o+1) k hk];exact Below.heap_setCell w ⟨g,o,none⟩ v k hk
theorem w_8 (g:Nat):∀(vs:List Value) (o:Nat) (w:World),(w.setCells g o vs).os=w.os/\(w.setCells g o vs).tape=w.tape/\(w.setCells g o vs).output=w.output/\(w.setCells g o vs).heap.size=w.heap.size
 | [],_,_=>⟨rfl,rfl,rfl,rfl⟩
 | v::r,o,w=>by
  obtain ⟨h1,h2,h3,h4⟩:=w_8 g r (o+1) (w.setCell ⟨g,o,none⟩ v);rw[World.setCells];exact ⟨h1,h2,h3,by rw[h4];simp[World.setCell]⟩
theorem v_B {g:Nat} {e:TypeId}:∀(vs:List Value) (o:Nat) (w:World) (aQ:Array Value),w.heap[g]?=some (.cells aQ e (0,0))->o+vs.length<=aQ.size ->
  ∃iO,(w.setCells g o vs).heap[g]?=some (.cells iO e (0,0))/\iO.size=aQ.size/\iO.toList=aQ.toList.take o++vs++aQ.toList.drop (o+vs.length)
 | [],o,w,aQ,h,_=>⟨aQ,h,rfl,by simp⟩
 | v::r,o,w,aQ,h,hl=>by
  have h2:=blk_set0 h o v;simp only[List.length_cons] at hl;obtain ⟨iO,h3,h4,h5⟩:=v_B r (o+1) (w.setCell ⟨g,o,none⟩ v) _ h2 (by simp;omega);refine ⟨iO,h3,by rw[h4];simp,?_⟩;rw[h5,Array.toList_setIfInBounds]
  have ho:o<aQ.toList.length:=by rw[Array.length_toList];omega
  rw[List.take_set,List.drop_set_of_lt (by omega)];simp only[List.length_cons];rw[show o+1+r.length=o+(r.length+1) by omega];congr 1;rw[q_h ho,List.set_append_right _ _ (by rw[q_l];omega)]
  have Us:o<aQ.size:=by omega
  simp[Nat.min_eq_left (Nat.le_of_lt Us)]
section
variable {P:Program}
theorem run_append_zeros (w:World) (base:Nat) (t ti ty e:TypeId) (i:TypeInfo) (z:Value) (size bytes:Nat) (ht:P.underlying t=some (.slice e)) {k:IntKind} (xn:P.underlying ti=some (.int k)) (hi:P.info? e=some i) (hz:i.zero=some z)
  (ft:i.size=size) (Qh:i.bytes=bytes) (Io:z.cells.size=size) (aj:0<size) (iy:0<bytes)
  (v:Value) (n:Nat) (xs:List Value) (bD:w.ownsRow base e size v n xs) (kx:IntKind) (m:Nat) (h1:∀u∈(Builtin.zeroCells z.cells m).toList,u.oneCell'=true)
  (eV:(n+m)*bytes<=140737488355328) (aP:base<=w.heap.size) :
  ∃v' w',(Builtin.append_ #[t,ti] ty #[v,.int kx m]).run P w=.ok v' w'/\w'.ownsRow base e size v' (n+m) (xs++(Builtin.zeroCells z.cells m).toList)/\w.grownBy w' v.ownBlock /\
   (v'.ownBlock=v.ownBlock\/v'.ownBlock=some w.heap.size):=by
 subst ft
 subst Qh
 have cY:n+m<=140737488355328:=q_g (Nat.le_mul_of_pos_right _ iy) eV
 have Ut:n+m<=maxLen:=by simp only[maxLen];omega
 have hw:IntKind.i64.wrap (m:Int)=m:=by rw[q_r];omega
 have dX:IntKind.i64.wrap 0=0:=by rw[q_r];rfl
 have Cg:¬((m:Int)<0):=by omega
 have JU:m*i.bytes<=140737488355328:=q_g (Nat.mul_le_mul_right _ (Nat.le_add_left m n)) eV
 have iS:¬(281474976710656<(m:Int)*(i.bytes:Int)):=by
  rw[<-Int.natCast_mul];omega
 have fc:i.size≠0:=by omega
 obtain ⟨news,kX⟩:∃news,news=(Builtin.zeroCells z.cells m).toList:=⟨_,rfl⟩;rw[<-kX] at h1 ⊢
 have hl:news.length=m*i.size:=by rw[kX,Array.length_toList,size_zeroCells,Io]
 have Ip:Builtin.zeroCells z.cells m=news.toArray:=by rw[kX]
 have aq:(xs++news).length=(n+m)*i.size:=by rw[q_b,bD.1,hl,Nat.add_mul]
 have dY:m=0->news=[]:=fun h=>q_I (by rw[hl,h,Nat.zero_mul])
 have grown:∀(gW:Nat),gW<n+m->∀(row:Option Nat),
   (w.drew.alloc (.cells (xs.toArray++news.toArray++Builtin.zeroCells z.cells (grownCap w (n+m) gW e-(n+m))) e)).ownsRow base e i.size
    (.slice (some ⟨w.heap.size,0,none⟩) (n+m) (grownCap w (n+m) gW e)) (n+m) (xs++news) /\
   w.grownBy (w.drew.alloc (.cells (xs.toArray++news.toArray++Builtin.zeroCells z.cells (grownCap w (n+m) gW e-(n+m))) e)) row:=by
  intro gW ho row;have m9:=grownCap_ge w (n+m) gW e;have uM:grownCap w (n+m) gW e<=maxLen:=grownCap_le_maxLen w (n+m) gW e Ut;refine ⟨⟨aq,.inr ⟨w.heap.size,_,_,rfl,aP,heap_alloc_new w.drew _,m9,uM,?_,?_⟩⟩,⟨rfl,rfl,rfl,by simp,fun k hk _=>heap_alloc_old w.drew _ hk⟩⟩
  ·simp only[Array.size_append,q_y,size_zeroCells,Io,bD.1,hl,<-Nat.add_mul]
   congr 1;omega
  ·simp only[Array.toList_append,List.append_assoc]
   rw[<-List.append_assoc,<-aq];exact List.take_left
 have runs:∀(A:Option Addr) (av:Nat),av<n+m->(Builtin.firstCells i.size n (.slice A n av)).run P w.drew=.ok xs.toArray w.drew->(Builtin.append_ #[t,ti] ty #[.slice A n av,.int kx m]).run P w =
   .ok (.slice (some ⟨w.heap.size,0,none⟩) (n+m) (grownCap w (n+m) av e)) (w.drew.alloc (.cells (xs.toArray++news.toArray++Builtin.zeroCells z.cells (grownCap w (n+m) av e-(n+m))) e)):=by
  intro A av kU Qi
  have hn:¬(n+m<=av):=by omega
  have Ch:¬(9223372036854775807<((n:Int)+(m:Int))):=by omega
  have gX:=growslice_fits kU eV
  have xo:¬(281474976710656<Builtin.nextslicecap (n+m) av*i.bytes):=by omega
  by_cases hm:m=0
  ·have ky:=dY hm
   subst hm;rw[ky];simp only[Nat.add_zero] at hn Ch xo ⊢
   have h63'':¬(9223372036854775807<(n:Int)):=by omega
   simp[Builtin.append_,run_underlying ht,run_underlying xn,sizeOf,typeInfo,zeroValue,hi,hz,asInt,asIntOf,dX,hn,h63'',xo,Question.forced,Qi,newRow,grownCap]
  ·have Ci:¬(m*i.size=0):=Nat.mul_ne_zero hm fc
   simp[Builtin.append_,run_underlying ht,run_underlying xn,sizeOf,typeInfo,zeroValue,hi,hz,asInt,asIntOf,hw,Cg,iS,hn,Ch,xo,Question.forced,Qi,newRow,grownCap,Ci,Ip];congr 2;apply Array.ext';simp[List.append_assoc]
 rcases bD.2 with ⟨rfl,rfl⟩|⟨g,av,aQ,rfl,dW,hg,JV,uM,et,Cj⟩
 ·have hx:xs=[]:=q_I (by simpa using bD.1)
  subst hx;by_cases hm:m=0
  ·have ky:=dY hm
   subst hm;rw[ky];refine ⟨.slice none 0 0,w,?_,World.ownsRow_nil w base e i.size,⟨rfl,rfl,rfl,q_e _,fun _ _ _=>rfl⟩,Or.inl rfl⟩;simp[Builtin.append_,run_underlying ht,run_underlying xn,sizeOf,typeInfo,hi,asInt,asIntOf,dX]
  ·have Ck:=grown 0 (by omega) (Value.ownBlock (.slice none 0 0))
   exact ⟨_,_,runs none 0 (by omega) (by simp[Builtin.firstCells]),Ck.1,Ck.2,Or.inr rfl⟩
 ·by_cases pG:n+m<=av
  ·have gX:n*i.size+news.length<=aQ.size:=by rw[hl,et,<-Nat.add_mul];exact Nat.mul_le_mul_right _ pG
   obtain ⟨iO,h3,h4,h5⟩:=v_B news (n*i.size) w aQ hg gX;obtain ⟨s1,s2,s3,s4⟩:=w_8 g news (n*i.size) w;have aH:=run_storeCells_cells (P:=P) g (n*i.size) news 0 w (fun j hj=>by rw[cell_of_row w g _ aQ e (0,0) hg];simp;omega) (fun j _=>blk_frozen0 hg _) h1;simp only[Nat.add_zero] at aH;refine ⟨.slice (some ⟨g,0,none⟩) (n+m) av,w.setCells g (n*i.size) news,?_,⟨aq,.inr ⟨g,av,iO,rfl,dW,h3,pG,uM,by rw[h4,et],?_⟩⟩,⟨s1,s2,s3,by rw[s4];exact q_e _,fun k _ hk=>x_M news _ k (fun e=>hk (by simp[Value.ownBlock,e]))⟩,Or.inl rfl⟩
   ·by_cases hm:m=0
    ·have ky:=dY hm
     subst hm;rw[ky] at aH ⊢;simp[Builtin.append_,run_underlying ht,run_underlying xn,sizeOf,typeInfo,hi,asInt,asIntOf,dX,JV,add_plain0,aH]
    ·have Ci:¬(m*i.size=0):=Nat.mul_ne_zero hm fc
     simp[Builtin.append_,run_underlying ht,run_underlying xn,sizeOf,typeInfo,zeroValue,hi,hz,asInt,asIntOf,hw,Cg,iS,pG,Ci,Ip,add_plain0,aH]
   ·rw[h5]
    have h6:aQ.toList.take (n*i.size)=xs:=Cj;rw[h6,<-aq];exact List.take_left
  ·have Cm:∀j u,xs[j]?=some u->w.cell? ((⟨g,0,none⟩:Addr).add j)=some u:=bD.cells (g:=g) rfl
   have Ck:=grown av (by omega) (Value.ownBlock (.slice (some ⟨g,0,none⟩) n av));exact ⟨_,_,runs (some ⟨g,0,none⟩) av (by omega) (run_firstCells_some (P:=P) w.drew i.size n _ n av xs bD.1 (by simpa using Cm)),Ck.1,Ck.2,Or.inr rfl⟩
end
section
variable {P:Program} {ah:Array Oper} {rest:List Oper} {o:Oper} {a:Act} {Q:Exit->Act->World->Prop}
theorem zeros8 (m:Nat):(Builtin.zeroCells (Value.int .u8 0).cells m).toList=bv (List.replicate m 0):=by
 rw[show Builtin.zeroCells (Value.int .u8 0).cells m=madeCells #[.int .u8 0] m by unfold Builtin.zeroCells madeCells;simp[Value.cells],toList_madeCells_one];simp[bv]
theorem append_zeros8 {w0 W:World} (base:Nat) (rI:o.guard=none) (s x:Operand) (t ti:TypeId)
  (ho:o.op=.call { callee:=.builtin .append,args:=#[s,x],argTypes:=#[t,ti] })
  (ht:P.underlying t=some (.slice 5)) {k:IntKind} (xn:P.underlying ti=some (.int k)) (b5:(P.info? 5).map (fun i=>(i.zero,i.size,i.bytes))=some (some (.int .u8 0),1,1))
  (v:Value) (l:List UInt8) (kx:IntKind) (m:Nat) (hs:a.eval s=v) (hx:a.eval x=.int kx m)
  (HO:Own W base 5 v (bv l)) (HB:Below base w0 W) (aP:base<=W.heap.size) (hl:l.length+m<=140737488355328)
  (h:∀v1 w1,Own w1 base 5 v1 (bv (l++List.replicate m 0))->Below base w0 w1->W.grownBy w1 v.ownBlock->(v1.ownBlock=v.ownBlock\/v1.ownBlock=some W.heap.size)->wpList P ah Q rest (a.put o.dst v1) w1) :
  wpList P ah Q (o::rest) a W:=by
 obtain ⟨i0,hi,dB,dv,cX⟩:=info_parts b5
 obtain ⟨v1,w1,nf,h1,hg,br⟩:=run_append_zeros (P:=P) W base t ti o.type 5 i0 (.int .u8 0) 1 1 ht xn hi dB dv cX rfl (by decide) (by decide) v (bv l).length (bv l) HO kx m
  (fun u hu=>by rw[zeros8] at hu;simp[bv] at hu;obtain ⟨_,rfl⟩:=hu;rfl) (by rw[z_D];omega) aP
 refine wpList_plain rI fun K hK=>?_;unfold Oper.wp execOp;simp only[ho,resolve,invoke,builtin,Sem.run_bind,Sem.run_pure,Result.andThen_ok,List.map_toArray,List.map_cons,List.map_nil,hs,hx,nf];refine hK _ _ (h v1 w1 ?_ (HB.grown hg aP fun k hk=>(Own.lt HO k hk).1) hg br);rw[zeros8,<-w_h] at h1;unfold Own;rw[z_D] at h1 ⊢;rw[q_b,q_w];exact h1
theorem run_append_nilsrc (w:World) (base:Nat) (t ty e:TypeId) (i:TypeInfo) (size:Nat) (ht:P.underlying t=some (.slice e)) (hi:P.info? e=some i)
  (v:Value) (n:Nat) (xs:List Value) (bD:w.ownsRow base e size v n xs) (c:Nat):(Builtin.append_ #[t,t] ty #[v,.slice none 0 c]).run P w=.ok v w:=by
 rcases bD.2 with ⟨rfl,rfl⟩|⟨g,av,aQ,rfl,_,_,JV,_⟩
 ·simp[Builtin.append_,run_underlying ht,sizeOf,typeInfo,hi,Builtin.lenOf,Builtin.firstCells]
 ·simp[Builtin.append_,run_underlying ht,sizeOf,typeInfo,hi,Builtin.lenOf,Builtin.firstCells,JV,storeCells]
theorem y_t {w0 W:World} (base:Nat) (rI:o.guard=none) (s x:Operand) (t e:TypeId) (z:Value) (bytes:Nat)
  (ho:o.op=.call { callee:=.builtin .append,args:=#[s,x],argTypes:=#[t,t] })
  (ht:P.underlying t=some (.slice e)) (b5:(P.info? e).map (fun i=>(i.zero,i.size,i.bytes))=some (some z,1,bytes)) (hz:z.cells.size=1) (iy:0<bytes)
  (v:Value) (xs:List Value) (y:Value) (ys:List Value) (hs:a.eval s=v) (hx:a.eval x=y) (hy:z_g W y ys) (h1:∀u∈ys,u.oneCell'=true)
  (HO:Own W base e v xs) (HB:Below base w0 W) (aP:base<=W.heap.size) (hl:(xs.length+ys.length)*bytes<=140737488355328)
  (h:∀v1 w1,Own w1 base e v1 (xs++ys)->Below base w0 w1->W.grownBy w1 v.ownBlock->(v1.ownBlock=v.ownBlock\/v1.ownBlock=some W.heap.size)->wpList P ah Q rest (a.put o.dst v1) w1) :
  wpList P ah Q (o::rest) a W:=by
 obtain ⟨i0,hi,dB,dv,cX⟩:=info_parts b5;have aq:xs.length+ys.length<=140737488355328:=q_g (Nat.le_mul_of_pos_right _ iy) hl;obtain ⟨A,c,rfl,aK,bf,aa⟩:=hy;rcases A with _|ad
 ·have hn:ys.length=0:=by
   rcases Nat.eq_zero_or_pos ys.length with h0|h0
   ·exact h0
   ·obtain ⟨b,off,he,_⟩:=aa h0
    cases he
  obtain rfl:ys=[]:=q_I hn;have hr:=run_append_nilsrc (P:=P) W base t o.type e i0 1 ht hi v xs.length xs HO c;refine wpList_plain rI fun K hK=>?_;unfold Oper.wp execOp;simp only[ho,resolve,invoke,builtin,Sem.run_bind,Sem.run_pure,Result.andThen_ok,List.map_toArray,List.map_cons,List.map_nil,hs,hx,List.length_nil,hr];exact hK _ _ (h v W (by rw[List.append_nil];exact HO) HB (World.grownBy.refl W _) (.inl rfl))
 ·have kX:∀j u,ys[j]?=some u->W.cell? (ad.add j)=some u:=by
   intro j u hu;have hj:j<ys.length:=(q_J.1 hu).1;obtain ⟨b,off,he,hc⟩:=aa (by omega);injection he with he;subst he;rw[y_M,hc j hj,hu]
  refine wpList_append_own_at W rI s x t ho base e i0 z 1 bytes ht hi dB dv cX hz (by omega) v xs.length xs hs HO ad ys.length c ys hx (by simp) kX h1 (by simp only[maxLen];omega) hl aP ?_;intro v1 w1 bD hg _ br;refine h v1 w1 ?_ (HB.grown hg aP fun k hk=>(Own.lt HO k hk).1) hg br;unfold Own;rw[q_b];exact bD
end
theorem bv_one (l:List UInt8):∀u∈bv l,u.oneCell'=true:=by
 intro u hu;simp[bv] at hu;obtain ⟨_,_,rfl⟩:=hu;rfl
end
end Go.Proofs.YtdkheklakfbeeaaGreatDoor
