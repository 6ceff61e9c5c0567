/- Part 6 of the proof. -/
import Derived.Still
import Derived.Tactics
import Derived.KernelRfl
import Derived.Test.YtdkheklakfbeeaaGreatDoorM05
set_option linter.all false
set_option maxRecDepth 100000
set_option maxHeartbeats 16000000
namespace Go.Proofs.YtdkheklakfbeeaaGreatDoor
open Go.RowKit Tryz
def padF (r:List UInt8) (n:Nat):List UInt8:=(128::List.replicate ((119-r.length) % 64) 0)++beL [n*8 / 4294967296,n*8 % 4294967296]
def sumF (V:List Nat) (r:List UInt8) (n:Nat):List UInt8:=beL (eat V (r++padF r n) ((r++padF r n).length / 64))
theorem sizeHash:(prog.info? 273).map (·.size)=some 10:=by kernel_rfl
theorem hsum_any (w:World) (hL:Lay w) (p:Nat) (sM:10<=p) (V:List Nat) (hV:V.length=8) (CX:W32 V) (r:List UInt8) (n:Nat) (hn:n<=100000000) (hr:r.length<64)
  (HP:Blk w p 273 (uv V++[Value.string (bs r),Value.int .i64 n]).toArray) :
  Cl 127 #[.pointer (some ⟨p,0,none⟩)] w fun e w'=>e=.returned (.string (bs (sumF V r n)))/\Kp NoB w w':=by
 have lT:=z_l V;rw[hV] at lT
 have c8:w.cell? ⟨p,8,none⟩=some (.string (bs r)):=by rw[HP.cell,q_p,q_u (by omega),lT];rfl
 have c9:w.cell? ⟨p,9,none⟩=some (.int .i64 n):=by rw[HP.cell,q_p,q_u (by omega),lT];rfl
 have cM:=Zz HP;have bj:=Zz hL
 have aj:(uv V++[Value.string (bs r),Value.int .i64 n]).toArray.size=10:=by rw[q_y,q_b,lT];rfl
 have aD:(uv V++[Value.string (bs r),Value.int .i64 n]).toArray.all (·.oneCell')=true:=all_oneCell_toArray (by
  intro u hu;rcases List.mem_append.1 hu with h|h
  ·exact w_u V u h
  ·rcases List.mem_cons.1 h with rfl|h
   ·rfl
   ·rcases List.mem_cons.1 h with rfl|h
    ·rfl
    ·cases h)
 obtain ⟨k,hk⟩:∃k,(119-r.length) % 64=k:=⟨_,rfl⟩
 have aX:((wrap64 (119-((bs r).size:Int))).tmod 64)=(k:Int):=by
  rw[z_b,show wrap64 (119-(r.length:Int))=((119-r.length:Nat):Int) by unfold wrap64;omega,<-hk];rfl
 have Wa:k<64:=by omega
 have uR:=Zz hk;have aW:=Zz aX;clear HP hL hk aX;go_enter func127,ntmps127
 go_wp2_with (first
  | (refine wpList_load_row rfl 273 (.tmp 9) rfl p rfl 273 _ (0,0) _ cM.o underlying273 rfl (by rw[aj];exact sizeHash) ?_)
  | (refine wpList_store_row rfl 273 (.tmp 3) (.tmp 10) rfl w.heap.size _ rfl rfl 273 _ (Blk.new w _ _) (by rw[aj];exact sizeHash) (by rw[aj];rfl) aD ?_;go_must (
    have q:=Zz ((Blk.new w 273 #[Value.int IntKind.u32 0,Value.int IntKind.u32 0,Value.int IntKind.u32 0,Value.int IntKind.u32 0,Value.int IntKind.u32 0,Value.int IntKind.u32 0,Value.int IntKind.u32 0,Value.int IntKind.u32 0,Value.string { data:=#[] },Value.int IntKind.i64 0]).setRow (cs':=(uv V++[Value.string (bs r),Value.int .i64 n]).toArray));have kp:=Zz (((Kp.refl NoB w).alloc (.cells #[Value.int IntKind.u32 0,Value.int IntKind.u32 0,Value.int IntKind.u32 0,Value.int IntKind.u32 0,Value.int IntKind.u32 0,Value.int IntKind.u32 0,Value.int IntKind.u32 0,Value.int IntKind.u32 0,Value.string { data:=#[] },Value.int IntKind.i64 0] 273)).setRow w.heap.size (uv V++[Value.string (bs r),Value.int .i64 n]).toArray (.inr (q_e _)));have bQ:=cM.o.lt;obtain ⟨E,hE⟩:∃E,w.heap.size=E:=⟨_,rfl⟩;obtain ⟨w2,fi⟩:∃w2,(w.alloc (.cells #[Value.int IntKind.u32 0,Value.int IntKind.u32 0,Value.int IntKind.u32 0,Value.int IntKind.u32 0,Value.int IntKind.u32 0,Value.int IntKind.u32 0,Value.int IntKind.u32 0,Value.int IntKind.u32 0,Value.string { data:=#[] },Value.int IntKind.i64 0] 273)).setRow w.heap.size (uv V++[Value.string (bs r),Value.int .i64 n]).toArray=w2:=⟨_,rfl⟩;rw[fi] at q kp ⊢;clear fi;rw[hE] at q bQ ⊢;have HE:=Zz hE;clear hE;have d8:w2.cell? ⟨p,8,none⟩=some (.string (bs r)):=((World.cell?_of_block (kp.o.block p cM.o.lt fun h=>h)).trans c8);have d9:w2.cell? ⟨p,9,none⟩=some (.int .i64 n):=((World.cell?_of_block (kp.o.block p cM.o.lt fun h=>h)).trans c9)
    clear c8 c9))
  | fail)
 rw[aW.o];refine (Tryz.strings_Repeat ⟨#[0]⟩ k w2 (by omega) (by show 1*k<=_;omega)).mono ?_;rintro e w3 ⟨rfl,bW⟩
 have De:Lib.repeatL [(0:UInt8)] k=List.replicate k 0:=by have:=Lib.repeatL_replicate 0 1 k;simpa using this
 rw[show ((⟨#[0]⟩:ByteArray).data.toList)=[(0:UInt8)] from rfl,De,show (⟨(List.replicate k (0:UInt8)).toArray⟩:ByteArray)=bs (List.replicate k 0) from rfl]
 have dv:¬(9223372036854775807<1+(bs (List.replicate k 0)).size):=by rw[z_b,q_w];omega
 go_wp2_with fail
 have bH:z_g (w3.alloc (.cells #[Value.int .u32 ((n:Int)*8 / 4294967296),Value.int .u32 ((n:Int)*8)] 213)) (.slice (some ⟨w3.heap.size,0,none⟩) 2 2) (uv [n*8 / 4294967296,n*8 % 4294967296]):=by
  have h1:(n:Int)*8 / 4294967296=((n*8 / 4294967296:Nat):Int):=by omega
  have h2:(n:Int)*8=((n*8 % 4294967296:Nat):Int):=by omega
  rw[h1]
  have h3:(Value.int .u32 ((n:Int)*8))=.int .u32 (n*8 % 4294967296:Nat):=by rw[<-h2]
  rw[h3];exact (Own.lit_ w3 w3.heap.size 213 #[.int .u32 (n*8 / 4294967296:Nat),.int .u32 (n*8 % 4294967296:Nat)] (q_e _) (by show 2<=maxLen;decide)).reads
 refine (w_S _ _ _ bH (by simp)).mono ?_;rintro e w4 ⟨rfl,fH⟩;have bR:Hid (Kp NoB w3 w4):=Zz (((Kp.refl NoB w3).alloc _).trans (Kp.of_below fH _));clear bH fH;have oX:Hid (({ data:=#[128] }:ByteArray)++bs (List.replicate k 0)=bs (128::List.replicate k 0)):=Zz (y_f [128] (List.replicate k 0));rw[oX.o]
 have cX:¬(9223372036854775807<(bs (128::List.replicate k 0)).size+(bs (beL [n*8 / 4294967296,n*8 % 4294967296])).size):=by rw[z_b,z_b,x_v];simp;omega
 go_wp2_with fail;rw[y_f,show (128::List.replicate k 0)++beL [n*8 / 4294967296,n*8 % 4294967296]=padF r n by rw[<-uR.o];rfl]
 have bQ:(padF r n).length<=100:=by unfold padF;rw[q_b,x_v];simp;omega
 have aJ:Hid (Kp NoB w2 w3):=Zz (Kp.of_below bW _);have dQ:=Zz ((q.o.kp aJ.o fun h=>h).kp bR.o fun h=>h);have az:=Zz ((kp.o.trans aJ.o).trans bR.o);have lU:=cM.o.lt;have hEw:=HE.o;refine (write_to w4 (bj.o.no az.o) E (by omega) V hV CX r (padF r n) n (by omega) (by omega) dQ.o (r++padF r n) (Zz rfl) _ (Zz rfl) _ (Zz rfl)).mono ?_;rintro e w5 ⟨rfl,ey,aG⟩;have lr:=Zz (v_n hV (r++padF r n) ((r++padF r n).length / 64));have aY:=Zz ey;have ax:=Zz (az.o.then aG (T:=(·=E)) fun q hq h=>by have h:q=E:=h;omega);have HS:Hid (sumF V r n=beL (eat V (r++padF r n) ((r++padF r n).length / 64))):=Zz rfl;clear ey aG aJ bW De dv cX bQ;generalize eat V (r++padF r n) ((r++padF r n).length / 64)=V2 at *;go_wp2_with fail
 have bH:z_g w5 (.slice (some ⟨E,0,none⟩) 8 8) (uv V2):=by
  refine ⟨_,8,by rw[z_l,lr.o],by rw[z_l,lr.o];omega,by omega,fun _=>⟨E,0,rfl,fun j hj=>?_⟩⟩;rw[q_D,aY.o.cell,q_p,q_F hj]
 refine (w_S _ _ _ bH (by rw[lr.o];omega)).mono ?_;rintro e w6 ⟨rfl,eB⟩;have aB:=Zz (ax.o.trans (Kp.of_below eB _));clear bH eB;rw[<-HS.o];go_wp2;go_ret;exact ⟨rfl,aB.o⟩
theorem firstL_w32:W32 v_x:=by
 intro i;by_cases h:i<8
 ·have:∀j,j<8->v_x.getD j 0<4294967296:=by decide +kernel
  exact this i h
 ·rw[q_a,q_q (by show 8<=i;omega)];decide
theorem hnew_any (w:World) (hL:Lay w) (hw:10<=w.heap.size) :
  Cl 125 #[] w fun e w'=>∃p,e=.returned (.pointer (some ⟨p,0,none⟩))/\10<=p/\w.heap.size<=p/\Blk w' p 273 (uv v_x++[Value.string (bs []),Value.int .i64 (0:Nat)]).toArray/\Kp NoB w w':=by
 obtain ⟨tg,fg,hf⟩:=hL.first;clear hL;go_enter func125,ntmps125
 go_wp2_with (refine wpList_load_row rfl 271 (.global 1) rfl 1 rfl tg _ fg _ hf underlying271 rfl w_C ?_)
 go_ret;exact ⟨w.heap.size,rfl,hw,q_e _,Blk.new w 273 (uv v_x++[Value.string (bs []),Value.int .i64 (0:Nat)]).toArray,(Kp.refl NoB w).alloc _⟩
def shaF (l:List UInt8):List UInt8:=sumF (eat v_x l (l.length / 64)) (l.drop (64*(l.length / 64))) l.length
theorem sumF_length (V:List Nat) (r:List UInt8) (n:Nat) (hV:V.length=8):(sumF V r n).length=32:=by unfold sumF;rw[x_v,v_n hV]
theorem w_W (l:List UInt8):(shaF l).length=32:=sumF_length _ _ _ (v_n rfl _ _)
def leafF (l:List UInt8):List UInt8:=shaF (0::l)
def nodeF (l:List UInt8):List UInt8:=shaF (1::l)
def z_Z (l:List UInt8):List UInt8:=shaF (2::l)
theorem sha_any (w:World) (hL:Lay w) (hw:10<=w.heap.size) (l:List UInt8) (hl:l.length<=100000000) :
  Cl 79 #[.string (bs l)] w fun e w'=>e=.returned (.string (bs (shaF l)))/\Kp NoB w w':=by
 have bj:=Zz hL;clear hL;have HR:Hid (shaF l=sumF (eat v_x l (l.length / 64)) (l.drop (64*(l.length / 64))) l.length):=Zz rfl;generalize shaF l=R at *;go_enter func79,ntmps79;go_wp2_with fail;refine (hnew_any w bj.o hw).mono ?_;rintro e w1 ⟨p,rfl,hp,hwp,hb,hk⟩;have HB:=Zz hb;have HK:=Zz hk;clear hb hk;go_wp2_with fail;refine (write_to w1 (bj.o.no HK.o) p hp v_x rfl firstL_w32 [] l 0 (by omega) (by simp;omega) HB.o l (Zz rfl) _ (Zz rfl) l.length (Zz (q_D _))).mono ?_;rintro e w2 ⟨rfl,am,ag⟩;have ak:=Zz am;have al:=Zz (HK.o.then ag (T:=(·=p)) fun q hq h=>by have h:q=p:=h;omega);clear am ag;go_wp2_with fail;refine (hsum_any w2 (bj.o.no al.o) p hp _ (v_n rfl _ _) (eat_lt firstL_w32 _ _) _ l.length hl (by rw[List.length_drop];omega) ak.o).mono ?_;rintro e w3 ⟨rfl,au⟩;have ar:=Zz (al.o.trans au);clear au;rw[<-HR.o];go_wp2;go_ret;exact ⟨rfl,ar.o⟩
theorem leaf_any (w:World) (hL:Lay w) (hw:10<=w.heap.size) (l:List UInt8) (hl:l.length<=90000000) :
  Cl 143 #[.string (bs l)] w fun e w'=>e=.returned (.string (bs (leafF l)))/\Kp NoB w w':=by
 have hs:=sha_any w hL hw (0::l) (by simp;omega);rw[show bs (0::l)=(⟨#[0]⟩:ByteArray)++bs l from (y_f [0] l).symm] at hs;have HS:=Zz hs
 have h0:¬(9223372036854775807<1+(bs l).size):=by rw[z_b];omega
 unfold leafF;generalize shaF (0::l)=R at *;generalize bs l=s at *;clear hs hL;go_enter func143,ntmps143;go_wp2_with fail;refine HS.o.mono ?_;rintro e w1 ⟨rfl,hk⟩;go_wp2;go_ret;exact ⟨rfl,hk⟩
theorem node_any (w:World) (hL:Lay w) (hw:10<=w.heap.size) (l:List UInt8) (hl:l.length<=90000000) :
  Cl 192 #[.string (bs l)] w fun e w'=>e=.returned (.string (bs (nodeF l)))/\Kp NoB w w':=by
 have hs:=sha_any w hL hw (1::l) (by simp;omega);rw[show bs (1::l)=(⟨#[1]⟩:ByteArray)++bs l from (y_f [1] l).symm] at hs;have HS:=Zz hs
 have h0:¬(9223372036854775807<1+(bs l).size):=by rw[z_b];omega
 unfold nodeF;generalize shaF (1::l)=R at *;generalize bs l=s at *;clear hs hL;go_enter func192,ntmps192;go_wp2_with fail;refine HS.o.mono ?_;rintro e w1 ⟨rfl,hk⟩;go_wp2;go_ret;exact ⟨rfl,hk⟩
theorem top_any (w:World) (hL:Lay w) (hw:10<=w.heap.size) (l:List UInt8) (hl:l.length<=90000000) :
  Cl 176 #[.string (bs l)] w fun e w'=>e=.returned (.string (bs (z_Z l)))/\Kp NoB w w':=by
 have hs:=sha_any w hL hw (2::l) (by simp;omega);rw[show bs (2::l)=(⟨#[2]⟩:ByteArray)++bs l from (y_f [2] l).symm] at hs;have HS:=Zz hs
 have h0:¬(9223372036854775807<1+(bs l).size):=by rw[z_b];omega
 unfold z_Z;generalize shaF (2::l)=R at *;generalize bs l=s at *;clear hs hL;go_enter func176,ntmps176;go_wp2_with fail;refine HS.o.mono ?_;rintro e w1 ⟨rfl,hk⟩;go_wp2;go_ret;exact ⟨rfl,hk⟩
section
variable {P:Program} {ah:Array Oper} {md:Region.Mode}
def QF:Exit->Act->World->Prop:=fun _ _ _=>False
def x_m (P:Program) (ah:Array Oper) (i:Nat) (K:Act->World->Prop) (a:Act) (w:World):Prop :=
 match ah[i]? with
 | none=>K a w
 | some o=>if Region.wanted o (yielded ah a.tmps) then o.wp P a w K QF else K (a.put o.dst undef) w
theorem QF.lets (Q:Exit->Act->World->Prop) (h:LetsOut QF):LetsOut Q:=by obtain ⟨_,_,h⟩:=h;exact h.elim
theorem wp_QF {o:Oper} {a:Act} {w:World} {K:Act->World->Prop} (Q:Exit->Act->World->Prop) (h:o.wp P a w K QF):o.wp P a w K Q:=by
 unfold Oper.wp at *;generalize (execOp a.eval o).run P w=r at *
 cases r with
 | ok n w' =>
  cases n<;>simp only[Oper.upon] at h ⊢ <;>
   first
    | exact h
    | exact Calls.mono h (fun e w'' he=>by cases e<;>first | exact he | exact he.elim | exact QF.lets _ he)
 | halt x w'=>cases x<;>simp only[Oper.upon] at h ⊢<;>first | exact h | exact h.elim
theorem sureOp_wpOp {i:Nat} {K:Act->World->Prop} {a:Act} {w:World} {Q:Exit->Act->World->Prop} (h:x_m P ah i K a w):wpOp P ah Q i K a w:=by
 unfold x_m at h;unfold wpOp;split
 ·rename_i ho;simp only[ho] at h;exact h
 ·rename_i o ho
  simp only[ho] at h;split
  ·rename_i hw;simp only[hw,if_true] at h;exact .inl (wp_QF Q h)
  ·rename_i hw;simp only[hw] at h;exact h
theorem w_U {i:Nat} {K K':Act->World->Prop} {a:Act} {w:World} (h:∀a w,K a w->K' a w) (hh:x_m P ah i K a w):x_m P ah i K' a w:=by
 unfold x_m at *;split
 ·exact h _ _ (by simpa[*] using hh)
 ·rename_i o ho
  simp only[ho] at hh;split
  ·rename_i hw;simp only[hw,if_true] at hh;exact Oper.wp_mono h hh
  ·rename_i hw;simp only[hw] at hh;exact h _ _ hh
inductive Waits (md:Region.Mode) (ah:Array Oper):Nat->Nat->Prop
 | one {j:Nat} {oj:Oper} {e:Edge}:ah[j]?=some oj->e∈oj.after->Region.binds md e=true->Waits md ah j e.on
 | more {j i:Nat} {oj:Oper} {e:Edge}:ah[j]?=some oj->e∈oj.after->Region.binds md e=true->Waits md ah e.on i->Waits md ah j i
def waitsB (md:Region.Mode) (ah:Array Oper):Nat->Nat->Nat->Bool
 | 0,_,_=>false
 | f+1,j,i=>match ah[j]? with
  | some oj=>oj.after.any fun e=>Region.binds md e && (e.on==i || waitsB md ah f e.on i)
  | none=>false
theorem waits_of:∀(f j i:Nat),waitsB md ah f j i=true->Waits md ah j i
 | 0,_,_,h=>by cases h
 | f+1,j,i,h=>by
  unfold waitsB at h;split at h
  ·rename_i oj hj
   obtain ⟨e,he,hb⟩:=Array.any_eq_true'.1 h;simp only[Bool.and_eq_true,Bool.or_eq_true,beq_iff_eq] at hb;obtain ⟨h1,h2⟩:=hb;rcases h2 with h2|h2
   ·subst h2;exact .one hj he h1
   ·exact .more hj he h1 (waits_of f e.on i h2)
  ·cases h
def Closed (md:Region.Mode) (ah:Array Oper) (listed:Array Bool):Prop :=
 ∀j oj,ah[j]?=some oj->listed.getD j false=true->∀e∈oj.after,Region.binds md e=true->listed.getD e.on false=true
theorem w_1 {listed:Array Bool} {i:Nat} (h:listed.getD i true=false):listed.getD i false=false:=by
 rcases Nat.lt_or_ge i listed.size with h'|h'
 ·simp[h'] at h ⊢;exact h
 ·simp[Array.getElem?_eq_none h'] at h
theorem Closed.set {listed:Array Bool} (h:Closed md ah listed) {i:Nat} (hi:i∈Region.ready md ah listed):Closed md ah (listed.setIfInBounds i true):=by
 obtain ⟨_,oi,Wb,aD⟩:=mem_ready.1 hi;intro j oj hj hl e he hb;by_cases QL:i=j
 ·subst QL
  have:oj=oi:=Option.some.inj (hj.symm.trans Wb);subst this;exact getD_set_true (aD e he hb)
 ·rw[getD_set_ne false QL] at hl
  exact getD_set_true (h j oj hj hl e he hb)
theorem Closed.waits {listed:Array Bool} (h:Closed md ah listed) {j i:Nat} (hw:Waits md ah j i) (hj:listed.getD j false=true):listed.getD i false=true:=by
 induction hw with
 | one ho he hb=>exact h _ _ ho hj _ he hb
 | more ho he hb _ ih=>exact ih (h _ _ ho hj _ he hb)
theorem ready_waits {listed:Array Bool} (h:Closed md ah listed) {j i:Nat} (hw:Waits md ah j i) (hj:j∈Region.ready md ah listed):listed.getD i false=true:=by
 obtain ⟨_,oj',Bd,aD⟩:=mem_ready.1 hj
 cases hw with
 | one ho he hb =>
  have:=Option.some.inj (Bd.symm.trans ho);subst this
  exact aD _ he hb
 | more ho he hb hm =>
  have:=Option.some.inj (Bd.symm.trans ho);subst this;exact h.waits hm (aD _ he hb)
def y_3 (P:Program) (ah:Array Oper) (S:World->Prop) (o:Oper) (v:Value) (a:Act):Prop :=
 (Region.wanted o (yielded ah a.tmps)=true/\∀w,S w->((execOp a.eval o).run P w=.ok (.value v) w\/((execOp a.eval o).run P w=.ok .skip w/\v=undef) \/
  ∃f args,(execOp a.eval o).run P w=.ok (.enter f args) w/\Calls P f args w (fun e w''=>e=.returned v/\w''=w))) \/
 (Region.wanted o (yielded ah a.tmps)=false/\v=undef)
theorem y_3.of_same {S:World->Prop} {o:Oper} {v:Value} {a a':Act} (hy:y_3 P ah S o v a) (he:execOp a'.eval o=execOp a.eval o)
  (hw:Region.wanted o (yielded ah a'.tmps)=Region.wanted o (yielded ah a.tmps)):y_3 P ah S o v a':=by
 unfold y_3 at *;rw[he,hw];exact hy
theorem y_3.sure {S:World->Prop} {i:Nat} {o:Oper} {v:Value} {a:Act} {w:World} (hi:ah[i]?=some o) (hy:y_3 P ah S o v a) (hS:S w) {K:Act->World->Prop} (h:K (a.put o.dst v) w):x_m P ah i K a w:=by
 unfold x_m;simp only[hi];rcases hy with ⟨hw,hv⟩|⟨hw,rfl⟩
 ·simp only[hw,if_true]
  rcases hv w hS with h5|⟨h5,h6⟩|⟨f,args,h5,hc⟩
  ·unfold Oper.wp;rw[h5];exact h
  ·unfold Oper.wp;rw[h5];subst h6;exact h
  ·unfold Oper.wp;rw[h5]
   exact hc.mono fun e w'' ⟨he,hw⟩=>by subst he;subst hw;exact h
 ·simp only[hw,Bool.false_eq_true,if_false];exact h
theorem sureOp_put {S:World->Prop} {j:Nat} {oi oj:Oper} {v:Value} (hj:ah[j]?=some oj) (sQ:oi.apart ah oj=true)
  (nk:∀cs b,oi.op≠.select cs b) (Iw:∀cs b,oj.op≠.select cs b) {K:Act->World->Prop} {a:Act} {w:World}
  (hy:y_3 P ah S oi v a) (h:x_m P ah j K (a.put oi.dst v) w) :
  x_m P ah j (fun a' w'=>y_3 P ah S oi v a'/\K (a'.put oi.dst v) w') a w:=by
 obtain ⟨h1,h2,h3⟩:=Oper.apart_spec sQ
 have keep:∀(a:Act),y_3 P ah S oi v a->∀u,y_3 P ah S oi v (a.put oj.dst u):=fun a hy u =>
  hy.of_same (execOp_put oi nk a oj.dst u h3) (wanted_put oi a oj.dst u h3)
 have keepD:∀d,y_3 P ah S oi v { a with defers:=d::a.defers }:=fun d=>hy.of_same rfl rfl
 unfold x_m at *;simp only[hj] at *;rw[wanted_put oj a oi.dst v h1] at h;split
 ·rename_i hw
  simp only[hw,if_true] at h;unfold Oper.wp at *;rw[execOp_put oj Iw a oi.dst v h1] at h;generalize (execOp a.eval oj).run P w=r at *
  cases r with
  | ok n w' =>
   cases n<;>simp only[Oper.upon] at h ⊢
   case value u=>exact ⟨keep a hy u,by rw[<-Act.put_comm a v u h2];exact h⟩
   case skip=>exact ⟨keep a hy _,by rw[<-Act.put_comm a v undef h2];exact h⟩
   case defer d =>
    refine ⟨keep _ (keepD d) _,?_⟩;rw[<-Act.put_comm _ v undef h2,<-Act.put_defers];exact h
   case enter f args =>
    refine Calls.mono h fun e w'' he=>?_
    cases e with
    | returned u=>exact ⟨keep a hy u,by rw[<-Act.put_comm a v u h2];exact he⟩
    | panicked c=>exact he
    | outgrown=>exact he
   case row rw args=>exact Rows.mono h fun u w'' he=>⟨keep a hy u,by rw[<-Act.put_comm a v u h2];exact he⟩
  | halt x w'=>cases x<;>simp only[Oper.upon] at h ⊢<;>exact h
 ·rename_i hw
  simp only[hw] at h;exact ⟨keep a hy _,by rw[<-Act.put_comm a v undef h2];exact h⟩
def v_z (P:Program) (md:Region.Mode) (ah:Array Oper) (R:Act->World->Prop) (Ob:Nat->World->World->Prop):Nat->Array Bool->Act->World->Prop
 | 0,listed,a,w=>Region.ready md ah listed=[]/\R a w
 | fuel+1,listed,a,w =>
  (Region.ready md ah listed=[]->R a w) /\
  ∀i∈Region.ready md ah listed,x_m P ah i (fun a' w'=>Ob i w w'/\v_z P md ah R Ob fuel (listed.setIfInBounds i true) a' w') a w
theorem wpAny_of_O {R:Act->World->Prop} {Ob:Nat->World->World->Prop} {Q:Exit->Act->World->Prop} (hR:∀a w,R a w->Q .normal a w):∀(fuel:Nat) (listed:Array Bool) (a:Act) (w:World),v_z P md ah R Ob fuel listed a w->wpAny P md ah Q fuel listed a w
 | 0,_,_,_,h=>⟨h.1,hR _ _ h.2⟩
 | fuel+1,_,_,_,h=>⟨fun h0=>hR _ _ (h.1 h0),fun i hi=>sureOp_wpOp (w_U (fun a w h'=>wpAny_of_O hR fuel _ a w h'.2) (h.2 i hi))⟩
theorem w_V {R:Act->World->Prop} {Ob Ob':Nat->World->World->Prop} (h:∀i w w',Ob' i w w'->Ob i w w'):∀(fuel:Nat) (listed:Array Bool) (a:Act) (w:World),v_z P md ah R Ob' fuel listed a w->v_z P md ah R Ob fuel listed a w
 | 0,_,_,_,hh=>hh
 | fuel+1,_,_,_,hh=>⟨hh.1,fun i hi=>w_U (fun a w h'=>⟨h _ _ _ h'.1,w_V h fuel _ a w h'.2⟩) (hh.2 i hi)⟩
theorem wpAnyO_front {R:Act->World->Prop} {Ob:Nat->World->World->Prop} {S:World->Prop} {i:Nat} {oi:Oper} {v:Value} (hi:ah[i]?=some oi) (Df:∀(j:Nat) (o:Oper) cs b,ah[j]?=some o->o.op≠.select cs b)
  (uS:∀j w,Ob j w w) :
  ∀(fuel:Nat) (listed:Array Bool) (a:Act) (w:World),Closed md ah listed ->
   (∀j oj,ah[j]?=some oj->j≠i->listed.getD j true=false->(∀e∈oj.after,Region.binds md e=true->e.on≠i)->oi.apart ah oj=true) ->
   i∈Region.ready md ah listed->y_3 P ah S oi v a->S w ->
   v_z P md ah R (fun j w w'=>Ob j w w'/\(¬Waits md ah j i->S w->S w')) fuel (listed.setIfInBounds i true) (a.put oi.dst v) w->v_z P md ah R Ob (fuel+1) listed a w:=by
 intro fuel
 induction fuel with
 | zero =>
  intro listed a w co _ hr hy hS H;refine ⟨fun h=>(by rw[h] at hr;cases hr),fun j hj=>?_⟩;by_cases mw:j=i
  ·subst mw;exact hy.sure hi hS ⟨uS _ _,H⟩
  ·have:=ready_mono hj mw
   rw[H.1] at this
   cases this
 | succ fuel ih =>
  intro listed a w co uT hr hy hS H;refine ⟨fun h=>(by rw[h] at hr;cases hr),fun j hj=>?_⟩;by_cases mw:j=i
  ·subst mw;exact hy.sure hi hS ⟨uS _ _,w_V (fun _ _ _ h=>h.1) _ _ _ _ H⟩
  ·have h1:=H.2 j (ready_mono hj mw)
   have Dg:=(mem_ready.1 hr).1;obtain ⟨Dh,oj,Bd,aD⟩:=mem_ready.1 hj
   have Lc:∀e∈oj.after,Region.binds md e=true->e.on≠i:=fun e he hb uU=>by
    have h2:=aD e he hb;rw[uU,w_1 Dg] at h2;cases h2
   have rP:¬Waits md ah j i:=fun hw=>by
    have h2:=ready_waits co hw hj;rw[w_1 Dg] at h2;cases h2
   have h2:=sureOp_put Bd (uT j oj Bd mw Dh Lc) (fun cs b=>Df i oi cs b hi) (fun cs b=>Df j oj cs b Bd) hy h1
   have xI:∀k ok,ah[k]?=some ok->k≠i->(listed.setIfInBounds j true).getD k true=false ->
     (∀e∈ok.after,Region.binds md e=true->e.on≠i)->oi.apart ah ok=true:=fun k ok hk Wc Dg ls=>by
    refine uT k ok hk Wc ?_ ls;by_cases QM:j=k
    ·subst QM;exact Dh
    ·rw[getD_set_ne true QM] at Dg;exact Dg
   refine w_U (fun a' w' h3=>⟨h3.2.1.1,ih (listed.setIfInBounds j true) a' w' (co.set hj) xI (ready_mono hr (Ne.symm mw)) h3.1 (h3.2.1.2 rP hS) ?_⟩) h2;rw[Array.setIfInBounds_comm _ _ mw];exact h3.2.2
abbrev Held:=List (Nat × (World->Prop))
def ObH (md:Region.Mode) (ah:Array Oper) (H:Held) (j:Nat) (w w':World):Prop:=∀x∈H,¬Waits md ah j x.1->x.2 w->x.2 w'
theorem ObH.nil {j:Nat} {w w':World}:ObH md ah [] j w w':=fun _ h=>by cases h
theorem ObH.waits {H:Held} {j i:Nat} {S:World->Prop} {w w':World} (hw:waitsB md ah 60 j i=true) (h:ObH md ah H j w w'):ObH md ah ((i,S)::H) j w w':=fun x hx hn hs=>by
 rcases List.mem_cons.1 hx with rfl|hx
 ·exact absurd (waits_of 60 _ _ hw) hn
 ·exact h x hx hn hs
theorem ObH.keeps {H:Held} {j i:Nat} {S:World->Prop} {w w':World} (hw:S w') (h:ObH md ah H j w w'):ObH md ah ((i,S)::H) j w w':=fun x hx hn hs=>by
 rcases List.mem_cons.1 hx with rfl|hx
 ·exact hw
 ·exact h x hx hn hs
theorem ObH.same {H:Held} {j:Nat} {w:World}:ObH md ah H j w w:=fun _ _ _ hs=>hs
def Fr (P:Program) (ah:Array Oper) (R:Act->World->Prop) (H:Held) (fuel:Nat) (listed:Array Bool) (a:Act) (w:World):Prop :=
 Closed .any ah listed->v_z P .any ah R (ObH .any ah H) fuel listed a w
theorem v_C {id:Nat} {Q:Exit->Act->World->Prop} {a:Act} {w:World} {l:List Oper} (hm:P.follows .mixedOrders=true)
  (h:Fr P l.toArray (Q .normal) [] l.length (Array.replicate l.length false) a { w with drawn:=w.drawn+1 }):(Code.region id l.toArray true).wp P Q a w:=by
 refine wp_region_any hm (wpAny_of_O (fun _ _ h=>h) _ _ _ _ (h fun j oj _ hl=>?_));rcases Nat.lt_or_ge j l.length with h|h
 ·simp[h] at hl
 ·simp[Nat.not_lt.2 h] at hl
variable {R:Act->World->Prop} {H:Held} {fuel:Nat} {listed:Array Bool} {a:Act} {w:World}
theorem fr_end (hr:Region.ready .any ah listed=[]) (h:R a w):Fr P ah R H fuel listed a w:=fun _=>by
 cases fuel with
 | zero=>exact ⟨hr,h⟩
 | succ fuel=>exact ⟨fun _=>h,fun i hi=>by rw[hr] at hi;cases hi⟩
theorem put_inj {a:Act} {d:Nat} {u v:Value} (hd:d<a.tmps.size) (h:a.put (some d) u=a.put (some d) v):u=v:=by
 have h1:=congrArg (fun x:Act=>x.tmps[d]?) h;simpa[Act.put,hd] using h1
theorem v_M {S:World->Prop} {o:Oper} {d:Nat} (hd:o.dst=some d) (aj:d<a.tmps.size) (hS:S w) {G:Act->Prop}
  (h:if Region.wanted o (yielded ah a.tmps) then o.still P a w (fun a'=>(∀W,S W->if Region.wanted o (yielded ah a.tmps) then o.still P a W (fun a''=>a''=a') else a.put o.dst undef=a')/\G a')
   else ((∀W,S W->if Region.wanted o (yielded ah a.tmps) then o.still P a W (fun a''=>a''=a.put o.dst undef) else a.put o.dst undef=a.put o.dst undef)/\G (a.put o.dst undef))) :
  ∃v,y_3 P ah S o v a/\G (a.put o.dst v):=by
 by_cases hw:Region.wanted o (yielded ah a.tmps)=true
 ·simp only[hw,if_true] at h
  have key:∃v,(∀W,S W->o.still P a W (fun a''=>a''=a.put o.dst v))/\G (a.put o.dst v):=by
   change o.stillUpon P a w _ ((execOp a.eval o).run P w) at h;generalize (execOp a.eval o).run P w=r at h
   cases r with
   | ok n w' =>
    cases n<;>simp only[Oper.stillUpon] at h
    case value u=>exact ⟨u,h.2⟩
    case skip=>exact ⟨undef,h.2⟩
    case enter f args=>obtain ⟨_,v,_,h2⟩:=h;exact ⟨v,h2⟩
   | halt x w'=>simp only[Oper.stillUpon] at h
  obtain ⟨v,h1,h2⟩:=key;refine ⟨v,.inl ⟨hw,fun W hW=>?_⟩,h2⟩;have h3:=h1 W hW;unfold Oper.still at h3;generalize hr:(execOp a.eval o).run P W=r at h3
  cases r with
  | ok n w' =>
   cases n<;>simp only[Oper.stillUpon] at h3
   case value u =>
    obtain ⟨rfl,h4⟩:=h3;rw[hd] at h4;exact .inl (by rw[put_inj aj h4])
   case skip =>
    obtain ⟨rfl,h4⟩:=h3;rw[hd] at h4;exact .inr (.inl ⟨rfl,(put_inj aj h4).symm⟩)
   case enter f args =>
    obtain ⟨rfl,u,hc,h4⟩:=h3;rw[hd] at h4;rw[put_inj aj h4] at hc
    exact .inr (.inr ⟨f,args,rfl,hc⟩)
  | halt x w'=>simp only[Oper.stillUpon] at h3
 ·simp only[hw] at h
  exact ⟨undef,.inr ⟨by simpa using hw,rfl⟩,h.2⟩
theorem w_k (i:Nat) (S:World->Prop) {o:Oper} (ho:ah[i]?=some o) {d:Nat} (hd:o.dst=some d) (aj:decide (d<a.tmps.size)=true) (hB:(Region.noSelect ah && (Region.ready .any ah listed).contains i && Region.free .any ah listed i)=true) (hS:S w)
  (h:∀K:Act->Prop,(∀a',(∀W,S W->if Region.wanted o (yielded ah a.tmps) then o.still P a W (fun a''=>a''=a') else a.put o.dst undef=a')->Fr P ah R ((i,S)::H) fuel (listed.setIfInBounds i true) a' w->K a') ->
   if Region.wanted o (yielded ah a.tmps) then o.still P a w K else K (a.put o.dst undef)):Fr P ah R H (fuel+1) listed a w:=by
 simp only[Bool.and_eq_true] at hB;obtain ⟨⟨hs,hr⟩,hf⟩:=hB
 have g7:i∈Region.ready .any ah listed:=by simpa using hr
 obtain ⟨v,hy,hF⟩:=v_M (G:=fun a'=>Fr P ah R ((i,S)::H) fuel (listed.setIfInBounds i true) a' w) hd (of_decide_eq_true aj) hS (h _ fun a' h1 h2=>⟨h1,h2⟩);intro co;refine wpAnyO_front ho (Region.noSelect_spec hs) (fun _ _=>ObH.same) fuel listed a w co (Region.free_spec ho hf) g7 hy hS ?_;exact w_V (fun j w w' hh=>⟨fun x hx=>hh x (List.mem_cons_of_mem _ hx),fun hn hs=>hh (i,S) (List.mem_cons_self ..) hn hs⟩) _ _ _ _ (hF (co.set g7))
theorem fr_pure (i:Nat) {o:Oper} (ho:ah[i]?=some o) {d:Nat} (hd:o.dst=some d) (aj:decide (d<a.tmps.size)=true) (hB:(Region.noSelect ah && (Region.ready .any ah listed).contains i && Region.free .any ah listed i)=true)
  (h:∀K:Act->Prop,(∀a',(∀W:World,if Region.wanted o (yielded ah a.tmps) then o.still P a W (fun a''=>a''=a') else a.put o.dst undef=a')->Fr P ah R H fuel (listed.setIfInBounds i true) a' w->K a') ->
   if Region.wanted o (yielded ah a.tmps) then o.still P a w K else K (a.put o.dst undef)):Fr P ah R H (fuel+1) listed a w:=by
 simp only[Bool.and_eq_true] at hB;obtain ⟨⟨hs,hr⟩,hf⟩:=hB
 have g7:i∈Region.ready .any ah listed:=by simpa using hr
 obtain ⟨v,hy,hF⟩:=v_M (S:=fun _=>True) (G:=fun a'=>Fr P ah R H fuel (listed.setIfInBounds i true) a' w) hd (of_decide_eq_true aj) trivial (h _ fun a' h1 h2=>⟨fun W _=>h1 W,h2⟩);intro co;refine wpAnyO_front ho (Region.noSelect_spec hs) (fun _ _=>ObH.same) fuel listed a w co (Region.free_spec ho hf) g7 hy trivial ?_;exact w_V (fun j w w' hh=>⟨hh,fun _ _=>trivial⟩) _ _ _ _ (hF (co.set g7))
def FrDo (P:Program) (ah:Array Oper) (R:Act->World->Prop) (H:Held) (fuel:Nat) (listed:Array Bool) (a:Act) (w:World) (i:Nat):Prop :=
 x_m P ah i (fun a' w'=>ObH .any ah H i w w'/\Fr P ah R H fuel (listed.setIfInBounds i true) a' w') a w
theorem y_a (i:Nat) {o:Oper} (ho:ah[i]?=some o)
  (h:∀(K:Act->World->Prop) (Qx:Exit->Act->World->Prop),(∀a' w',ObH .any ah H i w w'->Fr P ah R H fuel (listed.setIfInBounds i true) a' w'->K a' w') ->
   if Region.wanted o (yielded ah a.tmps) then o.wp P a w K Qx else K (a.put o.dst undef) w):FrDo P ah R H fuel listed a w i:=by
 unfold FrDo x_m;simp only[ho];exact h _ QF fun a' w' h1 h2=>⟨h1,h2⟩
theorem fr_all (aA:Region.ready .any ah listed≠[]) (h:∀i∈Region.ready .any ah listed,FrDo P ah R H fuel listed a w i):Fr P ah R H (fuel+1) listed a w:=fun co =>
 ⟨fun h0=>absurd h0 aA,fun i hi=>w_U (fun a' w' hh=>⟨hh.1,hh.2 (co.set hi)⟩) (h i hi)⟩
theorem fr_do (i:Nat) {o:Oper} (ho:ah[i]?=some o) (hr:Region.ready .any ah listed=[i])
  (h:∀(K:Act->World->Prop) (Qx:Exit->Act->World->Prop),(∀a' w',ObH .any ah H i w w'->Fr P ah R H fuel (listed.setIfInBounds i true) a' w'->K a' w') ->
   if Region.wanted o (yielded ah a.tmps) then o.wp P a w K Qx else K (a.put o.dst undef) w):Fr P ah R H (fuel+1) listed a w :=
 fr_all (by rw[hr];simp) fun j hj=>by
  rw[hr] at hj
  obtain rfl:j=i:=by simpa using hj
  exact y_a j ho h
theorem w_4 (i k:Nat) (hr:Region.ready .any ah listed=[i,k]) (h1:FrDo P ah R H fuel listed a w i) (h2:FrDo P ah R H fuel listed a w k):Fr P ah R H (fuel+1) listed a w :=
 fr_all (by rw[hr];simp) fun j hj=>by
  rw[hr] at hj;rcases (by simpa using hj:j=i\/j=k) with rfl|rfl
  ·exact h1
  ·exact h2
end
theorem fp {P:Program} {ah:Array Oper} {R:Act->World->Prop} {H:List (Nat×(World->Prop))} {fuel:Nat} {listed:Array Bool} {a:Act} {w:World} (i:Nat) {o:Oper} {d:Nat} {a':Act} (hF:Fr P ah R H fuel (listed.setIfInBounds i true) a' w) (ho:ah[i]?=some o := by rfl) (hd:o.dst=some d := by rfl) (aj:decide (d<a.tmps.size)=true := by kernel_rfl) (hB:(Region.noSelect ah&&(Region.ready .any ah listed).contains i&&Region.free .any ah listed i)=true := by kernel_rfl) (h:∀ (W:World) (K:Act->Prop),K a'->if Region.wanted o (yielded ah a.tmps) then o.still P a W K else K (a.put o.dst undef) := by intro W K h; go_simp; exact h):Fr P ah R H (fuel+1) listed a w:=fr_pure i ho hd aj hB fun K hK=>h w K (hK a' (fun W=>h W (fun a''=>a''=a') rfl) hF)
theorem fq {P:Program} {ah:Array Oper} {R:Act->World->Prop} {H:List (Nat×(World->Prop))} {fuel:Nat} {listed:Array Bool} {a:Act} {w:World} (i:Nat) (S:World->Prop) {o:Oper} {d:Nat} {a':Act} (hS:S w) (hF:Fr P ah R ((i,S)::H) fuel (listed.setIfInBounds i true) a' w) (ho:ah[i]?=some o := by rfl) (hd:o.dst=some d := by rfl) (aj:decide (d<a.tmps.size)=true := by kernel_rfl) (hB:(Region.noSelect ah&&(Region.ready .any ah listed).contains i&&Region.free .any ah listed i)=true := by kernel_rfl) (h:∀ (W:World),S W->∀K:Act->Prop,K a'->if Region.wanted o (yielded ah a.tmps) then o.still P a W K else K (a.put o.dst undef) := by intro W hW K h; go_simp; exact h):Fr P ah R H (fuel+1) listed a w:=w_k i S ho hd aj hB hS fun K hK=>h w hS K (hK a' (fun W hW=>h W hW (fun a''=>a''=a') rfl) hF)
theorem f_c {P:Program} {ah:Array Oper} {R:Act->World->Prop} {H:List (Nat×(World->Prop))} {fuel:Nat} {listed:Array Bool} {a:Act} {w:World} (i:Nat) {o:Oper} {d:Nat} {a':Act} {ad:Addr} {v:Value} (hS:w.cell? ad=some v) (hF:Fr P ah R ((i,fun W=>W.cell? ad=some v)::H) fuel (listed.setIfInBounds i true) a' w) (ho:ah[i]?=some o := by rfl) (hd:o.dst=some d := by rfl) (aj:decide (d<a.tmps.size)=true := by kernel_rfl) (hB:(Region.noSelect ah&&(Region.ready .any ah listed).contains i&&Region.free .any ah listed i)=true := by kernel_rfl) (h:∀ (W:World),W.cell? ad=some v->∀K:Act->Prop,K a'->if Region.wanted o (yielded ah a.tmps) then o.still P a W K else K (a.put o.dst undef) := by intro W hW K h; go_simp; exact h):Fr P ah R H (fuel+1) listed a w:=w_k i (fun W=>W.cell? ad=some v) ho hd aj hB hS fun K hK=>h w hS K (hK a' (fun W hW=>h W hW (fun a''=>a''=a') rfl) hF)
theorem fd {P:Program} {ah:Array Oper} {R:Act->World->Prop} {H:List (Nat×(World->Prop))} {fuel:Nat} {listed:Array Bool} {a:Act} {w:World} (i:Nat) {o:Oper} (h:∀ (K:Act->World->Prop) (Qx:Exit->Act->World->Prop),(∀a' w',ObH .any ah H i w w'->Fr P ah R H fuel (listed.setIfInBounds i true) a' w'->K a' w')->if Region.wanted o (yielded ah a.tmps) then o.wp P a w K Qx else K (a.put o.dst undef) w) (ho:ah[i]?=some o := by rfl) (hr:Region.ready .any ah listed=[i] := by kernel_rfl):Fr P ah R H (fuel+1) listed a w:=fr_do i ho hr h
theorem fe {P:Program} {ah:Array Oper} {R:Act->World->Prop} {H:List (Nat×(World->Prop))} {fuel:Nat} {listed:Array Bool} {a:Act} {w:World} (h:R a w) (hr:Region.ready .any ah listed=[] := by kernel_rfl):Fr P ah R H fuel listed a w:=fr_end hr h
theorem fs {P:Program} {id:Nat} {Q:Exit->Act->World->Prop} {a:Act} {w:World} {l:List Oper} (h:Fr P l.toArray (Q .normal) [] l.length (Array.replicate l.length false) a w.drew) (hm:P.follows .mixedOrders=true := by kernel_rfl):(Code.region id l.toArray true).wp P Q a w:=v_C hm h
theorem oW {ah:Array Oper} {md:Region.Mode} {H:Held} {j i:Nat} {S:World->Prop} {w w':World} (h:ObH md ah H j w w') (hw:waitsB md ah 60 j i=true := by kernel_rfl):ObH md ah ((i,S)::H) j w w':=ObH.waits hw h
theorem oK {ah:Array Oper} {md:Region.Mode} {H:Held} {j i:Nat} {S:World->Prop} {w w':World} (hw:S w') (h:ObH md ah H j w w'):ObH md ah ((i,S)::H) j w w':=ObH.keeps hw h
theorem oN {ah:Array Oper} {md:Region.Mode} {j:Nat} {w w':World}:ObH md ah [] j w w':=ObH.nil
section
open GfM
theorem w_c (n:Int) (w:World):Cl 154 #[.int .i64 n] w fun e w'=>e=.returned (.bool (decide (1<=n/\n<=8)))/\w=w':=by
 by_cases h:1<=n
 ·by_cases h2:n<=8
  ·have h3:decide (1<=n/\n<=8)=true:=by simp;omega
   rw[h3];go_enter func154,ntmps154;go_wp2;go_ret;exact ⟨rfl,rfl⟩
  ·have h3:decide (1<=n/\n<=8)=false:=by simp;omega
   rw[h3]
   have h4:decide (1<=n)=true:=by simp;omega
   have h5:decide (n<=8)=false:=by simp;omega
   go_enter func154,ntmps154;go_wp2;go_ret;exact ⟨rfl,rfl⟩
 ·have h3:decide (1<=n/\n<=8)=false:=by simp;omega
  rw[h3]
  have h4:decide (1<=n)=false:=by simp;omega
  go_enter func154,ntmps154;go_wp2;go_ret;exact ⟨rfl,rfl⟩
theorem z_g.texts {w:World} {v:Value} {T:List ByteArray} (h:z_g w v (sv T)) :
  ∃A c,v=.slice A T.length c/\T.length<=c/\c<=9223372036854775807/\(0<T.length->∃b off,A=some ⟨b,off,none⟩/\∀j,j<T.length->w.cell? ⟨b,off+j,none⟩=some (.string (tl T j))):=by
 obtain ⟨A,c,rfl,h1,h2,h3⟩:=h;rw[z_c] at *;refine ⟨A,c,rfl,h1,h2,fun hp=>?_⟩;obtain ⟨b,off,rfl,hc⟩:=h3 hp;exact ⟨b,off,rfl,fun j hj=>by rw[hc j hj,y_y T j hj]⟩
theorem bne_nat {a b:Nat} (h:a≠b):(((a:Nat):Int) != ((b:Nat):Int))=true:=by rw[bne_iff_ne];omega
theorem w_q {a b:Nat} (h:a=b):(((a:Nat):Int) != ((b:Nat):Int))=false:=by rw[h];simp
theorem shape_any (w:World) (v:Value) (T:List ByteArray) (hv:z_g w v (sv T)) :
  Cl 156 #[v] w fun e w'=>e=.returned (.int .i64 (shE T))/\w=w':=by
 obtain ⟨A,c,rfl,aK,bf,aa⟩:=hv.texts;clear hv;by_cases hn:0<T.length
 ·obtain ⟨b,off,rfl,hc⟩:=aa hn
  clear aa;have gy:=hc 0 hn;rw[Nat.add_zero] at gy;by_cases he:Evn T
  ·by_cases hl:65536<(tl T 0).size
   ·rw[shE_long he hn hl]
    have HE:=Zz he;clear he;have HC:=Zz hc;clear hc;generalize mu:tl T 0=s0 at *;have fI:=Zz mu;clear mu;generalize gv:T.length=n at *;have HN:=Zz gv;clear gv;go_enter func156,ntmps156;go_wp2
    go_loop [4,7] (fun _ s7=>∃i:Nat,i<=n/\s7=.int .i64 i) (fun _ s7=>T.length+1-(intOf s7).toNat)
    case atStart=>exact ⟨0,by omega,rfl⟩
    case round =>
     obtain ⟨i,hi,rfl⟩:=hrel;by_cases af:i<n
     ·have h1:=HC.o i af
      have h2:=w_q (HE.o i (by rw[HN.o];exact af))
      try rw[fI.o] at h2
      generalize tl T i=si at *;go_wp2
      go_round
      case rel=>exact ⟨i+1,by omega,by go_num⟩
      case measure=>have:=HN.o;simp[intOf];omega
     ·obtain rfl:i=n:=by omega
      go_wp2;go_ret;exact ⟨rfl,rfl⟩
   ·rw[shE_zero he (by omega)]
    have HE:=Zz he;clear he;have HC:=Zz hc;clear hc;generalize mu:tl T 0=s0 at *;have fI:=Zz mu;clear mu;generalize gv:T.length=n at *;have HN:=Zz gv;clear gv;go_enter func156,ntmps156;go_wp2
    go_loop [4,7] (fun _ s7=>∃i:Nat,i<=n/\s7=.int .i64 i) (fun _ s7=>T.length+1-(intOf s7).toNat)
    case atStart=>exact ⟨0,by omega,rfl⟩
    case round =>
     obtain ⟨i,hi,rfl⟩:=hrel;by_cases af:i<n
     ·have h1:=HC.o i af
      have h2:=w_q (HE.o i (by rw[HN.o];exact af))
      try rw[fI.o] at h2
      generalize tl T i=si at *;go_wp2
      go_round
      case rel=>exact ⟨i+1,by omega,by go_num⟩
      case measure=>have:=HN.o;simp[intOf];omega
     ·obtain rfl:i=n:=by omega
      go_wp2;go_ret;exact ⟨rfl,rfl⟩
  ·rw[shE_odd he]
   obtain ⟨j,hj,aA,g8⟩:=odd_first he;have h3:=bne_nat aA;have jI:=hc j hj;have HO:=Zz g8;clear g8 he aA;have HC:=Zz hc;clear hc;generalize mu:tl T 0=s0 at *;have fI:=Zz mu;clear mu;generalize Iw:tl T j=sj at *;have HSJ:=Zz Iw;clear Iw;generalize gv:T.length=n at *;have HN:=Zz gv;clear gv;go_enter func156,ntmps156;go_wp2
   go_loop [4,7] (fun _ s7=>∃i:Nat,i<=j/\s7=.int .i64 i) (fun _ s7=>T.length+1-(intOf s7).toNat)
   case atStart=>exact ⟨0,by omega,rfl⟩
   case round =>
    obtain ⟨i,hi,rfl⟩:=hrel;by_cases af:i<j
    ·have h1:=HC.o i (by omega)
     have h2:=w_q (HO.o i af)
     try rw[fI.o] at h2
     generalize tl T i=si at *;go_wp2
     go_round
     case rel=>exact ⟨i+1,by omega,by go_num⟩
     case measure=>have:=HN.o;simp[intOf];omega
    ·obtain rfl:i=j:=by omega
     go_wp2;go_ret;exact ⟨rfl,rfl⟩
 ·obtain rfl:T=[]:=q_I (by omega)
  have e:shE []=0:=by
   unfold shE;rw[if_pos (by intro i hi;simp at hi),if_neg (by simp)]
  rw[e];clear aa hn e;simp only[List.length_nil];go_enter func156,ntmps156;go_wp2
  go_loop [4,7] (fun _ s7=>∃i:Nat,i=0/\s7=.int .i64 i) (fun _ s7=>1-(intOf s7).toNat)
  case atStart=>exact ⟨0,by omega,rfl⟩
  case round =>
   obtain ⟨i,rfl,rfl⟩:=hrel;go_wp2;go_ret;exact ⟨rfl,rfl⟩
end
end Go.Proofs.YtdkheklakfbeeaaGreatDoor
