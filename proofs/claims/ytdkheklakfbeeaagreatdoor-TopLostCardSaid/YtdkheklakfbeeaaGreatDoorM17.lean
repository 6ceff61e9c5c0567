/- Part 17 of the proof. -/
import Derived.StillTailTactics
import Derived.Laws.IdiomCopy
import Derived.Lib.AppendStr
import Derived.ArgAppend
import Derived.RowKit3
import Derived.WideLaws
import Derived.Lib.SliceRun
import Derived.Test.YtdkheklakfbeeaaGreatDoorM16
set_option linter.all false
set_option maxRecDepth 100000
set_option maxHeartbeats 16000000
namespace Go.Proofs.YtdkheklakfbeeaaGreatDoor
open Go.RowKit Tryz
section
open GfM
theorem identity_om (k:Nat) (h1:1<=(k:Int)) (h2:(k:Int)<=16) (w:World) :
  Cl 211 #[.int .i64 k] w fun e w'=>e=.returned (.tuple #[.slice (some ⟨w.heap.size,0,none⟩) k k,.int .i64 0])/\OM w' w.heap.size w.heap.size k k (fun r=>(idM k).getD r [])/\Below w.heap.size w w':=by
  have hk:k<=16:=by omega
  go_enter func211,ntmps211;go_wp2_with fail;refine (v_l _ h1 h2 _).mono ?_;rintro e w' ⟨rfl,rfl⟩;go_wp2_with fail;refine (empty_any k k hk hk _).mono ?_;rintro e w1 ⟨rfl,cZ,bT⟩;go_wp2_with fail;obtain ⟨G,hG⟩:∃G,w.heap.size=G:=⟨_,rfl⟩;rw[hG] at cZ ⊢;have HG:=Zz hG;clear hG
  go_loopw [5,13] (fun _ s13 wr=>∃i:Nat,i<=k/\s13=.int .i64 i/\OM wr G G k k (w_X k i)/\Below w.heap.size w wr) (fun _ s13 _=>k-(intOf s13).toNat)
  case atStart =>
   refine ⟨0,by omega,rfl,cZ.congr fun r _=>?_,bT⟩;unfold w_X;rw[if_neg (by omega)]
  case round =>
   clear cZ bT;obtain ⟨i,hi,rfl,hM,hB⟩:=hrel;by_cases af:i<k
   ·obtain ⟨g,c,aK,bf,hf,hg,tr,hlc,_,aH⟩:=hM.elem i i af (by rw[idRow_length];exact af)
    rw[idRow_length] at aK hlc;have qx:=(aH 1).congr fun r _=>idRow_step k i r;have HS:=Zz qx;clear qx aH;go_wp2;go_roundw
    case rel=>exact ⟨i+1,by omega,by go_num,HS.o,hB.setCell (by have:=HG.o;simp;omega) _⟩
    case measure=>simp[intOf];omega
   ·obtain rfl:i=k:=by omega
    go_wp2;go_ret2;refine ⟨by rw[HG.o];rfl,?_,hB⟩;rw[HG.o];refine hM.congr fun r hr=>?_;rw[idM_row _ _ hr];unfold w_X;rw[if_pos hr]
theorem vandermonde_om (n k:Nat) (h1:1<=(n:Int)) (h2:(n:Int)<=16) (h3:1<=(k:Int)) (h4:(k:Int)<=16) (w:World) :
  Cl 212 #[.int .i64 n,.int .i64 k] w fun e w'=>e=.returned (.tuple #[.slice (some ⟨w.heap.size,0,none⟩) n n,.int .i64 0])/\OM w' w.heap.size w.heap.size n n (fun r=>(vdM n k).getD r [])/\Below w.heap.size w w':=by
   have Mp:n<=16:=by omega
   have Mq:k<=16:=by omega
   go_enter func212,ntmps212;go_wp2_with fail;refine (v_l _ h1 h2 _).mono ?_;rintro e w' ⟨rfl,rfl⟩;go_wp2_with fail;refine (v_l _ h3 h4 _).mono ?_;rintro e w' ⟨rfl,rfl⟩;go_wp2_with fail;refine (empty_any n k Mp Mq _).mono ?_;rintro e w1 ⟨rfl,cZ,bT⟩;go_wp2_with fail;obtain ⟨G,hG⟩:∃G,w.heap.size=G:=⟨_,rfl⟩;rw[hG] at cZ ⊢;have HG:=Zz hG;clear hG
   go_loopw [7,8,21,25] (fun _ _ s21 _ wr=>∃i:Nat,i<=n/\s21=.int .i64 i/\OM wr G G n n (x_j k i 0)/\Below w.heap.size w wr) (fun _ _ s21 _ _=>n-(intOf s21).toNat)
   case atStart =>
    refine ⟨0,by omega,rfl,cZ.congr fun r _=>?_,bT⟩;unfold x_j;rw[if_neg (by omega)];split
    ·unfold x_y
     apply q_m
     ·simp
     ·intro j h1 h2;simp
    ·rfl
   case round =>
    clear cZ bT;obtain ⟨i,hi,rfl,hM,hB⟩:=hrel;by_cases af:i<n
    ·obtain ⟨wo,rfl⟩:∃wo:World,wo=wr:=⟨_,rfl⟩
     go_wp2
     go_loopw [8,25] (fun _ s25 wi=>∃c:Nat,c<=k/\s25=.int .i64 c/\OM wi G G n n (x_j k i c)/\Below w.heap.size w wi) (fun _ s25 _=>k-(intOf s25).toNat)
     case atStart=>exact ⟨0,by omega,rfl,hM,hB⟩
     case round =>
      clear hM hB;obtain ⟨c,hc,rfl,hM,hB⟩:=hrel;by_cases hlc:c<k
      ·obtain ⟨g,kk,aK,bf,hf,hg,tr,Mr,_,aH⟩:=hM.elem i c af (by rw[vdRow_length];exact hlc)
       rw[vdRow_length] at aK Mr;have qx:=(aH (ex (i*c))).congr fun r _=>vdRow_set k i c r hlc;have HS:=Zz qx;clear qx aH;have hp:=fun W=>pow_any 2 ((i*c:Nat):Int) 2 rfl W;rw[pwI_ex] at hp;have mr:i*c<=16*16:=Nat.mul_le_mul (by omega) (by omega)
       have hw:wrap64 ((i:Int)*(c:Int))=((i*c:Nat):Int):=by
        have e:((i:Int)*(c:Int))=((i*c:Nat):Int):=by simp
        rw[e];unfold wrap64;omega
       have fi:IntKind.i64.wrap ((i:Int)*(c:Int))=((i*c:Nat):Int):=by
        have e:((i:Int)*(c:Int))=((i*c:Nat):Int):=by simp
        rw[e,q_r];omega
       generalize (x_j k i c i).getD c 0=gW at *;generalize ex (i*c)=x at *;generalize i*c=ic at *;have HP:=Zz hp;clear hp mr;go_wp2
       go_region_with (go_at_call 162;refine (HP.o _).mono ?_;rintro e w' ⟨rfl,rfl⟩)
       all_goals
        go_wp2;go_roundw
        case rel=>exact ⟨c+1,by omega,by go_num,HS.o.drew,(hB.setCell (by have:=HG.o;simp;omega) _).drew⟩
        case measure=>simp[intOf];omega
      ·obtain rfl:c=k:=by omega
       go_wp2;go_roundw
       case rel=>exact ⟨i+1,by omega,by go_num,hM.congr fun r _=>vdRow_next c i r,hB⟩
       case measure=>simp[intOf];omega
    ·obtain rfl:i=n:=by omega
     go_wp2;go_ret2;refine ⟨by rw[HG.o];rfl,?_,hB⟩;rw[HG.o];refine hM.congr fun r hr=>?_;rw[vdM_row _ _ _ hr];unfold x_j;rw[if_pos hr,vdPart_all]
end
section
open GfM
def y_c (k:Nat):List (List UInt8):=idM k++vdM 2 k
theorem z_6 (k:Nat):(y_c k).length=k+2:=by unfold y_c;rw[q_b,x_u,vdM_length]
theorem OM.own {w:World} {base G n:Nat} {row:Nat->List UInt8} (h:OM w base G n n row) (hn:n<=1000):∃(vs:List Value),vs.length=n/\Own w base 105 (.slice (some ⟨G,0,none⟩) n n) vs/\(∀u∈vs,u.oneCell'=true) /\
  ∀r,r<n->∃g c,vs.getD r undef=.slice (some ⟨g,0,none⟩) (row r).length c/\z_T w g (row r) c:=by
 obtain ⟨h1,_,gs,ks,h3,h4,_⟩:=h
 have hl:(y_z n n row gs ks).toList.length=n:=by rw[Array.length_toList,z_U]
 refine ⟨(y_z n n row gs ks).toList,hl,⟨by simp,.inr ⟨G,n,y_z n n row gs ks,by rw[hl],h1,h3,by rw[hl];exact q_e _,by simp only[maxLen];omega,by rw[z_U,Nat.mul_one],?_⟩⟩,?_,fun r hr=>?_⟩
 ·rw[hl,Nat.mul_one,q_t (by rw[hl];exact q_e _)]
 ·intro u hu
  obtain ⟨i,hi,he⟩:=List.getElem_of_mem hu;rw[hl] at hi;have:=y_G n n row gs ks i hi;rw[if_pos hi] at this;rw[<-Array.getElem?_toList,q_d (by rw[hl];exact hi),he] at this;injection this with this;rw[this];rfl
 ·refine ⟨gs r,ks r,?_,(h4 r hr).2⟩
  rw[q_a,Array.getElem?_toList,y_G _ _ _ _ _ _ hr,if_pos hr];rfl
theorem rows_other:(5:Nat)≠105:=by decide
theorem z_T.own_ne {w:World} {base g c:Nat} {l:List UInt8} {v:Value} {xs:List Value} (h:z_T w g l c) (ho:Own w base 105 v xs):some g≠v.ownBlock:=by
 rcases ho.2 with ⟨rfl,_⟩|⟨g',av,aQ,rfl,_,hh,_⟩
 ·simp[Value.ownBlock]
 ·have:=h.ne_ (t:=105) (cs:=aQ) hh rows_other
  simpa[Value.ownBlock] using this
theorem generator_any (k:Nat) (h1:1<=k) (h2:k<=8) (w:World) :
  Cl 155 #[.int .i64 k] w fun e w'=>∃v,e=.returned v/\x_h w' v (y_c k)/\Below w.heap.size w w':=by
 have ha:=identity_om k (by omega) (by omega) w;have hv:=fun W=>vandermonde_om 2 k (by omega) (by omega) (by omega) (by omega) W;have HA:=Zz ha;clear ha;have HV:=Zz hv;clear hv;go_enter func155,ntmps155;go_wp2_with fail;refine (HA.o).mono ?_;rintro e w1 ⟨rfl,cZ,bT⟩;go_wp2_with fail;refine (HV.o _).mono ?_;rintro e w2 ⟨rfl,ez,am⟩;have dO:=z_G bT bT.size am;have DX:=cZ.below am;obtain ⟨vs,cQ,hO,_,vx⟩:=DX.own (by omega);obtain ⟨us,Rr,hP,bP,qy⟩:=ez.own (by omega)
 have hL:(vs.length+us.length)*24<=140737488355328:=by rw[cQ,Rr];omega
 have HL:=Zz hL;clear hL;have HO:=Zz hO;clear hO;have HR:=Zz hP.reads;clear hP;have b9:=Zz bP;clear bP;have mC:=Zz vx;clear vx;have pL:=Zz qy;clear qy;clear cZ ez DX am bT
 go_wp2_with (at_builtin;refine y_t w.heap.size rfl (.tmp 17) (.tmp 18) 251 105 (.slice none 0 0) 24 rfl underlying251 infoB rfl (by decide) _ vs _ us rfl rfl HR.o b9.o HO.o dO dO.size HL.o ?_;intro v1 w3 o5 lj eW _)
 have IJ:x_h w3 v1 (y_c k):=by
  refine ⟨vs++us,by rw[q_b,cQ,Rr,z_6],o5.reads,fun r hr=>?_⟩;rw[z_6] at hr;unfold y_c;by_cases e:r<k
  ·obtain ⟨g,c,e1,e2⟩:=mC.o r e
   have e3:=e2.grown eW (e2.own_ne HO.o);rw[q_a,q_F (by omega),<-q_a,e1,q_a (l:=idM k++vdM 2 k),q_F (by rw[x_u];exact e),<-q_a];exact e3.reads
  ·obtain ⟨g,c,e1,e2⟩:=pL.o (r-k) (by omega)
   have e3:=e2.grown eW (e2.own_ne HO.o);rw[q_a,q_u (by omega),cQ,<-q_a,e1,q_a (l:=idM k++vdM 2 k),q_u (by rw[x_u];omega),x_u,<-q_a];exact e3.reads
 go_ret;exact ⟨_,rfl,IJ,lj⟩
end
section
open GfM
def y_A (x y:List UInt8) (f:UInt8) (c:Nat):List UInt8:=(List.range x.length).map fun j=>if j<c then x.getD j 0 ^^^ mul f (y.getD j 0) else x.getD j 0
theorem x_W (x y:List UInt8) (f:UInt8) (c:Nat):(y_A x y f c).length=x.length:=by simp[y_A]
theorem addPart_at (x y:List UInt8) (f:UInt8) (c:Nat) (h:c<x.length):(y_A x y f c).getD c 0=x.getD c 0:=by
 unfold y_A;rw[q_a,q_j,q_n h];show (if c<c then _ else _)=_;rw[if_neg (Nat.lt_irrefl c)]
theorem addPart_zero (x y:List UInt8) (f:UInt8):y_A x y f 0=x:=by
 unfold y_A;apply q_m
 ·simp
 ·intro j h1 h2
  simp[q_a,h2]
theorem addPart_all (x y:List UInt8) (f:UInt8) (h:x.length=y.length):y_A x y f x.length=x_5 x y f:=by
 unfold y_A x_5;apply q_m
 ·simp;omega
 ·intro j h1 h2
  have hx:j<x.length:=by simpa using h1
  have hy:j<y.length:=by omega
  simp[q_a,hx,hy]
theorem addPart_set (x y:List UInt8) (f:UInt8) (c:Nat):(y_A x y f c).set c (x.getD c 0 ^^^ mul f (y.getD c 0))=y_A x y f (c+1):=by
 apply q_m
 ·rw[q_k,x_W,x_W]
 ·intro j h1 h2
  rw[List.getElem_set];simp only[y_A,List.getElem_map,List.getElem_range];by_cases e:c=j
  ·subst e;rw[if_pos rfl,if_pos (by omega)]
  ·rw[if_neg e]
   by_cases h3:j<c
   ·rw[if_pos h3,if_pos (by omega)]
   ·rw[if_neg h3,if_neg (by omega)]
def clr (row:Nat->List UInt8) (r fr jA:Nat):Nat->List UInt8:=if r=fr then row else upd row r (x_5 (row r) (row fr) ((row r).getD jA 0))
theorem addRow_zero (x y:List UInt8) (h:x.length=y.length):x_5 x y 0=x:=by
 rw[<-addPart_all x y 0 h];unfold y_A;apply q_m
 ·simp
 ·intro j h1 h2
  simp[q_a,h2,zero_mul]
theorem clearRow_any (w:World) (base G n K:Nat) (row:Nat->List UInt8) (hM:OM w base G n n row) (hK:∀r,r<n->(row r).length=K) (r fr jA:Nat) (hr:r<n) (hf:fr<n) (hc:jA<K) (hn:n<=1000) (hK2:K<=1000) :
  Cl 218 #[.slice (some ⟨G,0,none⟩) n n,.int .i64 r,.int .i64 fr,.int .i64 jA] w fun e w'=>e=.returned (.tuple #[])/\OM w' base G n n (clr row r fr jA)/\Below base w w'/\(∀b t cs,(5:Nat)≠t->Blk w b t cs->Blk w' b t cs):=by
 have Wq:=hM.1;obtain ⟨g,k,e1,e2,e3,e4,e5,e6,_,_⟩:=hM.elem r jA hr (by rw[hK r hr];exact hc);rw[hK r hr] at e1 e6;by_cases aA:r=fr
 ·have ec:clr row r fr jA=row:=if_pos aA
  rw[ec]
  have hb:(((r:Nat):Int) != ((fr:Nat):Int))=false:=by rw[aA];simp
  generalize (row r).getD jA 0=f at *;clear aA ec hK;go_enter func218,ntmps218;go_wp2
  go_end0
  exact ⟨rfl,hM,Below.refl _ _,fun _ _ _ _ h=>h⟩
 ·have ec:clr row r fr jA=upd row r (x_5 (row r) (row fr) ((row r).getD jA 0)):=if_neg aA
  have ny:(row r).length=(row fr).length:=by rw[hK r hr,hK fr hf]
  have hb:(((r:Nat):Int) != ((fr:Nat):Int))=true:=by rw[bne_iff_ne];omega
  by_cases qz:(row r).getD jA 0=0
  ·have e7:(((((row r).getD jA 0).toNat:Nat):Int) != 0)=false:=by rw[qz];rfl
   have Ms:OM w base G n n (clr row r fr jA):=hM.congr fun s _=>by
    rw[ec,qz,addRow_zero _ _ ny];unfold upd;split
    ·rename_i h;rw[h]
    ·rfl
   generalize clr row r fr jA=row' at *;generalize (row r).getD jA 0=f at *;clear aA ec qz ny hK;go_enter func218,ntmps218;go_wp2
   go_end0
   exact ⟨rfl,Ms,Below.refl _ _,fun _ _ _ _ h=>h⟩
  ·have e7:(((((row r).getD jA 0).toNat:Nat):Int) != 0)=true:=by
    rw[bne_iff_ne];have:=v_E qz;omega
   have tu:OM w base G n n (upd row r (y_A (row r) (row fr) ((row r).getD jA 0) 0)):=hM.congr fun s _=>by
    rw[addPart_zero];unfold upd;split
    ·rename_i h;rw[h]
    ·rfl
   have aO:∀W,OM W base G n n (upd row r (y_A (row r) (row fr) ((row r).getD jA 0) K))->OM W base G n n (clr row r fr jA):=fun W h=>by
    rw[ec,<-addPart_all _ _ _ ny,hK r hr];exact h
   have Rs:=hK r hr;have DY:=hK fr hf;have bS:=Zz aO;clear aO ec hK hM;have qk:=Zz aA;clear aA qz;have dU:=Zz Rs;clear Rs;have lq:=Zz DY;clear DY ny;generalize (row r).getD jA 0=f at *;go_enter func218,ntmps218;go_wp2;clear e1 e2 e3 e4 e5 e6 e7 hb
   go_loopw [9,29] (fun _ s29 wr=>∃c:Nat,c<=K/\s29=.int .i64 c/\OM wr base G n n (upd row r (y_A (row r) (row fr) f c))/\Below base w wr/\Hid (∀b t cs,(5:Nat)≠t->Blk w b t cs->Blk wr b t cs)) (fun _ s29 _=>K-(intOf s29).toNat)
   case atStart=>exact ⟨0,by omega,rfl,tu,Below.refl _ _,Zz fun _ _ _ _ h=>h⟩
   case round =>
    clear tu;obtain ⟨c,hcK,rfl,hM,hB,Mt⟩:=hrel;by_cases hlc:c<K
    ·obtain ⟨g,k,e1,e2,e3,e4,e5,e6,e9,e7⟩:=hM.elem r c hr (by rw[y_p,x_W,dU.o];exact hlc)
     rw[y_p,x_W,dU.o] at e1 e6;rw[y_p,addPart_at _ _ _ _ (by rw[dU.o];exact hlc)] at e2;obtain ⟨g',k',i1,i2,i3,i4,i5,i6,_,_⟩:=hM.elem fr c hf (by rw[y_K _ _ (fun h=>qk.o h.symm),lq.o];exact hlc);rw[y_K _ _ (fun h=>qk.o h.symm)] at i1 i2 i6;rw[lq.o] at i1 i6
     have e8:=(e7 ((row r).getD c 0 ^^^ mul f ((row fr).getD c 0))).congr (row':=upd row r (y_A (row r) (row fr) f (c+1))) fun s _=>by
      rw[y_p,addPart_set];unfold upd;split<;>rfl
     have C1:=fun W=>(mul_any _ _ f ((row fr).getD c 0) rfl rfl W).mono fun _ _ h=>(⟨h.1,h.2.symm⟩:_/\_);have C2:=fun W=>(add_any ((row r).getD c 0) (mul f ((row fr).getD c 0)) W).mono fun _ _ h=>(⟨h.1,h.2.symm⟩:_/\_);generalize (row r).getD c 0 ^^^ mul f ((row fr).getD c 0)=u5 at *;generalize mul f ((row fr).getD c 0)=u4 at *;generalize (row r).getD c 0=u3 at *;generalize (row fr).getD c 0=u2 at *;have oX:=Zz C1;clear C1;have mp:=Zz C2;clear C2;have Xm:=Zz e8;clear e8 e7;have Xn:=Zz e9;clear e9;go_wp2
     go_still_tail 23,(by kernel_rfl)
     still_call (oX.o _)
     repeat still_step
     still_call (mp.o _)
     repeat still_step
     refine wpStill_nil ?_;go_wp2;go_roundw
     case rel=>exact ⟨c+1,by omega,by go_num,Xm.o.drew,(hB.setCell (by simp;omega) _).drew,Zz fun b t cs aA h=>((Mt.o b t cs aA h).far (Xn.o b t cs aA (Mt.o b t cs aA h)) _).drew⟩
     case measure=>simp[intOf];omega
    ·obtain rfl:c=K:=by omega
     go_wp2
     go_end0
     exact ⟨rfl,bS.o _ hM,hB,Mt.o⟩
end
section
open GfM
theorem clone_any (w:World) (l:List UInt8) (A:Option Addr) (c:Nat) (hv:z_g w (.slice A l.length c) (bv l)) (h0:0<l.length) (hl:l.length<=140737488351232) :
  Cl 214 #[.slice A l.length c] w fun e w'=>∃v,e=.returned v/\Own w' w.heap.size 5 v (bv l)/\Below w.heap.size w w':=by
 obtain ⟨A',c',he,aK,bf,aa⟩:=hv.shape;injection he with h1 h2 h3;subst h1 h3;obtain ⟨b,off,rfl,_⟩:=aa h0;clear aa;have uU:=fun W:World=>Lib.run_eql_slice_nil (P:=prog) W 105 5 (some ⟨b,off,none⟩) l.length c 0 0 underlying105;simp only[Option.isNone_some] at uU;have HV:=Zz hv;have bP:=Zz (bv_one l)
 have cE:(0+l.length)*1<=140737488355328:=by omega
 have dE:=Zz cE;clear hv cE;obtain ⟨n,hn⟩:∃n,l.length=n:=⟨_,rfl⟩;have HN:=Zz hn;have Xo:Hid (z_g w (.slice (some ⟨b,off,none⟩) n c) (bv l)):=Zz (by rw[<-hn];exact HV.o);rw[hn] at h0 hl uU aK ⊢;clear HV hn;have hO:=Own.lit_ w w.heap.size 5 #[] (q_e _) (by simp);have HO:=Zz hO;clear hO;go_enter func214,ntmps214
 go_wp2_with (at_builtin;refine y_t w.heap.size rfl (.tmp 5) (.tmp 6) 105 5 (.int .u8 0) 1 rfl underlying105 info5 rfl (by decide) _ [] _ (bv l) rfl rfl (Xo.o.alloc _) bP.o HO.o ((Below.refl _ _).alloc (q_e _) _) (by simp) (by rw[z_D,HN.o];have:=dE.o;rw[HN.o] at this;exact this) ?_;intro v1 w1 iT bT _ _)
 go_ret;exact ⟨_,rfl,iT,bT⟩
end
end Go.Proofs.YtdkheklakfbeeaaGreatDoor
section
open Go.Proofs.Tryz
namespace Go.Proofs.YtdkheklakfbeeaaGreatDoor.GfM
def Unit (n c:Nat) (m:List (List UInt8)):Prop:=∀r j,r<n->j<c->en m r j=dl r j
section
variable {m:List (List UInt8)} {n K c r:Nat}
theorem Unit.swap (h:Unit n c m) (hs:Shp m n K) {p:Nat} (hc:c<n) (Mv:c<=p) (hp:p<n):Unit n c (w_Y m c p):=by
 intro r j hr hj;rw[en_swap hs hc hp];by_cases e1:r=p
 ·rw[if_pos e1,h c j hc hj];unfold dl;rw[if_neg (by omega),if_neg (by omega)]
 ·rw[if_neg e1]
  by_cases e2:r=c
  ·rw[if_pos e2,h p j hp hj];unfold dl;rw[if_neg (by omega),if_neg (by omega)]
  ·rw[if_neg e2];exact h r j hr hj
theorem Unit.scale (h:Unit n c m) (hs:Shp m n K) (hc:c<n) (f:UInt8):Unit n c (w_D m c f):=by
 intro r j hr hj;rw[en_scale hs hc];by_cases e:r=c
 ·rw[if_pos e,h c j hc hj];unfold dl;rw[if_neg (by omega),if_neg (by omega),z_3]
 ·rw[if_neg e];exact h r j hr hj
def w_L (n c r:Nat) (m:List (List UInt8)):Prop:=Unit n c m/\en m c c=1/\∀s,s<r->s≠c->en m s c=0
theorem w_L.start (h:Unit n c m) (hs:Shp m n K) (hc:c<n) (aA:en m c c≠0):w_L n c 0 (w_D m c (inv (en m c c))):=by
 refine ⟨h.scale hs hc _,?_,fun s hs=>absurd hs (by omega)⟩;rw[en_scale hs hc,if_pos rfl,inv_mul aA]
def clearStep (m:List (List UInt8)) (c r:Nat):List (List UInt8):=if r=c then m else addM m r c (en m r c)
theorem clearStep_shp (hs:Shp m n K) (hc:c<n) (hr:r<n):Shp (clearStep m c r) n K:=by
 unfold clearStep;split
 ·exact hs
 ·exact add_shp hs hr hc _
theorem w_L.step (h:w_L n c r m) (hs:Shp m n K) (hc:c<n) (hr:r<n):w_L n c (r+1) (clearStep m c r):=by
 obtain ⟨h1,h2,h3⟩:=h;unfold clearStep;by_cases e:r=c
 ·rw[if_pos e]
  exact ⟨h1,h2,fun s hs aA=>h3 s (by omega) aA⟩
 ·rw[if_neg e]
  refine ⟨fun i j hi hj=>?_,?_,fun s Bs aA=>?_⟩
  ·rw[en_add hs hr hc]
   by_cases e1:i=r
   ·rw[if_pos e1,h1 c j hc hj]
    have:dl c j=0:=by unfold dl;rw[if_neg (by omega)]
    rw[this,z_3,xor_zero,e1];exact h1 r j hr hj
   ·rw[if_neg e1];exact h1 i j hi hj
  ·rw[en_add hs hr hc,if_neg (fun h=>e h.symm)];exact h2
  ·rw[en_add hs hr hc]
   by_cases e1:s=r
   ·rw[if_pos e1,h2,mul_one,UInt8.xor_self]
   ·rw[if_neg e1];exact h3 s (by omega) aA
theorem w_L.done (h:w_L n c n m):Unit n (c+1) m:=by
 obtain ⟨h1,h2,h3⟩:=h;intro r j hr hj;by_cases e:j=c
 ·subst e
  by_cases e2:r=j
  ·subst e2;rw[h2];unfold dl;rw[if_pos rfl]
  ·rw[h3 r hr e2];unfold dl;rw[if_neg e2]
 ·exact h1 r j hr (by omega)
theorem Steps.clearStep {A:List (List UInt8)} (h:Steps n A m) (hc:c<n) (hr:r<n):Steps n A (clearStep m c r):=by
 unfold GfM.clearStep;split
 ·exact h
 ·rename_i e;exact h.add hr hc e
end
inductive InvOut (A:List (List UInt8)) (n:Nat):List (List UInt8)->Int->Prop
 | sing {m c}:Steps n (aug A n) m->c<n->Unit n c m->(∀r,c<=r->r<n->en m r c=0)->InvOut A n [] 6
 | ok {m}:Steps n (aug A n) m->Unit n n m->InvOut A n ((List.range n).map fun r=>(m.getD r []).drop n) 0
theorem aug_set (x:List UInt8) (n r:Nat) (hx:x.length=n):(x++List.replicate n 0).set (n+r) 1=x++y_2 n r:=by
 unfold y_2;rw[List.set_append_right _ _ (by omega),hx,show n+r-n=r by omega]
end Go.Proofs.YtdkheklakfbeeaaGreatDoor.GfM
end
namespace Go.Proofs.YtdkheklakfbeeaaGreatDoor
open Go.RowKit Tryz
section
open GfM
theorem invc_any (w:World) (x:Value) (l:List UInt8) (hx:z_g w x (bv l)) (a:Addr) (c:Nat) (ha:w.cell? a=some (.int .i64 c)) (hc:c<l.length) :
  Cl 216 #[x,.pointer (some a)] w fun e w'=>e=.returned (.bool (decide (l.getD c 0≠0)))/\w=w':=by
 have aq:=hx.len;rw[z_D] at aq;obtain ⟨A,k,rfl,h1,h2,aa⟩:=hx.shape;obtain ⟨b,off,rfl,bf⟩:=aa (by omega);have eO:=bf c hc
 have hd:(decide (l.getD c 0≠0))=((((l.getD c 0).toNat:Nat):Int) != 0):=by
  by_cases h:l.getD c 0=0
  ·rw[h];rfl
  ·have h3:=v_E h
   rw[decide_eq_true (by simpa using h),eq_comm,bne_iff_ne];omega
 rw[hd];generalize l.getD c 0=u at *;generalize l.length=n at *;clear aa bf hx hd;go_enter func216,ntmps216;go_wp2;go_ret;exact ⟨rfl,rfl⟩
theorem OM.from_ {w:World} {base G n:Nat} {row:Nat->List UInt8} (h:OM w base G n n row) (hn:n<=1000) (c:Nat) (hc:c<n) :
  ∃xs:List Value,xs.length=n-c/\z_g w (.slice (some ⟨G,c,none⟩) ((n-c:Nat):Int).toNat ((n-c:Nat):Int).toNat) xs/\∀r,r<n-c->z_g w (xs.getD r undef) (bv (row (c+r))):=by
 obtain ⟨h1,h2,gs,ks,h3,h4,h5⟩:=h;rw[Int.toNat_natCast];refine ⟨(y_z n n row gs ks).toList.drop c,by rw[List.length_drop,Array.length_toList,z_U],?_,fun r hr=>?_⟩
 ·refine ⟨some ⟨G,c,none⟩,n-c,by rw[List.length_drop,Array.length_toList,z_U],by rw[List.length_drop,Array.length_toList,z_U];exact q_e _,by omega,fun _=>⟨G,c,rfl,fun j hj=>?_⟩⟩
  rw[h3.cell,List.getElem?_drop,Array.getElem?_toList]
 ·rw[q_a,List.getElem?_drop,Array.getElem?_toList,y_G _ _ _ _ _ _ (by omega),if_pos (by omega)]
  exact (h4 (c+r) (by omega)).2.reads
theorem find_any {w:World} {base G n:Nat} {row:Nat->List UInt8} (h:OM w base G n n row) (hn:n<=1000) (c:Nat) (hc:c<n) (hK:∀r,r<n->c<(row r).length) (p:Nat) (hp:Blk w p 3 #[.int .i64 c]) :
  Cl 215 #[.slice (some ⟨G,c,none⟩) (n-c) (n-c),.func (.func 216) #[] #[.pointer (some ⟨p,0,none⟩)]] w fun e w'=>e=.returned (.int .i64 (y_e (n-c) (fun r=>decide ((row (c+r)).getD c 0≠0)) 0))/\w=w':=by
 obtain ⟨xs,hl,hx,hr⟩:=h.from_ hn c hc;rw[Int.toNat_natCast] at hx;have:=index_invert w _ xs hx ⟨p,0,none⟩ (fun r=>decide ((row (c+r)).getD c 0≠0)) (fun r kV=>invc_any w _ _ (hr r (by omega)) _ c (by rw[hp.cell];rfl) (hK _ (by omega)));rw[hl] at this;exact this
theorem OM.push {wr w3:World} {base G n i:Nat} {row:Nat->List UInt8} (hM:OM wr base G n i row) (hb:Below wr.heap.size wr w3) {v:Value} {l:List UInt8} (hO:Own w3 wr.heap.size 5 v (bv l)) {j:Nat} (hj:j<l.length) (hi:i<n) (x:UInt8) (row':Nat->List UInt8) (e:∀r,r<i+1->upd row i (l.set j x) r=row' r) :
  ∃g av,v=.slice (some ⟨g,0,none⟩) l.length av/\l.length<=av/\w3.cell? ⟨G,i,none⟩=some (.slice none 0 0)/\w3.frozen? ⟨G,i,none⟩=false/\G<w3.heap.size/\G<=g/\g<w3.heap.size /\
   w3.cell? ⟨g,j,none⟩=some (.int .u8 ((l.getD j 0).toNat:Int))/\w3.frozen? ⟨g,j,none⟩=false/\g≠G/\G≠g /\
   (w3.setCell ⟨G,i,none⟩ (.slice (some ⟨g,0,none⟩) l.length av)).cell? ⟨g,j,none⟩=some (.int .u8 ((l.getD j 0).toNat:Int)) /\
   (w3.setCell ⟨G,i,none⟩ (.slice (some ⟨g,0,none⟩) l.length av)).frozen? ⟨g,j,none⟩=false /\
   OM ((w3.setCell ⟨G,i,none⟩ (.slice (some ⟨g,0,none⟩) l.length av)).setCell ⟨g,j,none⟩ (.int .u8 x.toNat)) base G n (i+1) row':=by
 obtain ⟨g,av,rfl,hg,af,hc⟩:=hO.form (by rw[z_D];omega);rw[z_D] at hO hc ⊢;have pd:=hM.below hb
 have hGg:G<g:=by have:=hM.lt;omega
 have hB:=z_T.of_own hO;have h:=hM.put hb (q_e i) hi hB hg;rw[Nat.max_eq_right (by omega)] at h;obtain ⟨g',k',h1,h2,h3,_,h5,_,_,h8⟩:=h.elem i j (Nat.lt_succ_self i) (by rw[y_p];exact hj);rw[y_p] at h1 h2;have bT:=hB.far (p:=⟨G,i,none⟩) (by simp;omega) (.slice (some ⟨g,0,none⟩) l.length av)
 have e1:g'=g:=by
  obtain ⟨_,_,gs,ks,bW,_,_⟩:=pd;have hs:=(bW.set_ i (.slice (some ⟨g,0,none⟩) l.length av)).cell i;rw[h1,Array.getElem?_setIfInBounds,if_pos rfl,if_pos (by rw[z_U];exact hi)] at hs;injection hs with hs;injection hs with hs _ _;injection hs with hs;injection hs
 subst e1;refine ⟨g',av,rfl,hc,pd.nil_at i hi (q_e _),pd.frozen i,pd.lt,by omega,af,hB.cell j hj,hB.frozen j (by omega),by omega,by omega,bT.cell j hj,bT.frozen j (by omega),?_⟩;refine (h8 x).congr fun r hr=>?_;rw[<-e r hr,y_p];unfold upd;split<;>rfl
theorem OM.cell_set {w:World} {base G n i:Nat} {row:Nat->List UInt8} (h:OM w base G n i row) (a:Nat) {b:Nat} (hb:b<n) (v:Value):∃x,(w.setCell ⟨G,a,none⟩ v).cell? ⟨G,b,none⟩=some x:=by
 obtain ⟨_,_,gs,ks,h3,_⟩:=h;rw[(h3.set_ a v).cell];exact ⟨_,Array.getElem?_eq_getElem (by rw[Array.size_setIfInBounds,z_U];exact hb)⟩
theorem w64_add (a b:Nat) (h:a+b<=1000):wrap64 ((a:Int)+(b:Int))=((a+b:Nat):Int):=by unfold wrap64;omega
theorem i64_add (a b:Nat) (h:a+b<=1000):IntKind.i64.wrap ((a:Int)+(b:Int))=((a+b:Nat):Int):=by rw[q_r];omega
theorem scale_row {W:World} {base G n K:Nat} {row:Nat->List UInt8} (hM:OM W base G n n row) {c:Nat} (hc:c<n) (hK:(row c).length=K) (Bt:K<=1000) (a:UInt8) {p:Nat} {x:Value} (cJ:Blk W p 3 #[x])
  (row':Nat->List UInt8) (e:∀r,r<n->upd row c ((row c).map (mul a)) r=row' r) :
  Cl 161 #[.int .u8 (a.toNat:Nat),.string (bs (row c))] W fun e w3=>∃(s:ByteArray) (g av:Nat) (W4:World) (y:Value),e=.returned (.string s)/\w3.cell? ⟨p,0,none⟩=some x /\
   (convert 9 105 (.string s)).run prog w3=.ok (.slice (some ⟨g,0,none⟩) K av) W4/\W4.cell? ⟨p,0,none⟩=some x/\W4.cell? ⟨G,c,none⟩=some y/\W4.frozen? ⟨G,c,none⟩=false/\G<W4.heap.size /\
   (W4.setCell ⟨G,c,none⟩ (.slice (some ⟨g,0,none⟩) K av)).cell? ⟨p,0,none⟩=some x /\
   OM (W4.setCell ⟨G,c,none⟩ (.slice (some ⟨g,0,none⟩) K av)) base G n n row'/\Blk (W4.setCell ⟨G,c,none⟩ (.slice (some ⟨g,0,none⟩) K av)) p 3 #[x]/\Below base W (W4.setCell ⟨G,c,none⟩ (.slice (some ⟨g,0,none⟩) K av)):=by
 have hl:((row c).map (mul a)).length=K:=by rw[q_i,hK]
 have aj:(bs ((row c).map (mul a))).size=K:=hl;refine (scale_ba _ a rfl (bs (row c)) (row c) (z_Y _).symm (by rw[z_b,hK];omega) W).mono ?_;rintro e w3 ⟨rfl,hb⟩;have eq:=Lib.run_convert_string_bytes (P:=prog) w3 9 105 5 (bs ((row c).map (mul a))) underlying9 underlying105 underlying5;have bx:=z_T.made w3 (bs ((row c).map (mul a))) _ (z_Y _).symm (by rw[aj];omega);have fo:=Lib.bytesWorld_below w3 5 (bs ((row c).map (mul a)));have r7:=z_G hb hb.size fo;have oo:=(hM.put r7 (by omega:c<=n) hc bx hb.size).congr (row':=row') fun r hr=>e r (by omega);rw[Nat.max_eq_left (by omega),hl] at oo;rw[aj] at eq oo
 have r8:p≠G:=fun e=>by
  obtain ⟨_,_,gs,ks,h3,_⟩:=hM;unfold Blk at h3 cJ;rw[e,h3] at cJ;injection cJ with cJ;injection cJ with _ ht;exact absurd ht (by decide)
 have kH:=cJ.below r7 cJ.lt;have Rt:=kH.far (p:=⟨G,c,none⟩) r8 (.slice (some ⟨w3.heap.size,0,none⟩) K (grownCap w3 K 0 5));have Bv:=hM.below r7;obtain ⟨g1,k1,aK,_⟩:=Bv.rowAt c hc;refine ⟨_,_,_,_,_,rfl,(cJ.below hb cJ.lt).cell 0,eq,kH.cell 0,aK,Bv.frozen c,Bv.lt,Rt.cell 0,oo,Rt,(r7.mono ?_).setCell hM.1 _⟩;exact q_g hM.1 (Nat.le_of_lt hM.lt)
def cutO (n i:Nat) (gs ks:Nat->Nat):Array Value :=
 ((List.range n).map fun r=>if r<i then Value.slice (some ⟨gs r,n,none⟩) n n else .slice (some ⟨gs r,0,none⟩) (2*n) (ks r)).toArray
theorem w_m (n i:Nat) (gs ks:Nat->Nat):(cutO n i gs ks).size=n:=by simp[cutO]
theorem cutO_at (n i:Nat) (gs ks:Nat->Nat) (r:Nat) (hr:r<n) :
  (cutO n i gs ks)[r]?=some (if r<i then Value.slice (some ⟨gs r,n,none⟩) n n else .slice (some ⟨gs r,0,none⟩) (2*n) (ks r)):=by
 simp[cutO,hr]
theorem cutO_set (n i:Nat) (gs ks:Nat->Nat) (hi:i<n):(cutO n i gs ks).setIfInBounds i (.slice (some ⟨gs i,n,none⟩) n n)=cutO n (i+1) gs ks:=by
 apply Array.ext_getElem?;intro s;rw[Array.getElem?_setIfInBounds];by_cases fc:s<n
 ·rw[cutO_at _ _ _ _ _ fc,cutO_at _ _ _ _ _ fc]
  by_cases e:i=s
  ·subst e
   rw[if_pos rfl,if_pos (by rw[w_m];exact hi),if_pos (by omega)]
  ·rw[if_neg e]
   by_cases nk:s<i
   ·rw[if_pos nk,if_pos (by omega)]
   ·rw[if_neg nk,if_neg (by omega)]
 ·rw[if_neg (by omega),Array.getElem?_eq_none (by rw[w_m];omega),Array.getElem?_eq_none (by rw[w_m];omega)]
def Cuts (w:World) (base G n i:Nat) (gs ks:Nat->Nat) (m:List (List UInt8)):Prop :=
 base<=G/\Blk w G 105 (cutO n i gs ks)/\∀r,r<n->base<=gs r/\z_T w (gs r) (m.getD r []) (ks r)/\(m.getD r []).length=2*n
section
variable {w w':World} {base G n i:Nat} {m:List (List UInt8)}
theorem OM.cuts (h:OM w base G n n fun r=>m.getD r []) (hs:Shp m n (2*n)):∃gs ks,Cuts w base G n 0 gs ks m:=by
 obtain ⟨h1,h2,gs,ks,h3,h4,h5⟩:=h;refine ⟨gs,ks,h1,?_,fun r hr=>⟨(h4 r hr).1,(h4 r hr).2,hs.2 r hr⟩⟩
 have e:y_z n n (fun r=>m.getD r []) gs ks=cutO n 0 gs ks:=by
  unfold y_z cutO;congr 1;apply List.map_congr_left;intro r hr
  have hr:r<n:=by simpa using hr
  rw[if_pos hr,if_neg (by omega),hs.2 r hr]
 rwa [<-e]
variable {gs ks:Nat->Nat}
theorem Cuts.next (h:Cuts w base G n i gs ks m) (hi:i<n):w.cell? ⟨G,i,none⟩=some (.slice (some ⟨gs i,0,none⟩) (2*n) (ks i))/\w.frozen? ⟨G,i,none⟩=false/\2*n<=ks i/\ks i<=9223372036854775807/\G<w.heap.size /\
  Cuts (w.setCell ⟨G,i,none⟩ (.slice (some ⟨gs i,n,none⟩) n n)) base G n (i+1) gs ks m:=by
 obtain ⟨h1,h2,h3⟩:=h;obtain ⟨_,hB,hl⟩:=h3 i hi;refine ⟨by rw[h2.cell,cutO_at _ _ _ _ _ hi,if_neg (by omega)],h2.frozen i,by have:=hB.1;omega,hB.2.1,h2.lt,h1,?_,fun r hr=>⟨(h3 r hr).1,?_,(h3 r hr).2.2⟩⟩
 ·have:=h2.set_ i (.slice (some ⟨gs i,n,none⟩) n n)
  rwa [cutO_set _ _ _ _ hi] at this
 ·exact (h3 r hr).2.1.far (z_T.ne_ (h3 r hr).2.1 h2 (by decide)) _
theorem Cuts.drew (h:Cuts w base G n i gs ks m):Cuts w.drew base G n i gs ks m:=h
theorem Cuts.done (h:Cuts w base G n n gs ks m) (hn:n<=1000):x_h w (.slice (some ⟨G,0,none⟩) n n) ((List.range n).map fun r=>(m.getD r []).drop n):=by
 obtain ⟨h1,h2,h3⟩:=h
 have aq:((List.range n).map fun r=>(m.getD r []).drop n).length=n:=by simp
 refine ⟨(cutO n n gs ks).toList,by rw[Array.length_toList,w_m,aq],?_,fun r hr=>?_⟩
 ·refine ⟨some ⟨G,0,none⟩,n,by rw[Array.length_toList,w_m],by rw[Array.length_toList,w_m];exact q_e _,by omega,fun _=>⟨G,0,rfl,fun j hj=>?_⟩⟩
  rw[q_D,h2.cell];simp
 ·have lV:r<n:=by omega
  obtain ⟨_,hB,hl⟩:=h3 r lV;rw[q_a,Array.getElem?_toList,cutO_at _ _ _ _ _ lV,if_pos lV]
  have e:((List.range n).map fun r=>(m.getD r []).drop n).getD r []=(m.getD r []).drop n:=by
   rw[q_a,q_j,q_n lV];rfl
  rw[e]
  have hd:((m.getD r []).drop n).length=n:=by rw[List.length_drop];omega
  refine ⟨some ⟨gs r,n,none⟩,n,by rw[z_D,hd];rfl,by rw[z_D,hd];exact q_e _,by omega,fun _=>⟨gs r,n,rfl,fun j hj=>?_⟩⟩;rw[z_D,hd] at hj;rw[hB.cell (n+j) (by omega),bv_at _ _ (by rw[hd];exact hj)];congr 4;simp only[q_a,List.getElem?_drop]
end
inductive InvR (A:List (List UInt8)):List (List UInt8)->Int->Prop
 | bad:y_r A=false->InvR A [] 4
 | shape:y_r A=true->A.length≠(A.getD 0 []).length->InvR A [] 7
 | done {X e}:y_r A=true->A.length=(A.getD 0 []).length->InvOut A A.length X e->InvR A X e
end
section
open GfM
theorem opsS_0:z_j ((Tryz.f157.body.bind (z_q 21)).getD #[]) 0 (.move (.tmp 5)) (some 93):=by unfold z_j;kernel_rfl
theorem opsS_1:z_j ((Tryz.f157.body.bind (z_q 21)).getD #[]) 1 (.load 3 (.tmp 7)) (some 94):=by unfold z_j;kernel_rfl
theorem opsS_2:z_j ((Tryz.f157.body.bind (z_q 21)).getD #[]) 2 (.move (.tmp 9)) (some 95):=by unfold z_j;kernel_rfl
theorem opsS_3:z_j ((Tryz.f157.body.bind (z_q 21)).getD #[]) 3 (.move (.tmp 5)) (some 96):=by unfold z_j;kernel_rfl
theorem opsS_4:z_j ((Tryz.f157.body.bind (z_q 21)).getD #[]) 4 (.load 3 (.tmp 7)) (some 97):=by unfold z_j;kernel_rfl
theorem opsS_5:z_j ((Tryz.f157.body.bind (z_q 21)).getD #[]) 5 (.indexAddr 251 (.tmp 96) (.tmp 97)) (some 98):=by unfold z_j;kernel_rfl
theorem opsS_6:z_j ((Tryz.f157.body.bind (z_q 21)).getD #[]) 6 (.load 105 (.tmp 98)) (some 99):=by unfold z_j;kernel_rfl
theorem opsS_7:z_j ((Tryz.f157.body.bind (z_q 21)).getD #[]) 7 (.convert 105 9 (.tmp 99)) (some 100):=by unfold z_j;kernel_rfl
theorem opsS_8:z_j ((Tryz.f157.body.bind (z_q 21)).getD #[]) 8 (.call { callee:=.value (.func 161),args:=#[.tmp 95,.tmp 100],argTypes:=#[5,9] }) (some 101):=by unfold z_j;kernel_rfl
theorem opsS_9:z_j ((Tryz.f157.body.bind (z_q 21)).getD #[]) 9 (.convert 9 105 (.tmp 101)) (some 102):=by unfold z_j;kernel_rfl
theorem opsS_10:z_j ((Tryz.f157.body.bind (z_q 21)).getD #[]) 10 (.indexAddr 251 (.tmp 93) (.tmp 94)) (some 103):=by unfold z_j;kernel_rfl
theorem opsS_11:z_j ((Tryz.f157.body.bind (z_q 21)).getD #[]) 11 (.store 105 (.tmp 103) (.tmp 102)) none:=by unfold z_j;kernel_rfl
section
variable {ρ:Operand->Value} {w:World} {o:Oper}
theorem ex_load3 {x:Operand} (h:o.op=.load 3 x) {p:Addr} {v:Value} (hx:ρ x=.pointer (some p)) (hc:w.cell? p=some v):(execOp ρ o).run prog w=.ok (.value v) w:=by
 unfold execOp;rw[h];simp only[hx];go_simp
theorem ex_loadB {x:Operand} (h:o.op=.load 105 x) {p:Addr} {v:Value} (hx:ρ x=.pointer (some p)) (hc:w.cell? p=some v):(execOp ρ o).run prog w=.ok (.value v) w:=by
 unfold execOp;rw[h];simp only[hx];go_simp
theorem ex_ixM {x y:Operand} (h:o.op=.indexAddr 251 x y) {G c n k:Nat} (hx:ρ x=.slice (some ⟨G,0,none⟩) n k) (hy:ρ y=.int .i64 c) (hc:(c:Int)<(n:Int)):(execOp ρ o).run prog w=.ok (.value (.pointer (some ⟨G,c,none⟩))) w:=by
 unfold execOp;rw[h];simp only[hx,hy];go_simp
theorem ex_conv {s d:TypeId} {x:Operand} (h:o.op=.convert s d x) {u v:Value} {w':World} (hx:ρ x=u) (hc:(convert s d u).run prog w=.ok v w'):(execOp ρ o).run prog w=.ok (.value v) w':=by
 unfold execOp;rw[h];simp only[hx];simp only[Sem.run_bind,Sem.run_pure,hc,Result.andThen_ok]
theorem ex_storeB {x y:Operand} (h:o.op=.store 105 x y) {p:Addr} {u:Value} {A:Option Addr} {n k:Nat} (hx:ρ x=.pointer (some p)) (hy:ρ y=.slice A n k) (hc:w.cell? p=some u) (hf:w.frozen? p=false):(execOp ρ o).run prog w=.ok .skip (w.setCell p (.slice A n k)):=by
 unfold execOp;rw[h];simp only[hx,hy];go_simp
theorem ex_scale {x y:Operand} (h:o.op=.call { callee:=.value (.func 161),args:=#[x,y],argTypes:=#[5,9] }) {u v:Value} (hf:ρ (.func 161)=.func (.func 161) #[] #[]) (hx:ρ x=u) (hy:ρ y=v):(execOp ρ o).run prog w=.ok (.enter 161 #[u,v]) w:=by
 unfold execOp;rw[h];simp only[resolve,hf];go_simp
end
def frS (a:Act) (Mw Mx My Mz MA MB MD yh yi yj yk:Value):Act:=(((((((((((a.put (some 93) Mw).put (some 95) My).put (some 96) Mz).put (some 94) Mx).put (some 97) MA).put (some 98) MB).put (some 99) MD).put (some 100) yh).put (some 101) yi).put (some 102) yj).put (some 103) yk)
theorem region_scale {ah:Array Oper} (mq:ah=((Tryz.f157.body.bind (z_q 21)).getD #[])) (Q:Exit->Act->World->Prop) (hQ:∀c (a:Act) d v w,Q (.panic c) (a.put d v) w->Q (.panic c) a w) (a:Act) (W:World) (aj:a.tmps.size=136) (G n c p:Nat) (vy:c<n) (iv:UInt8) (s1:ByteArray)
  (h5:a.eval (.tmp 5)=.slice (some ⟨G,0,none⟩) n n) (h7:a.eval (.tmp 7)=.pointer (some ⟨p,0,none⟩)) (h9:a.eval (.tmp 9)=.int .u8 iv.toNat) (ME:Value)
  (vz:W.cell? ⟨p,0,none⟩=some (.int .i64 c)) (ae:W.cell? ⟨G,c,none⟩=some ME) (eq:(convert 105 9 ME).run prog W.drew=.ok (.string s1) W.drew)
  (R:World->Prop)
  (r9:Cl 161 #[.int .u8 (iv.toNat:Nat),.string s1] W.drew fun e w3=>∃(s:ByteArray) (A:Option Addr) (n1 k1:Nat) (W4:World) (y:Value),e=.returned (.string s)/\w3.cell? ⟨p,0,none⟩=some (.int .i64 c) /\
   (convert 9 105 (.string s)).run prog w3=.ok (.slice A n1 k1) W4/\W4.cell? ⟨p,0,none⟩=some (.int .i64 c)/\W4.cell? ⟨G,c,none⟩=some y/\W4.frozen? ⟨G,c,none⟩=false /\
   (W4.setCell ⟨G,c,none⟩ (.slice A n1 k1)).cell? ⟨p,0,none⟩=some (.int .i64 c)/\R (W4.setCell ⟨G,c,none⟩ (.slice A n1 k1)))
  (aO:∀Mw Mx My Mz MA MB MD yh yi yj yk w',R w'->Q .normal (frS a Mw Mx My Mz MA MB MD yh yi yj yk) w') :
  (Code.region 21 ah true).wp prog Q a W:=by
 subst mq
 have ev:Region.noSelect ((Tryz.f157.body.bind (z_q 21)).getD #[])=true:=by kernel_rfl
 have hi:(c:Int)<(n:Int):=by omega
 have ft:((Tryz.f157.body.bind (z_q 21)).getD #[]).size=12:=by kernel_rfl
 refine wp_region_held (S:=fun w'=>w'.cell? ⟨p,0,none⟩=some (.int .i64 c)) (by kernel_rfl) ?_;rw[ft];have fv:W.drew.cell? ⟨p,0,none⟩=some (.int .i64 c):=vz;show wpAnyH _ _ _ _ _ _ _ _ W.drew;refine z_K 0 _ _ (.slice (some ⟨G,0,none⟩) n n) opsS_0 ev (by kernel_rfl) (by kernel_rfl) hQ (fun w o hS ho=>y_i ho h5) fv ?_;refine z_K 2 _ _ (.int .u8 iv.toNat) opsS_2 ev (by kernel_rfl) (by kernel_rfl) hQ (fun w o hS ho=>y_i ho ((z_a (by decide)).trans h9)) fv ?_;refine z_K 3 _ _ (.slice (some ⟨G,0,none⟩) n n) opsS_3 ev (by kernel_rfl) (by kernel_rfl) hQ (fun w o hS ho=>y_i ho ((z_a (by decide)).trans ((z_a (by decide)).trans h5))) fv ?_;refine z_K 1 _ _ (.int .i64 c) opsS_1 ev (by kernel_rfl) (by kernel_rfl) hQ (fun w o hS ho=>ex_load3 ho ((z_a (by decide)).trans ((z_a (by decide)).trans ((z_a (by decide)).trans h7))) hS) fv ?_;refine z_K 4 _ _ (.int .i64 c) opsS_4 ev (by kernel_rfl) (by kernel_rfl) hQ (fun w o hS ho=>ex_load3 ho ((z_a (by decide)).trans ((z_a (by decide)).trans ((z_a (by decide)).trans ((z_a (by decide)).trans h7)))) hS) fv ?_;refine z_K 5 _ _ (.pointer (some ⟨G,c,none⟩)) opsS_5 ev (by kernel_rfl) (by kernel_rfl) hQ (fun w o hS ho=>ex_ixM ho ((z_a (by decide)).trans ((z_a (by decide)).trans (z_d (by simp only[z_f,aj];decide)))) (z_d (by simp only[z_f,aj];decide)) hi) fv ?_;refine w_F 6 _ _ (ME) W.drew opsS_6 (by kernel_rfl) (fun o ho=>ex_loadB ho (z_d (by simp only[z_f,aj];decide)) ae) fv ?_;refine w_F 7 _ _ (.string s1) W.drew opsS_7 (by kernel_rfl) (fun o ho=>ex_conv ho (z_d (by simp only[z_f,aj];decide)) eq) fv ?_;refine rg_call 8 _ _ _ _ opsS_8 (by kernel_rfl) (fun o ho=>ex_scale ho rfl ((z_a (by decide)).trans ((z_a (by decide)).trans ((z_a (by decide)).trans ((z_a (by decide)).trans ((z_a (by decide)).trans ((z_a (by decide)).trans (z_d (by simp only[z_f,aj];decide)))))))) (z_d (by simp only[z_f,aj];decide))) ?_;refine r9.mono ?_;rintro e w3 ⟨s2,A1,n1,k1,W4,y,rfl,t1,t2,t3,t4,t5,t6,t7⟩;refine ⟨_,rfl,t1,?_⟩;refine w_F 9 _ _ (.slice A1 n1 k1) W4 opsS_9 (by kernel_rfl) (fun o ho=>ex_conv ho (z_d (by simp only[z_f,aj];decide)) t2) t3 ?_;refine w_F 10 _ _ (.pointer (some ⟨G,c,none⟩)) W4 opsS_10 (by kernel_rfl) (fun o ho=>ex_ixM ho ((z_a (by decide)).trans ((z_a (by decide)).trans ((z_a (by decide)).trans ((z_a (by decide)).trans ((z_a (by decide)).trans ((z_a (by decide)).trans ((z_a (by decide)).trans ((z_a (by decide)).trans ((z_a (by decide)).trans (z_d (by simp only[z_f,aj];decide))))))))))) ((z_a (by decide)).trans ((z_a (by decide)).trans ((z_a (by decide)).trans ((z_a (by decide)).trans ((z_a (by decide)).trans ((z_a (by decide)).trans (z_d (by simp only[z_f,aj];decide)))))))) hi) t3 ?_;refine rg_store 11 _ (W4.setCell ⟨G,c,none⟩ (.slice A1 n1 k1)) opsS_11 (by kernel_rfl) (fun o ho=>ex_storeB ho (z_d (by simp only[z_f,aj];decide)) ((z_a (by decide)).trans (z_d (by simp only[z_f,aj];decide))) t4 t5) t6 ?_
 exact wpAnyH_done (by kernel_rfl) (aO _ _ _ _ _ _ _ _ _ _ _ _ t7) _
end
end Go.Proofs.YtdkheklakfbeeaaGreatDoor
