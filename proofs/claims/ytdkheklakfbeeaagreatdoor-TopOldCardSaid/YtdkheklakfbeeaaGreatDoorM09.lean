/- Part 9 of the proof. -/
import Derived.StillTailTactics
import Derived.Laws.IdiomCopy
import Derived.Lib.AppendStr
import Derived.ArgAppend
import Derived.RowKit3
import Derived.WideLaws
import Derived.Lib.SliceRun
import Derived.Test.YtdkheklakfbeeaaGreatDoorM08
set_option linter.all false
set_option maxRecDepth 100000
set_option maxHeartbeats 16000000
namespace Go.Proofs.YtdkheklakfbeeaaGreatDoor
open Go.RowKit Tryz
variable {G base c n:Nat}{row:Nat->List UInt8}{v:Value}{w w':W_}
def zk:prog.underlying 3=some (.int .i64):=k_
def sY:Maps.Keyed prog 3:=Maps.int_keyed zk
noncomputable abbrev KI:KM prog 3 Nat:=KInt prog 3 zk
def sa:prog.underlying 35=some (.map 3 4):=k_
def Ck (w:W_):(zeroValue 4).run prog w=.ok (.bool false) w:=zeroValue4 w
def AX (j:Nat):Nat->Option Value:=fun x=>if x<j then some (.bool true) else none
def RT (j:Nat):lu (AX j) j (.bool true)=AX (j+1):=by
 funext x;unfold lu AX;by_cases e:x=j
 ·subst e;rw[if_pos rfl,if_pos o_]
 rw[if_neg e];by_cases h:x<j
 ·rw[if_pos h,if_pos o_]
 rw[if_neg h,if_neg o_]
def K1 (j:Nat):e8 (List.range j) j=List.range (j+1):=by
 unfold e8;rw[if_neg s_,List.range_succ]
def IN:AX 0=fun _=>none:=by funext x;simp[AX]
section
variable {S:cj} {vs vm:Value}
def ja.seatAt (h:ja w S vs vm) (k:Kp ac w w') {g:Option Addr} {cs:Nat} (hm:vs=.slice g (S.data+2) cs):∃e off,g=some ⟨e,off,none⟩/\∀i,i<S.data+2->w'.cell? ⟨e,off+i,none⟩=some (.int .i64 i):=by
 obtain ⟨A,c,j,_,_,n⟩:=(h.no k).1;subst hm
 have hl:(zv (v7 S)).length=S.data+2:=by rw[iF,v7,zH]
 rw[hl] at j;cases j;obtain ⟨e,off,rfl,m⟩:=n o_;refine ⟨e,off,rfl,fun i l=>?_⟩;rw[m i o_,oP _ _ (by rw[v7,zH];exact l)];simp[v7,be,l]
def Kz (M:a7 S) (h:ja w S vs vm) :
  Cl 166 #[.agg (dK S vs vm)] w fun e w'=>e=.returned (.bool true)/\Kp ac w w':=by
 have p:=Zz (ab.new w 60 (dK S vs vm));have r:=Zz ((Kp.refl ac w).alloc (.cells (dK S vs vm) 60));obtain ⟨x6,cs,Am,cm,V,T⟩:=h.shape;have X:=M.n1;have h4:=M.n12;obtain ⟨E,off,x2,_⟩:=h.memAt (Kp.refl _ _) T o_;subst x2;obtain ⟨I,J,x4,_⟩:=h.seatAt (Kp.refl _ _) V;subst x4;have H0:=Zz (fun w' (k:Kp ac w w')=>h.memAt k T o_);have Y:=Zz (fun w' (k:Kp ac w w')=>h.seatAt k V);have R:=Zz M.mem;subst V T;clear h M;obtain ⟨count,epoch,d,s,mem⟩:=S
 dsimp only at X h4 p r H0 Y R ⊢
 obtain ⟨n,hn⟩:∃n,mem.length=n:=⟨_,rfl⟩;have H2:=Zz hn;have p:Hid (ab (w.alloc (.cells #[.int .u64 count,.int .u64 epoch,.int .i64 d,.int .i64 s,.int .i64 0,.int .i64 0,.bool false,.slice (some ⟨I,J,none⟩) (d+2) cs,.slice (some ⟨E,off,none⟩) mem.length cm] 60)) w.heap.size 60 #[.int .u64 count,.int .u64 epoch,.int .i64 d,.int .i64 s,.int .i64 0,.int .i64 0,.bool false,.slice (some ⟨I,J,none⟩) (d+2) cs,.slice (some ⟨E,off,none⟩) mem.length cm]):=p;have r:Hid (Kp ac w (w.alloc (.cells #[.int .u64 count,.int .u64 epoch,.int .i64 d,.int .i64 s,.int .i64 0,.int .i64 0,.bool false,.slice (some ⟨I,J,none⟩) (d+2) cs,.slice (some ⟨E,off,none⟩) mem.length cm] 60))):=r;change Cl 166 #[.agg #[.int .u64 count,.int .u64 epoch,.int .i64 d,.int .i64 s,.int .i64 0,.int .i64 0,.bool false,.slice (some ⟨I,J,none⟩) (d+2) cs,.slice (some ⟨E,off,none⟩) mem.length cm]] w _;rw[hn] at p r X h4 ⊢;clear hn
 have H1:IntKind.i64.wrap ((d:Int)+2)=((d+2:Nat):Int):=by rw[eM];omega
 obtain ⟨m,hm⟩:∃m,d+2=m:=⟨_,rfl⟩;rw[hm] at H1 p r X Y R ⊢;have x9:=Zz hm;have y0:n<100:=o_;clear hm;have nB:=@run_makeMap prog;have x7:=Ck;go_enter func166,ntmps166
 go_upto_region 1 with fail
 generalize H3:w.alloc (.cells #[.int .u64 count,.int .u64 epoch,.int .i64 d,.int .i64 s,.int .i64 0,.int .i64 0,.bool false,.slice (some ⟨I,J,none⟩) m cs,.slice (some ⟨E,off,none⟩) n cm] 60)=u at *;clear H3;generalize w.heap.size=G at *;have H6:=p.o.c2;have H7:=p.o.c6;have U:=p.o.c7
 go_upto_region 7 with fail
 have C:Hid (aS KI (u.alloc (.map #[] 0)) u.heap.size (AX 0) (List.range 0)):=Zz (by rw[IN];exact aS.made u);have Q:=Zz ((Kp.refl ac u).alloc (.map #[] 0));clear H6 H7 U;generalize H9:u.alloc (.map #[] 0)=w2 at *;clear H9;have h2:=Zz (p.o.kp Q.o fun h=>h);have U:=h2.o.c7;obtain ⟨B,h0⟩:∃B,u.heap.size=B:=⟨_,rfl⟩;rw[h0] at C ⊢;have x0:=Zz h0;clear h0
 go_upto_region 8 with fail
 clear U
 go_loopw [6,25] (fun _ H wr=>∃i:Nat,i<=m/\H=.int .i64 i/\Hid (aS KI wr B (AX i) (List.range i))/\Hid (Kp ac u wr)) (fun _ H _=>m-(intOf H).toNat)
 case atStart=>exact ⟨0,o_,rfl,C,Q⟩
 case round =>
  clear C Q h2;obtain ⟨i,y7,rfl,P,y⟩:=hrel;have h8:=Zz (p.o.kp y.o fun h=>h);have H8:=h8.o.c8;by_cases H4:i<m
  ·have y5:(i:Int)<(m:Int):=o_
   obtain ⟨y1,y2,W,z⟩:=Y.o wr (r.o.trans y.o);cases W;have N:=z i H4
   have g:(Instr.lookup 35 (.map (some B)) (.int .i64 i) false).run prog wr=.ok (.bool false) wr:=by
    have:=(P.o.look sY sa (Ck wr) (a:=i) (show i<=100000 by omega)).1
    rwa [show (AX i i).getD (.bool false)=.bool false by simp[AX]] at this
   obtain ⟨w3,h9,F,h3⟩:=P.o.put sY sa (by rw[zH];simp only[maxLen];omega) (a:=i) (show i<=100000 by omega) (.bool true);replace h9:(Instr.mapUpdate 35 (.map (some B)) (.int .i64 i) (.bool true)).run prog wr=.ok () w3:=h9;rw[RT,K1] at F;have x5:=Zz F;have H5:=Zz (y.o.then h3 fun q y9 e=>(by have:=x0.o;have e:q=B:=e;omega:False));have x1:¬((i:Int)<0):=o_;have j2:¬((n:Int)<=(i:Int)):=o_;have j3:decide ((i:Int)<0)=false:=h_ x1;have j4:decide (n<=i)=false:=h_ o_;clear z F h3;go_wp2;go_roundw
   case rel=>exact ⟨i+1,o_,by go_num,x5,H5⟩
   case measure=>simp[intOf];omega
  obtain rfl:i=m:=o_
  go_upto_region 15 with fail
  clear H8 h8
  go_loopw [7,8,49] (fun _ _ h1 wr=>∃j:Nat,j<=n/\h1=.int .i64 j/\Hid (aS KI wr B (AX i) (List.range i))/\Hid (Kp ac u wr)) (fun _ _ h1 _=>n-(intOf h1).toNat)
  case atStart=>exact ⟨0,o_,rfl,P,y⟩
  case round =>
   clear P y;obtain ⟨j,y8,rfl,x,v⟩:=hrel;by_cases x3:j<n
   ·have x8:(j:Int)<(n:Int):=o_
    have c:j<mem.length:=by rw[H2.o];exact x3
    obtain ⟨nz,y6,W,z⟩:=H0.o wr (r.o.trans v.o);cases W;obtain ⟨N,Z,A⟩:=z j c;obtain ⟨_,_,K,L⟩:=R.o j c;have K:=Zz K;have L:=Zz L;clear z;generalize (mem[j]'c).st=st at *;generalize (mem[j]'c).top=l at *;generalize (mem[j]'c).log=lg at *;have y3:(true==false)=false:=rfl;have y4:(false==true)=false:=rfl;by_cases O:j<i
    ·rcases K.o O with rfl|rfl
     ·have h5:((1:Int) != 2)=true:=d_
      have h6:((1:Int)==0)=false:=d_;have f:=Zz (ab.new wr 108 #[.int .i64 1,.string l,.string lg]);have b:=Zz (v.o.alloc (.cells #[.int .i64 1,.string l,.string lg] 108));have t:=Zz (x.o.alloc (.cells #[.int .i64 1,.string l,.string lg] 108))
      go_upto_region 17 with fail
      clear N Z A v x;generalize wr.alloc (.cells #[.int .i64 1,.string l,.string lg] 108)=o at *;generalize wr.heap.size=D at *;have h7:=f.o.c0;have g:=(t.o.look sY sa (Ck o) (a:=j) (show j<=100000 by omega)).1;replace g:(Instr.lookup 35 (.map (some B)) (.int .i64 j) false).run prog o=.ok ((AX i j).getD (.bool false)) o:=g;rw[show (AX i j).getD (.bool false)=.bool true by simp[AX,O]] at g;go_wp2;go_roundw
      case rel=>exact ⟨j+1,o_,by go_num,t,b⟩
      case measure=>simp[intOf];omega
     have h5:((2:Int) != 2)=false:=d_;have h6:((2:Int)==0)=false:=d_;have f:=Zz (ab.new wr 108 #[.int .i64 2,.string l,.string lg]);have b:=Zz (v.o.alloc (.cells #[.int .i64 2,.string l,.string lg] 108));have t:=Zz (x.o.alloc (.cells #[.int .i64 2,.string l,.string lg] 108))
     go_upto_region 17 with fail
     clear N Z A v x;generalize wr.alloc (.cells #[.int .i64 2,.string l,.string lg] 108)=o at *;generalize wr.heap.size=D at *;have h7:=f.o.c0;have g:=(t.o.look sY sa (Ck o) (a:=j) (show j<=100000 by omega)).1;replace g:(Instr.lookup 35 (.map (some B)) (.int .i64 j) false).run prog o=.ok ((AX i j).getD (.bool false)) o:=g;rw[show (AX i j).getD (.bool false)=.bool true by simp[AX,O]] at g;go_wp2;go_roundw
     case rel=>exact ⟨j+1,o_,by go_num,t,b⟩
     case measure=>simp[intOf];omega
    obtain rfl:=L.o o_;have h5:((0:Int) != 2)=true:=d_;have h6:((0:Int)==0)=true:=d_;have f:=Zz (ab.new wr 108 #[.int .i64 0,.string l,.string lg]);have b:=Zz (v.o.alloc (.cells #[.int .i64 0,.string l,.string lg] 108));have t:=Zz (x.o.alloc (.cells #[.int .i64 0,.string l,.string lg] 108))
    go_upto_region 17 with fail
    clear N Z A v x;generalize wr.alloc (.cells #[.int .i64 0,.string l,.string lg] 108)=o at *;generalize wr.heap.size=D at *;have h7:=f.o.c0;have g:=(t.o.look sY sa (Ck o) (a:=j) (show j<=100000 by omega)).1;replace g:(Instr.lookup 35 (.map (some B)) (.int .i64 j) false).run prog o=.ok ((AX i j).getD (.bool false)) o:=g;rw[show (AX i j).getD (.bool false)=.bool false by simp[AX,O]] at g;go_wp2;go_roundw
    case rel=>exact ⟨j+1,o_,by go_num,t,b⟩
    case measure=>simp[intOf];omega
   obtain rfl:j=n:=o_;go_wp2;go_ret;exact ⟨rfl,r.o.trans v.o⟩
def hA (x:a7 S) (h:ja w S vs vm) :
  Cl 108 #[.agg (dK S vs vm)] w fun e w'=>e=.returned (.bool true)/\Kp ac w w':=by
 have i:=Zz (ab.new w 60 (dK S vs vm));have j:=Zz ((Kp.refl ac w).alloc (.cells (dK S vs vm) 60));have f:=Zz (fun W (k:Kp ac w W)=>Lh x (h.no k));have E:=Zz (fun W (k:Kp ac w W)=>zE x (h.no k));have I:=Zz (fun W (k:Kp ac w W)=>Kz x (h.no k));obtain ⟨g,cs,Am,cm,U,T⟩:=h.shape;subst U T;clear h x;obtain ⟨count,epoch,d,s,mem⟩:=S
 dsimp only at i j f E I ⊢
 generalize mem.length=n at *;generalize N:dK ⟨count,epoch,d,s,mem⟩ (.slice g (d+2) cs) (.slice Am n cm)=O at *;have V:O=#[.int .u64 count,.int .u64 epoch,.int .i64 d,.int .i64 s,.int .i64 0,.int .i64 0,.bool false,.slice g (d+2) cs,.slice Am n cm]:=N.symm;clear N;subst V;go_enter func108,ntmps108
 go_upto_region 1 with fail
 generalize Q:w.alloc (.cells #[.int .u64 count,.int .u64 epoch,.int .i64 d,.int .i64 s,.int .i64 0,.int .i64 0,.bool false,.slice g (d+2) cs,.slice Am n cm] 60)=X at *;clear Q;generalize w.heap.size=G at *;have z:∀W,Hid (ab W G 60 #[.int .u64 count,.int .u64 epoch,.int .i64 d,.int .i64 s,.int .i64 0,.int .i64 0,.bool false,.slice g (d+2) cs,.slice Am n cm])->W.cell? ⟨G,0,none⟩=some (.int .u64 count)/\W.cell? ⟨G,1,none⟩=some (.int .u64 epoch)/\W.cell? ⟨G,2,none⟩=some (.int .i64 d)/\W.cell? ⟨G,3,none⟩=some (.int .i64 s)/\W.cell? ⟨G,4,none⟩=some (.int .i64 0)/\W.cell? ⟨G,5,none⟩=some (.int .i64 0)/\W.cell? ⟨G,6,none⟩=some (.bool false)/\W.cell? ⟨G,7,none⟩=some (.slice g (d+2) cs)/\W.cell? ⟨G,8,none⟩=some (.slice Am n cm):=fun W h=>⟨h.o.cell 0,h.o.cell 1,h.o.cell 2,h.o.cell 3,h.o.cell 4,h.o.cell 5,h.o.cell 6,h.o.cell 7,h.o.cell 8⟩;have M:=Zz z;obtain ⟨l,m,o,p,q,r,t,u,v⟩:=z X i;clear z;go_wp2_with fail;refine (f.o _ j.o).mono ?_;rintro e Y ⟨rfl,y⟩;have a:=Zz (i.o.kp y fun h=>h);have b:=Zz (j.o.trans y);clear y l m o p q r t u v i j;obtain ⟨l,m,o,p,q,r,t,u,v⟩:=M.o Y a;go_wp2_with fail;refine (E.o _ b.o).mono ?_;rintro e w3 ⟨rfl,c⟩;have P:=Zz (a.o.kp c fun h=>h);have J:=Zz (b.o.trans c);clear c l m o p q r t u v a b;obtain ⟨l,m,o,p,q,r,t,u,v⟩:=M.o w3 P;go_wp2_with fail;refine (I.o _ J.o).mono ?_;rintro e Z ⟨rfl,R⟩;go_wp2;go_ret;exact ⟨rfl,J.o.trans R⟩
end
section
open GfM
def EM (k:Nat) (x:1<=(k:Int)) (y:(k:Int)<=16) (w:W_) :
  Cl 211 #[.int .i64 k] w fun e w'=>e=.returned (.tuple #[.slice (some ⟨w.heap.size,0,none⟩) k k,.int .i64 0])/\OM w' w.heap.size w.heap.size k k (fun r=>(idM k).getD r [])/\Below w.heap.size w w':=by
  have hk:k<=16:=o_;go_enter func211,ntmps211;go_wp2_with fail;refine (v_F _ x y _).mono ?_;rintro e w' ⟨rfl,rfl⟩;go_wp2_with fail;refine (xu k k hk hk _).mono ?_;rintro e f ⟨rfl,j,p⟩;go_wp2_with fail;obtain ⟨G,hG⟩:∃G,w.heap.size=G:=⟨_,rfl⟩;rw[hG] at j ⊢;have h:=Zz hG;clear hG
  go_loopw [5,13] (fun _ l wr=>∃i:Nat,i<=k/\l=.int .i64 i/\OM wr G G k k (HI k i)/\Below w.heap.size w wr) (fun _ l _=>k-(intOf l).toNat)
  case atStart =>
   refine ⟨0,o_,rfl,j.congr fun r _=>?_,p⟩;unfold HI;rw[if_neg o_]
  case round =>
   clear j p;obtain ⟨i,b,rfl,hM,q⟩:=hrel;by_cases o:i<k
   ·obtain ⟨g,c,v,z,a,hg,d,m,_,n⟩:=hM.elem i i o (by rw[lD];exact o)
    rw[lD] at v m;have t:=(n 1).congr fun r _=>G5 k i r;have u:=Zz t;clear t n;go_wp2;go_roundw
    case rel=>exact ⟨i+1,o_,by go_num,u.o,q.setCell (by have:=h.o;simp;omega) _⟩
    case measure=>simp[intOf];omega
   obtain rfl:i=k:=o_;go_wp2;go_ret2;refine ⟨by rw[h.o];rfl,?_,q⟩;rw[h.o];refine hM.congr fun r s=>?_;rw[NK _ _ s];unfold HI;rw[if_pos s]
def tG (n k:Nat) (t:1<=(n:Int)) (u:(n:Int)<=16) (N:1<=(k:Int)) (O:(k:Int)<=16) (w:W_) :
  Cl 212 #[.int .i64 n,.int .i64 k] w fun e w'=>e=.returned (.tuple #[.slice (some ⟨w.heap.size,0,none⟩) n n,.int .i64 0])/\OM w' w.heap.size w.heap.size n n (fun r=>(vdM n k).getD r [])/\Below w.heap.size w w':=by
   have f:n<=16:=o_;have E:k<=16:=o_;go_enter func212,ntmps212;go_wp2_with fail;refine (v_F _ t u _).mono ?_;rintro e w' ⟨rfl,rfl⟩;go_wp2_with fail;refine (v_F _ N O _).mono ?_;rintro e w' ⟨rfl,rfl⟩;go_wp2_with fail;refine (xu n k f E _).mono ?_;rintro e A ⟨rfl,o,s⟩;go_wp2_with fail;obtain ⟨G,hG⟩:∃G,w.heap.size=G:=⟨_,rfl⟩;rw[hG] at o ⊢;have m:=Zz hG;clear hG
   go_loopw [7,8,21,25] (fun _ _ em _ wr=>∃i:Nat,i<=n/\em=.int .i64 i/\OM wr G G n n (Gg k i 0)/\Below w.heap.size w wr) (fun _ _ em _ _=>n-(intOf em).toNat)
   case atStart =>
    refine ⟨0,o_,rfl,o.congr fun r _=>?_,s⟩;unfold Gg;rw[if_neg o_];split
    ·unfold SD
     apply i2
     ·simp
     intro j t u;simp
    rfl
   case round =>
    clear o s;obtain ⟨i,U,rfl,hM,h⟩:=hrel;by_cases M:i<n
    ·obtain ⟨a,rfl⟩:∃a:W_,a=wr:=⟨_,rfl⟩
     go_wp2
     go_loopw [8,25] (fun _ p z=>∃c:Nat,c<=k/\p=.int .i64 c/\OM z G G n n (Gg k i c)/\Below w.heap.size w z) (fun _ p _=>k-(intOf p).toNat)
     case atStart=>exact ⟨0,o_,rfl,hM,h⟩
     case round =>
      clear hM h;obtain ⟨c,S,rfl,hM,h⟩:=hrel;by_cases l:c<k
      ·obtain ⟨g,kk,J,Q,T,hg,Z,I,_,q⟩:=hM.elem i c M (by rw[kU];exact l)
       rw[kU] at J I;have y:=(q (ex (i*c))).congr fun r _=>Qv k i c r l;have d:=Zz y;clear y q;have hp:=fun W=>zb 2 ((i*c:Nat):Int) 2 rfl W;rw[TZ] at hp;have P:i*c<=16*16:=Nat.mul_le_mul o_ o_
       have V:wrap64 ((i:Int)*(c:Int))=((i*c:Nat):Int):=by
        have e:((i:Int)*(c:Int))=((i*c:Nat):Int):=s_;rw[e];unfold wrap64;omega
       have R:IntKind.i64.wrap ((i:Int)*(c:Int))=((i*c:Nat):Int):=by
        have e:((i:Int)*(c:Int))=((i*c:Nat):Int):=s_;rw[e,eM];omega
       generalize (Gg k i c i).getD c 0=X at *;generalize ex (i*c)=x at *;generalize i*c=Y at *;have b:=Zz hp;clear hp P;go_wp2
       go_region_with (go_at_call 162;refine (b.o _).mono ?_;rintro e w' ⟨rfl,rfl⟩)
       all_goals
        go_wp2;go_roundw
        case rel=>exact ⟨c+1,o_,by go_num,d.o.drew,(h.setCell (by have:=m.o;simp;omega) _).drew⟩
        case measure=>simp[intOf];omega
      obtain rfl:c=k:=o_;go_wp2;go_roundw
      case rel=>exact ⟨i+1,o_,by go_num,hM.congr fun r _=>G2 c i r,h⟩
      case measure=>simp[intOf];omega
    obtain rfl:i=n:=o_;go_wp2;go_ret2;refine ⟨by rw[m.o];rfl,?_,h⟩;rw[m.o];refine hM.congr fun r v=>?_;rw[NZ _ _ _ v];unfold Gg;rw[if_pos v,G1]
end
section
open GfM
def ih (k:Nat):List (List UInt8):=idM k++vdM 2 k
def Ry (k:Nat):(ih k).length=k+2:=by unfold ih;rw[cd,x_I,K_]
def OM.own (h:OM w base G n n row) (hn:n<=1000):∃(vs:List Value),vs.length=n/\aH w base 105 (.slice (some ⟨G,0,none⟩) n n) vs/\(∀u∈vs,u.oneCell'=true) /\
  ∀r,r<n->∃g c,vs.getD r undef=.slice (some ⟨g,0,none⟩) (row r).length c/\ev w g (row r) c:=by
 obtain ⟨m,_,e,j,o,p,_⟩:=h
 have hl:(uT n n row e j).toList.length=n:=by rw[Array.length_toList,KZ]
 refine ⟨(uT n n row e j).toList,hl,⟨s_,.inr ⟨G,n,uT n n row e j,by rw[hl],m,o,by rw[hl];exact bS _,by simp only[maxLen];omega,by rw[KZ,Nat.mul_one],?_⟩⟩,?_,fun r l=>?_⟩
 ·rw[hl,Nat.mul_one,kx (by rw[hl];exact bS _)]
 ·intro u s
  obtain ⟨i,k,q⟩:=List.getElem_of_mem s;rw[hl] at k;have:=Sx n n row e j i k;rw[if_pos k] at this;rw[<-Array.getElem?_toList,cr (by rw[hl];exact k),q] at this;injection this with this;rw[this];rfl
 refine ⟨e r,j r,?_,(p r l).2⟩;rw[be,Array.getElem?_toList,Sx _ _ _ _ _ _ l,if_pos l];rfl
def Kr:(5:Nat)≠105:=d_
def ev.own_ne {g:Nat} {l:List UInt8} {k:List Value} (h:ev w g l c) (j:aH w base 105 v k):some g≠v.ownBlock:=by
 rcases j.2 with ⟨rfl,_⟩|⟨n,m,e,rfl,_,i,_⟩
 ·simp[Value.ownBlock]
 have:=h.ne_ (t:=105) (cs:=e) i Kr;simpa[Value.ownBlock] using this
def vt (k:Nat) (V:1<=k) (X:k<=8) (w:W_) :
  Cl 155 #[.int .i64 k] w fun e w'=>∃v,e=.returned v/\lN w' v (ih k)/\Below w.heap.size w w':=by
 have ha:=EM k o_ o_ w;have hv:=fun W=>tG 2 k o_ o_ o_ o_ W;have I:=Zz ha;clear ha;have M:=Zz hv;clear hv;go_enter func155,ntmps155;go_wp2_with fail;refine (I.o).mono ?_;rintro e Y ⟨rfl,x,n⟩;go_wp2_with fail;refine (M.o _).mono ?_;rintro e Z ⟨rfl,a,j⟩;have y:=rz n n.size j;have s:=x.below j;obtain ⟨vs,m,d,_,G⟩:=s.own o_;obtain ⟨q,t,f,u,E⟩:=a.own o_
 have b:(vs.length+q.length)*24<=140737488355328:=by rw[m,t];omega
 have J:=Zz b;clear b;have i:=Zz d;clear d;have HR:=Zz f.reads;clear f;have O:=Zz u;clear u;have R:=Zz G;clear G;have T:=Zz E;clear E;clear x a s j n
 go_wp2_with (at_builtin;refine LK w.heap.size rfl (.tmp 17) (.tmp 18) 251 105 (.slice none 0 0) 24 rfl underlying251 CW rfl d_ _ vs _ q rfl rfl HR.o O.o i.o y y.size J.o ?_;intro U w3 S Q z _)
 have N:lN w3 U (ih k):=by
  refine ⟨vs++q,by rw[cd,m,t,Ry],S.reads,fun r P=>?_⟩;rw[Ry] at P;unfold ih;by_cases e:r<k
  ·obtain ⟨g,c,o,h⟩:=R.o r e
   have p:=h.grown z (h.own_ne i.o);rw[be,A3 o_,<-be,o,be (l:=idM k++vdM 2 k),A3 (by rw[x_I];exact e),<-be];exact p.reads
  obtain ⟨g,c,o,h⟩:=T.o (r-k) o_;have p:=h.grown z (h.own_ne i.o);rw[be,uS o_,m,<-be,o,be (l:=idM k++vdM 2 k),uS (by rw[x_I];omega),x_I,<-be];exact p.reads
 go_ret;exact ⟨_,rfl,N,Q⟩
end
section
open GfM
def F5 (x y:List UInt8) (f:UInt8) (c:Nat):List UInt8:=(List.range x.length).map fun j=>if j<c then x.getD j 0 ^^^ cb f (y.getD j 0) else x.getD j 0
def w_a (x y:List UInt8) (f:UInt8) (c:Nat):(F5 x y f c).length=x.length:=by simp[F5]
def Hr (x y:List UInt8) (f:UInt8) (c:Nat) (h:c<x.length):(F5 x y f c).getD c 0=x.getD c 0:=by
 unfold F5;rw[be,gq,pB h];show (if c<c then _ else _)=_;rw[if_neg (Nat.lt_irrefl c)]
def zW (x y:List UInt8) (f:UInt8):F5 x y f 0=x:=by
 unfold F5;apply i2
 ·simp
 intro j g e;simp[be,e]
def nW (x y:List UInt8) (f:UInt8) (h:x.length=y.length):F5 x y f x.length=Iz x y f:=by
 unfold F5 Iz;apply i2
 ·simp;omega
 intro j e k
 have g:j<x.length:=by simpa using e
 have i:j<y.length:=o_;simp[be,g,i]
def CM (x y:List UInt8) (f:UInt8) (c:Nat):(F5 x y f c).set c (x.getD c 0 ^^^ cb f (y.getD c 0))=F5 x y f (c+1):=by
 apply i2
 ·rw[iO,w_a,w_a]
 intro j h i;rw[List.getElem_set];simp only[F5,List.getElem_map,List.getElem_range];by_cases e:c=j
 ·subst e;rw[if_pos rfl,if_pos o_]
 rw[if_neg e];by_cases g:j<c
 ·rw[if_pos g,if_pos o_]
 rw[if_neg g,if_neg o_]
def clr (row:Nat->List UInt8) (r fr e:Nat):Nat->List UInt8:=if r=fr then row else i8 row r (Iz (row r) (row fr) ((row r).getD e 0))
def Ep (x y:List UInt8) (h:x.length=y.length):Iz x y 0=x:=by
 rw[<-nW x y 0 h];unfold F5;apply i2
 ·simp
 intro j g e;simp[be,e,zero_mul]
def yT (w:W_) (base G n K:Nat) (row:Nat->List UInt8) (hM:OM w base G n n row) (l:∀r,r<n->(row r).length=K) (r fr i:Nat) (p:r<n) (E:fr<n) (h0:i<K) (hn:n<=1000) (L:K<=1000) :
  Cl 218 #[.slice (some ⟨G,0,none⟩) n n,.int .i64 r,.int .i64 fr,.int .i64 i] w fun e w'=>e=.returned (.tuple #[])/\OM w' base G n n (clr row r fr i)/\Below base w w'/\(∀b t cs,(5:Nat)≠t->ab w b t cs->ab w' b t cs):=by
 have h5:=hM.1;obtain ⟨g,k,v,d,Q,R,S,x,_,_⟩:=hM.elem r i p (by rw[l r p];exact h0);rw[l r p] at v x;by_cases j:r=fr
 ·have m:clr row r fr i=row:=if_pos j
  rw[m]
  have hb:(((r:Nat):Int) != ((fr:Nat):Int))=false:=by rw[j];simp
  generalize (row r).getD i 0=f at *;clear j m l;go_enter func218,ntmps218;go_wp2
  go_end0
  exact ⟨rfl,hM,Below.refl _ _,fun _ _ _ _ h=>h⟩
 have m:clr row r fr i=i8 row r (Iz (row r) (row fr) ((row r).getD i 0)):=if_neg j
 have y:(row r).length=(row fr).length:=by rw[l r p,l fr E]
 have hb:(((r:Nat):Int) != ((fr:Nat):Int))=true:=by rw[bne_iff_ne];omega
 by_cases u:(row r).getD i 0=0
 ·have q:(((((row r).getD i 0).toNat:Nat):Int) != 0)=false:=by rw[u];rfl
  have C:OM w base G n n (clr row r fr i):=hM.congr fun s _=>by
   rw[m,u,Ep _ _ y];unfold i8;split
   ·rename_i h;rw[h]
   rfl
  generalize clr row r fr i=row' at *;generalize (row r).getD i 0=f at *;clear j m u y l;go_enter func218,ntmps218;go_wp2
  go_end0
  exact ⟨rfl,C,Below.refl _ _,fun _ _ _ _ h=>h⟩
 have q:(((((row r).getD i 0).toNat:Nat):Int) != 0)=true:=by
  rw[bne_iff_ne];have:=v_M u;omega
 have B:OM w base G n n (i8 row r (F5 (row r) (row fr) ((row r).getD i 0) 0)):=hM.congr fun s _=>by
  rw[zW];unfold i8;split
  ·rename_i h;rw[h]
  rfl
 have P:∀W,OM W base G n n (i8 row r (F5 (row r) (row fr) ((row r).getD i 0) K))->OM W base G n n (clr row r fr i):=fun W h=>by
  rw[m,<-nW _ _ _ y,l r p];exact h
 have O:=l r p;have N:=l fr E;have H:=Zz P;clear P m l hM;have A:=Zz j;clear j u;have a:=Zz O;clear O;have V:=Zz N;clear N y;generalize (row r).getD i 0=f at *;go_enter func218,ntmps218;go_wp2;clear v d Q R S x q hb
 go_loopw [9,29] (fun _ I wr=>∃c:Nat,c<=K/\I=.int .i64 c/\OM wr base G n n (i8 row r (F5 (row r) (row fr) f c))/\Below base w wr/\Hid (∀b t cs,(5:Nat)≠t->ab w b t cs->ab wr b t cs)) (fun _ I _=>K-(intOf I).toNat)
 case atStart=>exact ⟨0,o_,rfl,B,Below.refl _ _,Zz fun _ _ _ _ h=>h⟩
 case round =>
  clear B;obtain ⟨c,h1,rfl,hM,X,z⟩:=hrel;by_cases o:c<K
  ·obtain ⟨g,k,v,d,Q,R,S,x,U,q⟩:=hM.elem r c p (by rw[Jc,w_a,a.o];exact o)
   rw[Jc,w_a,a.o] at v x;rw[Jc,Hr _ _ _ _ (by rw[a.o];exact o)] at d;obtain ⟨h6,H0,Y,h2,h7,h8,h9,Z,_,_⟩:=hM.elem fr c E (by rw[WG _ _ (fun h=>A.o h.symm),V.o];exact o);rw[WG _ _ (fun h=>A.o h.symm)] at Y h2 Z;rw[V.o] at Y Z
   have T:=(q ((row r).getD c 0 ^^^ cb f ((row fr).getD c 0))).congr (row':=i8 row r (F5 (row r) (row fr) f (c+1))) fun s _=>by
    rw[Jc,CM];unfold i8;split<;>rfl
   have J:=fun W=>(qs _ _ f ((row fr).getD c 0) rfl rfl W).mono fun _ _ h=>(⟨h.1,h.2.symm⟩:_/\_);have M:=fun W=>(Oc ((row r).getD c 0) (cb f ((row fr).getD c 0)) W).mono fun _ _ h=>(⟨h.1,h.2.symm⟩:_/\_);generalize (row r).getD c 0 ^^^ cb f ((row fr).getD c 0)=u5 at *;generalize cb f ((row fr).getD c 0)=u4 at *;generalize (row r).getD c 0=u3 at *;generalize (row fr).getD c 0=u2 at *;have h4:=Zz J;clear J;have h3:=Zz M;clear M;have D:=Zz T;clear T q;have F:=Zz U;clear U;go_wp2
   go_still_tail 23,k_
   still_call (h4.o _)
   repeat still_step
   still_call (h3.o _)
   repeat still_step
   refine wpStill_nil ?_;go_wp2;go_roundw
   case rel=>exact ⟨c+1,o_,by go_num,D.o.drew,(X.setCell (by simp;omega) _).drew,Zz fun b t cs j h=>((z.o b t cs j h).far (F.o b t cs j (z.o b t cs j h)) _).drew⟩
   case measure=>simp[intOf];omega
  obtain rfl:c=K:=o_;go_wp2
  go_end0
  exact ⟨rfl,H.o _ hM,X,z.o⟩
end
section
open GfM
def QV (w:W_) (l:List UInt8) (A:Option Addr) (c:Nat) (hv:b_ w (.slice A l.length c) (bv l)) (k:0<l.length) (hl:l.length<=140737488351232) :
  Cl 214 #[.slice A l.length c] w fun e w'=>∃v,e=.returned v/\aH w' w.heap.size 5 v (bv l)/\Below w.heap.size w w':=by
 obtain ⟨A',f,z,r,d,i⟩:=hv.shape;injection z with x E y;subst x y;obtain ⟨b,off,rfl,_⟩:=i k;clear i;have o:=fun W:W_=>Lib.run_eql_slice_nil (P:=prog) W 105 5 (some ⟨b,off,none⟩) l.length c 0 0 underlying105;simp only[Option.isNone_some] at o;have h:=Zz hv;have s:=Zz (bv_one l)
 have j:(0+l.length)*1<=140737488355328:=o_;have u:=Zz j;clear hv j;obtain ⟨n,hn⟩:∃n,l.length=n:=⟨_,rfl⟩;have g:=Zz hn;have q:Hid (b_ w (.slice (some ⟨b,off,none⟩) n c) (bv l)):=Zz (by rw[<-hn];exact h.o);rw[hn] at k hl o r ⊢;clear h hn;have m:=aH.lit_ w w.heap.size 5 #[] (bS _) s_;have p:=Zz m;clear m;go_enter func214,ntmps214
 go_wp2_with (at_builtin;refine LK w.heap.size rfl (.tmp 5) (.tmp 6) 105 5 (.int .u8 0) 1 rfl underlying105 nM rfl d_ _ [] _ (bv l) rfl rfl (q.o.alloc _) s.o p.o ((Below.refl _ _).alloc (bS _) _) s_ (by rw[og,g.o];have:=u.o;rw[g.o] at this;exact this) ?_;intro G I a t _ _)
 go_ret;exact ⟨_,rfl,a,t⟩
end
end Go.Proofs.YtdkheklakfbeeaaGreatDoor
section
open Go.Proofs.Tryz
namespace Go.Proofs.YtdkheklakfbeeaaGreatDoor.GfM
def Unit (n c:Nat) (m:List (List UInt8)):Prop:=∀r j,r<n->j<c->en m r j=dl r j
section
variable {m:List (List UInt8)} {n K c r:Nat}
def Unit.swap (h:Unit n c m) (hs:gn m n K) {p:Nat} (k:c<n) (o:c<=p) (hp:p<n):Unit n c (Hn m c p):=by
 intro r j l e;rw[qh hs k hp];by_cases g:r=p
 ·rw[if_pos g,h c j k e];unfold dl;rw[if_neg o_,if_neg o_]
 rw[if_neg g];by_cases i:r=c
 ·rw[if_pos i,h p j hp e];unfold dl;rw[if_neg o_,if_neg o_]
 rw[if_neg i];exact h r j l e
def Unit.scale (h:Unit n c m) (hs:gn m n K) (g:c<n) (f:UInt8):Unit n c (w_X m c f):=by
 intro r j k i;rw[kQ hs g];by_cases e:r=c
 ·rw[if_pos e,h c j g i];unfold dl;rw[if_neg o_,if_neg o_,yY]
 rw[if_neg e];exact h r j k i
def HT (n c r:Nat) (m:List (List UInt8)):Prop:=Unit n c m/\en m c c=1/\∀s,s<r->s≠c->en m s c=0
def HT.start (h:Unit n c m) (hs:gn m n K) (e:c<n) (g:en m c c≠0):HT n c 0 (w_X m c (RW (en m c c))):=by
 refine ⟨h.scale hs e _,?_,fun s hs=>absurd hs o_⟩;rw[kQ hs e,if_pos rfl,NW g]
def clearStep (m:List (List UInt8)) (c r:Nat):List (List UInt8):=if r=c then m else Kg m r c (en m r c)
def vQ (hs:gn m n K) (e:c<n) (g:r<n):gn (clearStep m c r) n K:=by
 unfold clearStep;split
 ·exact hs
 exact Nh hs g e _
def HT.step (h:HT n c r m) (hs:gn m n K) (l:c<n) (o:r<n):HT n c (r+1) (clearStep m c r):=by
 obtain ⟨k,q,u⟩:=h;unfold clearStep;by_cases e:r=c
 ·rw[if_pos e]
  exact ⟨k,q,fun s hs p=>u s o_ p⟩
 rw[if_neg e];refine ⟨fun i j v t=>?_,?_,fun s x p=>?_⟩
 ·rw[sD hs o l]
  by_cases g:i=r
  ·rw[if_pos g,k c j l t]
   have:dl c j=0:=by unfold dl;rw[if_neg o_]
   rw[this,yY,xor_zero,g];exact k r j o t
  rw[if_neg g];exact k i j v t
 ·rw[sD hs o l,if_neg (fun h=>e h.symm)];exact q
 rw[sD hs o l];by_cases g:s=r
 ·rw[if_pos g,q,mul_one,UInt8.xor_self]
 rw[if_neg g];exact u s o_ p
def HT.done (h:HT n c n m):Unit n (c+1) m:=by
 obtain ⟨k,l,o⟩:=h;intro r j i p;by_cases e:j=c
 ·subst e
  by_cases g:r=j
  ·subst g;rw[l];unfold dl;rw[if_pos rfl]
  rw[o r i g];unfold dl;rw[if_neg g]
 exact k r j i o_
def Steps.clearStep {A:List (List UInt8)} (h:Steps n A m) (g:c<n) (i:r<n):Steps n A (clearStep m c r):=by
 unfold GfM.clearStep;split
 ·exact h
 rename_i e;exact h.add i g e
end
inductive InvOut (A:List (List UInt8)) (n:Nat):List (List UInt8)->Int->Prop
 | sing {m c}:Steps n (uP A n) m->c<n->Unit n c m->(∀r,c<=r->r<n->en m r c=0)->InvOut A n [] 6
 | ok {m}:Steps n (uP A n) m->Unit n n m->InvOut A n ((List.range n).map fun r=>(m.getD r []).drop n) 0
def Og (x:List UInt8) (n r:Nat) (e:x.length=n):(x++List.replicate n 0).set (n+r) 1=x++Rf n r:=by
 unfold Rf;rw[List.set_append_right _ _ o_,e,show n+r-n=r by omega]
end Go.Proofs.YtdkheklakfbeeaaGreatDoor.GfM
end
namespace Go.Proofs.YtdkheklakfbeeaaGreatDoor
open Go.RowKit Tryz
variable {G base c i n:Nat}{p:Addr}{row:Nat->List UInt8}{u v:Value}{w w':W_}{x y:Operand}
section
open GfM
def W9 (w:W_) (x:Value) (l:List UInt8) (g:b_ w x (bv l)) (a:Addr) (c:Nat) (ha:w.cell? a=some (.int .i64 c)) (p:c<l.length) :
  Cl 216 #[x,.pointer (some a)] w fun e w'=>e=.returned (.bool (decide (l.getD c 0≠0)))/\w=w':=by
 have o:=g.len;rw[og] at o;obtain ⟨A,k,rfl,r,s,i⟩:=g.shape;obtain ⟨b,off,rfl,j⟩:=i o_;have q:=j c p
 have m:(decide (l.getD c 0≠0))=((((l.getD c 0).toNat:Nat):Int) != 0):=by
  by_cases h:l.getD c 0=0
  ·rw[h];rfl
  have t:=v_M h;rw[decide_eq_true (by simpa using h),eq_comm,bne_iff_ne];omega
 rw[m];generalize l.getD c 0=u at *;generalize l.length=n at *;clear i j g m;go_enter func216,ntmps216;go_wp2;go_ret;exact ⟨rfl,rfl⟩
def OM.from_ (h:OM w base G n n row) (hn:n<=1000) (c:Nat) (q:c<n) :
  ∃e:List Value,e.length=n-c/\b_ w (.slice (some ⟨G,c,none⟩) ((n-c:Nat):Int).toNat ((n-c:Nat):Int).toNat) e/\∀r,r<n-c->b_ w (e.getD r undef) (bv (row (c+r))):=by
 obtain ⟨m,o,g,l,i,k,p⟩:=h;rw[Int.toNat_natCast];refine ⟨(uT n n row g l).toList.drop c,by rw[List.length_drop,Array.length_toList,KZ],?_,fun r t=>?_⟩
 ·refine ⟨some ⟨G,c,none⟩,n-c,by rw[List.length_drop,Array.length_toList,KZ],by rw[List.length_drop,Array.length_toList,KZ];exact bS _,o_,fun _=>⟨G,c,rfl,fun j s=>?_⟩⟩
  rw[i.cell,List.getElem?_drop,Array.getElem?_toList]
 rw[be,List.getElem?_drop,Array.getElem?_toList,Sx _ _ _ _ _ _ o_,if_pos o_];exact (k (c+r) o_).2.reads
def UB (h:OM w base G n n row) (hn:n<=1000) (c:Nat) (j:c<n) (i:∀r,r<n->c<(row r).length) (p:Nat) (hp:ab w p 3 #[.int .i64 c]) :
  Cl 215 #[.slice (some ⟨G,c,none⟩) (n-c) (n-c),.func (.func 216) #[] #[.pointer (some ⟨p,0,none⟩)]] w fun e w'=>e=.returned (.int .i64 (uI (n-c) (fun r=>decide ((row (c+r)).getD c 0≠0)) 0))/\w=w':=by
 obtain ⟨l,hl,g,k⟩:=h.from_ hn c j;rw[Int.toNat_natCast] at g;have:=Aq w _ l g ⟨p,0,none⟩ (fun r=>decide ((row (c+r)).getD c 0≠0)) (fun r m=>W9 w _ _ (k r o_) _ c (by rw[hp.cell];rfl) (i _ o_));rw[hl] at this;exact this
def OM.push {wr w3:W_} (hM:OM wr base G n i row) (hb:Below wr.heap.size wr w3) {l:List UInt8} (q:aH w3 wr.heap.size 5 v (bv l)) {j:Nat} (t:j<l.length) (s:i<n) (x:UInt8) (row':Nat->List UInt8) (e:∀r,r<i+1->i8 row i (l.set j x) r=row' r) :
  ∃g k,v=.slice (some ⟨g,0,none⟩) l.length k/\l.length<=k/\w3.cell? ⟨G,i,none⟩=some (.slice none 0 0)/\w3.frozen? ⟨G,i,none⟩=false/\G<w3.heap.size/\G<=g/\g<w3.heap.size /\
   w3.cell? ⟨g,j,none⟩=some (.int .u8 ((l.getD j 0).toNat:Int))/\w3.frozen? ⟨g,j,none⟩=false/\g≠G/\G≠g /\
   (w3.setCell ⟨G,i,none⟩ (.slice (some ⟨g,0,none⟩) l.length k)).cell? ⟨g,j,none⟩=some (.int .u8 ((l.getD j 0).toNat:Int)) /\
   (w3.setCell ⟨G,i,none⟩ (.slice (some ⟨g,0,none⟩) l.length k)).frozen? ⟨g,j,none⟩=false /\
   OM ((w3.setCell ⟨G,i,none⟩ (.slice (some ⟨g,0,none⟩) l.length k)).setCell ⟨g,j,none⟩ (.int .u8 x.toNat)) base G n (i+1) row':=by
 obtain ⟨g,k,rfl,hg,b,a⟩:=q.form (by rw[og];omega);rw[og] at q a ⊢;have o:=hM.below hb
 have I:G<g:=by have:=hM.lt;omega
 have m:=ev.of_own q;have h:=hM.put hb (bS i) s m hg;rw[Nat.max_eq_right o_] at h;obtain ⟨y,P,z,f,N,_,O,_,_,E⟩:=h.elem i j (Nat.lt_succ_self i) (by rw[Jc];exact t);rw[Jc] at z f;have u:=m.far (p:=⟨G,i,none⟩) (by simp;omega) (.slice (some ⟨g,0,none⟩) l.length k)
 have d:y=g:=by
  obtain ⟨_,_,M,Q,c,_,_⟩:=o;have hs:=(c.set_ i (.slice (some ⟨g,0,none⟩) l.length k)).cell i;rw[z,Array.getElem?_setIfInBounds,if_pos rfl,if_pos (by rw[KZ];exact s)] at hs;injection hs with hs;injection hs with hs _ _;injection hs with hs;injection hs
 subst d;refine ⟨y,k,rfl,a,o.nil_at i s (bS _),o.frozen i,o.lt,o_,b,m.cell j t,m.frozen j o_,o_,o_,u.cell j t,u.frozen j o_,?_⟩;refine (E x).congr fun r J=>?_;rw[<-e r J,Jc];unfold i8;split<;>rfl
def OM.cell_set (h:OM w base G n i row) (a:Nat) {b:Nat} (hb:b<n) (v:Value):∃x,(w.setCell ⟨G,a,none⟩ v).cell? ⟨G,b,none⟩=some x:=by
 obtain ⟨_,_,g,j,e,_⟩:=h;rw[(e.set_ a v).cell];exact ⟨_,Array.getElem?_eq_getElem (by rw[Array.size_setIfInBounds,KZ];exact hb)⟩
def w64_add (a b:Nat) (h:a+b<=1000):wrap64 ((a:Int)+(b:Int))=((a+b:Nat):Int):=by unfold wrap64;omega
def Vf (a b:Nat) (h:a+b<=1000):IntKind.i64.wrap ((a:Int)+(b:Int))=((a+b:Nat):Int):=by rw[eM];omega
def Pe {W:W_} {K:Nat} (hM:OM W base G n n row) (z:c<n) (v:(row c).length=K) (M:K<=1000) (a:UInt8) {p:Nat} {x:Value} (i:ab W p 3 #[x])
  (row':Nat->List UInt8) (e:∀r,r<n->i8 row c ((row c).map (cb a)) r=row' r) :
  Cl 161 #[.int .u8 (a.toNat:Nat),.string (bs (row c))] W fun e w3=>∃(s:B_) (g j:Nat) (h:W_) (y:Value),e=.returned (.string s)/\w3.cell? ⟨p,0,none⟩=some x /\
   (convert 9 105 (.string s)).run prog w3=.ok (.slice (some ⟨g,0,none⟩) K j) h/\h.cell? ⟨p,0,none⟩=some x/\h.cell? ⟨G,c,none⟩=some y/\h.frozen? ⟨G,c,none⟩=false/\G<h.heap.size /\
   (h.setCell ⟨G,c,none⟩ (.slice (some ⟨g,0,none⟩) K j)).cell? ⟨p,0,none⟩=some x /\
   OM (h.setCell ⟨G,c,none⟩ (.slice (some ⟨g,0,none⟩) K j)) base G n n row'/\ab (h.setCell ⟨G,c,none⟩ (.slice (some ⟨g,0,none⟩) K j)) p 3 #[x]/\Below base W (h.setCell ⟨G,c,none⟩ (.slice (some ⟨g,0,none⟩) K j)):=by
 have hl:((row c).map (cb a)).length=K:=by rw[fW,v]
 have q:(bs ((row c).map (cb a))).size=K:=hl;refine (sC _ a rfl (bs (row c)) (row c) (AT _).symm (by rw[cG,v];omega) W).mono ?_;rintro e w3 ⟨rfl,hb⟩;have t:=Lib.run_convert_string_bytes (P:=prog) w3 9 105 5 (bs ((row c).map (cb a))) underlying9 underlying105 underlying5;have f:=ev.made w3 (bs ((row c).map (cb a))) _ (AT _).symm (by rw[q];omega);have E:=Lib.bytesWorld_below w3 5 (bs ((row c).map (cb a)));have k:=rz hb hb.size E;have l:=(hM.put k (by omega:c<=n) z f hb.size).congr (row':=row') fun r Q=>e r o_;rw[Nat.max_eq_left o_,hl] at l;rw[q] at t l
 have J:p≠G:=fun e=>by
  obtain ⟨_,_,O,S,u,_⟩:=hM;unfold ab at u i;rw[e,u] at i;injection i with i;injection i with _ I;exact absurd I d_
 have b:=i.below k i.lt;have o:=b.far (p:=⟨G,c,none⟩) J (.slice (some ⟨w3.heap.size,0,none⟩) K (grownCap w3 K 0 5));have m:=hM.below k;obtain ⟨N,R,d,_⟩:=m.rowAt c z;refine ⟨_,_,_,_,_,rfl,(i.below hb i.lt).cell 0,t,b.cell 0,d,m.frozen c,m.lt,o.cell 0,l,o,(k.mono ?_).setCell hM.1 _⟩;exact cL hM.1 (Nat.le_of_lt hM.lt)
def vr (n i:Nat) (e g:Nat->Nat):Array Value :=
 ((List.range n).map fun r=>if r<i then Value.slice (some ⟨e r,n,none⟩) n n else .slice (some ⟨e r,0,none⟩) (2*n) (g r)).toArray
def w_y (n i:Nat) (e g:Nat->Nat):(vr n i e g).size=n:=by simp[vr]
def qv (n i:Nat) (e g:Nat->Nat) (r:Nat) (h:r<n) :
  (vr n i e g)[r]?=some (if r<i then Value.slice (some ⟨e r,n,none⟩) n n else .slice (some ⟨e r,0,none⟩) (2*n) (g r)):=by
 simp[vr,h]
def XC (n i:Nat) (g j:Nat->Nat) (l:i<n):(vr n i g j).setIfInBounds i (.slice (some ⟨g i,n,none⟩) n n)=vr n (i+1) g j:=by
 apply Array.ext_getElem?;intro s;rw[Array.getElem?_setIfInBounds];by_cases h:s<n
 ·rw[qv _ _ _ _ _ h,qv _ _ _ _ _ h]
  by_cases e:i=s
  ·subst e
   rw[if_pos rfl,if_pos (by rw[w_y];exact l),if_pos o_]
  rw[if_neg e];by_cases k:s<i
  ·rw[if_pos k,if_pos o_]
  rw[if_neg k,if_neg o_]
 rw[if_neg o_,Array.getElem?_eq_none (by rw[w_y];omega),Array.getElem?_eq_none (by rw[w_y];omega)]
def IE (w:W_) (base G n i:Nat) (e g:Nat->Nat) (m:List (List UInt8)):Prop :=
 base<=G/\ab w G 105 (vr n i e g)/\∀r,r<n->base<=e r/\ev w (e r) (m.getD r []) (g r)/\(m.getD r []).length=2*n
section
variable {m:List (List UInt8)}
def OM.cuts (h:OM w base G n n fun r=>m.getD r []) (hs:gn m n (2*n)):∃i j,IE w base G n 0 i j m:=by
 obtain ⟨l,o,i,j,p,k,q⟩:=h;refine ⟨i,j,l,?_,fun r g=>⟨(k r g).1,(k r g).2,hs.2 r g⟩⟩
 have e:uT n n (fun r=>m.getD r []) i j=vr n 0 i j:=by
  unfold uT vr;congr 1;apply List.map_congr_left;intro r g
  have g:r<n:=by simpa using g
  rw[if_pos g,if_neg o_,hs.2 r g]
 rwa [<-e]
variable {gs ks:Nat->Nat}
def IE.next (h:IE w base G n i gs ks m) (k:i<n):w.cell? ⟨G,i,none⟩=some (.slice (some ⟨gs i,0,none⟩) (2*n) (ks i))/\w.frozen? ⟨G,i,none⟩=false/\2*n<=ks i/\ks i<=9223372036854775807/\G<w.heap.size /\
  IE (w.setCell ⟨G,i,none⟩ (.slice (some ⟨gs i,n,none⟩) n n)) base G n (i+1) gs ks m:=by
 obtain ⟨o,e,g⟩:=h;obtain ⟨_,l,hl⟩:=g i k;refine ⟨by rw[e.cell,qv _ _ _ _ _ k,if_neg o_],e.frozen i,by have:=l.1;omega,l.2.1,e.lt,o,?_,fun r j=>⟨(g r j).1,?_,(g r j).2.2⟩⟩
 ·have:=e.set_ i (.slice (some ⟨gs i,n,none⟩) n n)
  rwa [XC _ _ _ _ k] at this
 exact (g r j).2.1.far (ev.ne_ (g r j).2.1 e d_) _
def IE.drew (h:IE w base G n i gs ks m):IE w.drew base G n i gs ks m:=h
def IE.done (h:IE w base G n n gs ks m) (hn:n<=1000):lN w (.slice (some ⟨G,0,none⟩) n n) ((List.range n).map fun r=>(m.getD r []).drop n):=by
 obtain ⟨s,o,p⟩:=h;have l:((List.range n).map fun r=>(m.getD r []).drop n).length=n:=s_;refine ⟨(vr n n gs ks).toList,by rw[Array.length_toList,w_y,l],?_,fun r t=>?_⟩
 ·refine ⟨some ⟨G,0,none⟩,n,by rw[Array.length_toList,w_y],by rw[Array.length_toList,w_y];exact bS _,o_,fun _=>⟨G,0,rfl,fun j k=>?_⟩⟩
  rw[jm,o.cell];simp
 have i:r<n:=o_;obtain ⟨_,q,hl⟩:=p r i;rw[be,Array.getElem?_toList,qv _ _ _ _ _ i,if_pos i]
 have e:((List.range n).map fun r=>(m.getD r []).drop n).getD r []=(m.getD r []).drop n:=by
  rw[be,gq,pB i];rfl
 rw[e]
 have g:((m.getD r []).drop n).length=n:=by rw[List.length_drop];omega
 refine ⟨some ⟨gs r,n,none⟩,n,by rw[og,g];rfl,by rw[og,g];exact bS _,o_,fun _=>⟨gs r,n,rfl,fun j k=>?_⟩⟩;rw[og,g] at k;rw[q.cell (n+j) o_,j5 _ _ (by rw[g];exact k)];congr 4;simp only[be,List.getElem?_drop]
end
inductive InvR (A:List (List UInt8)):List (List UInt8)->Int->Prop
 | bad:qW A=false->InvR A [] 4
 | shape:qW A=true->A.length≠(A.getD 0 []).length->InvR A [] 7
 | done {X e}:qW A=true->A.length=(A.getD 0 []).length->InvOut A A.length X e->InvR A X e
end
section
open GfM
def opsS_0:ce ((Tryz.f157.body.bind (dF 21)).getD #[]) 0 (.move (.tmp 5)) (some 93):=by unfold ce;kernel_rfl
def opsS_1:ce ((Tryz.f157.body.bind (dF 21)).getD #[]) 1 (.load 3 (.tmp 7)) (some 94):=by unfold ce;kernel_rfl
def opsS_2:ce ((Tryz.f157.body.bind (dF 21)).getD #[]) 2 (.move (.tmp 9)) (some 95):=by unfold ce;kernel_rfl
def opsS_3:ce ((Tryz.f157.body.bind (dF 21)).getD #[]) 3 (.move (.tmp 5)) (some 96):=by unfold ce;kernel_rfl
def opsS_4:ce ((Tryz.f157.body.bind (dF 21)).getD #[]) 4 (.load 3 (.tmp 7)) (some 97):=by unfold ce;kernel_rfl
def opsS_5:ce ((Tryz.f157.body.bind (dF 21)).getD #[]) 5 (.indexAddr 251 (.tmp 96) (.tmp 97)) (some 98):=by unfold ce;kernel_rfl
def opsS_6:ce ((Tryz.f157.body.bind (dF 21)).getD #[]) 6 (.load 105 (.tmp 98)) (some 99):=by unfold ce;kernel_rfl
def opsS_7:ce ((Tryz.f157.body.bind (dF 21)).getD #[]) 7 (.convert 105 9 (.tmp 99)) (some 100):=by unfold ce;kernel_rfl
def opsS_8:ce ((Tryz.f157.body.bind (dF 21)).getD #[]) 8 (.call { callee:=.value (.func 161),args:=#[.tmp 95,.tmp 100],argTypes:=#[5,9] }) (some 101):=by unfold ce;kernel_rfl
def opsS_9:ce ((Tryz.f157.body.bind (dF 21)).getD #[]) 9 (.convert 9 105 (.tmp 101)) (some 102):=by unfold ce;kernel_rfl
def opsS_10:ce ((Tryz.f157.body.bind (dF 21)).getD #[]) 10 (.indexAddr 251 (.tmp 93) (.tmp 94)) (some 103):=by unfold ce;kernel_rfl
def opsS_11:ce ((Tryz.f157.body.bind (dF 21)).getD #[]) 11 (.store 105 (.tmp 103) (.tmp 102)) none:=by unfold ce;kernel_rfl
section
variable {ρ:Operand->Value} {o:Oper}
def C0 (h:o.op=.load 3 x) (e:ρ x=.pointer (some p)) (g:w.cell? p=some v):(execOp ρ o).run prog w=.ok (.value v) w:=by
 unfold execOp;rw[h];simp only[e];go_simp
def SW (h:o.op=.load 105 x) (e:ρ x=.pointer (some p)) (g:w.cell? p=some v):(execOp ρ o).run prog w=.ok (.value v) w:=by
 unfold execOp;rw[h];simp only[e];go_simp
def Xv (h:o.op=.indexAddr 251 x y) {k:Nat} (e:ρ x=.slice (some ⟨G,0,none⟩) n k) (g:ρ y=.int .i64 c) (i:(c:Int)<(n:Int)):(execOp ρ o).run prog w=.ok (.value (.pointer (some ⟨G,c,none⟩))) w:=by
 unfold execOp;rw[h];simp only[e,g];go_simp
def NV {s d:TypeId} (h:o.op=.convert s d x) (g:ρ x=u) (e:(convert s d u).run prog w=.ok v w'):(execOp ρ o).run prog w=.ok (.value v) w':=by
 unfold execOp;rw[h];simp only[g];simp only[Sem.run_bind,Sem.run_pure,e,Result.andThen_ok]
def RU (h:o.op=.store 105 x y) {A:Option Addr} {k:Nat} (e:ρ x=.pointer (some p)) (g:ρ y=.slice A n k) (i:w.cell? p=some u) (j:w.frozen? p=false):(execOp ρ o).run prog w=.ok .skip (w.setCell p (.slice A n k)):=by
 unfold execOp;rw[h];simp only[e,g];go_simp
def YJ (h:o.op=.call { callee:=.value (.func 161),args:=#[x,y],argTypes:=#[5,9] }) (e:ρ (.func 161)=.func (.func 161) #[] #[]) (g:ρ x=u) (i:ρ y=v):(execOp ρ o).run prog w=.ok (.enter 161 #[u,v]) w:=by
 unfold execOp;rw[h];simp only[resolve,e];go_simp
end
def frS (a:Act) (e g h i j k l m n o p:Value):Act:=(((((((((((a.put (some 93) e).put (some 95) h).put (some 96) i).put (some 94) g).put (some 97) j).put (some 98) k).put (some 99) l).put (some 100) m).put (some 101) n).put (some 102) o).put (some 103) p)
def zz {z:Array Oper} (B:z=((Tryz.f157.body.bind (dF 21)).getD #[])) (Q:Exit->Act->W_->Prop) (m:∀c (a:Act) d v w,Q (.panic c) (a.put d v) w->Q (.panic c) a w) (a:Act) (W:W_) (h:a.tmps.size=136) (G n c p:Nat) (h1:c<n) (t:UInt8) (u:B_)
  (b:a.eval (.tmp 5)=.slice (some ⟨G,0,none⟩) n n) (f:a.eval (.tmp 7)=.pointer (some ⟨p,0,none⟩)) (Z:a.eval (.tmp 9)=.int .u8 t.toNat) (r:Value)
  (D:W.cell? ⟨p,0,none⟩=some (.int .i64 c)) (V:W.cell? ⟨G,c,none⟩=some r) (X:(convert 105 9 r).run prog W.drew=.ok (.string u) W.drew)
  (R:W_->Prop)
  (C:Cl 161 #[.int .u8 (t.toNat:Nat),.string u] W.drew fun e w3=>∃(s:B_) (A:Option Addr) (n1 q:Nat) (i:W_) (y:Value),e=.returned (.string s)/\w3.cell? ⟨p,0,none⟩=some (.int .i64 c) /\
   (convert 9 105 (.string s)).run prog w3=.ok (.slice A n1 q) i/\i.cell? ⟨p,0,none⟩=some (.int .i64 c)/\i.cell? ⟨G,c,none⟩=some y/\i.frozen? ⟨G,c,none⟩=false /\
   (i.setCell ⟨G,c,none⟩ (.slice A n1 q)).cell? ⟨p,0,none⟩=some (.int .i64 c)/\R (i.setCell ⟨G,c,none⟩ (.slice A n1 q)))
  (U:∀I J M N O P T F H K L w',R w'->Q .normal (frS a I J M N O P T F H K L) w') :
  (Code.region 21 z true).wp prog Q a W:=by
 subst B;have l:Region.noSelect ((Tryz.f157.body.bind (dF 21)).getD #[])=true:=k_;have E:(c:Int)<(n:Int):=o_;have Y:((Tryz.f157.body.bind (dF 21)).getD #[]).size=12:=k_;refine wp_region_held (S:=fun w'=>w'.cell? ⟨p,0,none⟩=some (.int .i64 c)) k_ ?_;rw[Y];have j:W.drew.cell? ⟨p,0,none⟩=some (.int .i64 c):=D;show wpAnyH _ _ _ _ _ _ _ _ W.drew;refine da 0 _ _ (.slice (some ⟨G,0,none⟩) n n) opsS_0 l k_ k_ m (fun w o k g=>A4 g b) j ?_;refine da 2 _ _ (.int .u8 t.toNat) opsS_2 l k_ k_ m (fun w o k g=>A4 g ((a6 d_).trans Z)) j ?_;refine da 3 _ _ (.slice (some ⟨G,0,none⟩) n n) opsS_3 l k_ k_ m (fun w o k g=>A4 g ((a6 d_).trans ((a6 d_).trans b))) j ?_;refine da 1 _ _ (.int .i64 c) opsS_1 l k_ k_ m (fun w o k g=>C0 g ((a6 d_).trans ((a6 d_).trans ((a6 d_).trans f))) k) j ?_;refine da 4 _ _ (.int .i64 c) opsS_4 l k_ k_ m (fun w o k g=>C0 g ((a6 d_).trans ((a6 d_).trans ((a6 d_).trans ((a6 d_).trans f)))) k) j ?_;refine da 5 _ _ (.pointer (some ⟨G,c,none⟩)) opsS_5 l k_ k_ m (fun w o k g=>Xv g ((a6 d_).trans ((a6 d_).trans (cV (by simp only[cY,h];decide)))) (cV (by simp only[cY,h];decide)) E) j ?_;refine w_3 6 _ _ (r) W.drew opsS_6 k_ (fun o g=>SW g (cV (by simp only[cY,h];decide)) V) j ?_;refine w_3 7 _ _ (.string u) W.drew opsS_7 k_ (fun o g=>NV g (cV (by simp only[cY,h];decide)) X) j ?_;refine qJ 8 _ _ _ _ opsS_8 k_ (fun o g=>YJ g rfl ((a6 d_).trans ((a6 d_).trans ((a6 d_).trans ((a6 d_).trans ((a6 d_).trans ((a6 d_).trans (cV (by simp only[cY,h];decide)))))))) (cV (by simp only[cY,h];decide))) ?_;refine C.mono ?_;rintro e w3 ⟨h0,x,n1,q,i,y,rfl,t1,t2,t3,t4,t5,t6,t7⟩;refine ⟨_,rfl,t1,?_⟩;refine w_3 9 _ _ (.slice x n1 q) i opsS_9 k_ (fun o g=>NV g (cV (by simp only[cY,h];decide)) t2) t3 ?_;refine w_3 10 _ _ (.pointer (some ⟨G,c,none⟩)) i opsS_10 k_ (fun o g=>Xv g ((a6 d_).trans ((a6 d_).trans ((a6 d_).trans ((a6 d_).trans ((a6 d_).trans ((a6 d_).trans ((a6 d_).trans ((a6 d_).trans ((a6 d_).trans (cV (by simp only[cY,h];decide))))))))))) ((a6 d_).trans ((a6 d_).trans ((a6 d_).trans ((a6 d_).trans ((a6 d_).trans ((a6 d_).trans (cV (by simp only[cY,h];decide)))))))) E) t3 ?_;refine rC 11 _ (i.setCell ⟨G,c,none⟩ (.slice x n1 q)) opsS_11 k_ (fun o g=>RU g (cV (by simp only[cY,h];decide)) ((a6 d_).trans (cV (by simp only[cY,h];decide))) t4 t5) t6 ?_;exact wpAnyH_done k_ (U _ _ _ _ _ _ _ _ _ _ _ _ t7) _
end
section
open GfM
def Vm (m:List (List UInt8)) (r c:Nat) (g:r<m.length) (q:Nat):clr (fun q=>m.getD q []) r c c q=(clearStep m c r).getD q []:=by
 unfold clr clearStep;by_cases e:r=c
 ·rw[if_pos e,if_pos e]
 rw[if_neg e,if_neg e];unfold Kg;rw[v_b _ _ _ _ g];unfold i8;by_cases h:q=r
 ·rw[if_pos h,if_pos h];rfl
 rw[if_neg h,if_neg h]
def IC (w:W_) (va:Value) (A:List (List UInt8)) (U:lN w va A) :
  Cl 157 #[va] w fun e w'=>∃v X e0,e=.returned (.tuple #[v,.int .i64 e0])/\lN w' v X/\InvR A X e0/\Below w.heap.size w w':=by
 have d:=Ds w va A U;by_cases E:qW A=true
 ·obtain ⟨a1,a2,a3,a4,x8⟩:=(v_a A).1 E
  obtain ⟨ba,oa,ca,rfl,NY,SP⟩:=U.at_ o_;by_cases R:A.length=(A.getD 0 []).length
  ·have t:∀X e,InvOut A A.length X e->InvR A X e:=fun X e h=>.done E R h
   have Fc:(((A.length:Nat):Int) != (((A.getD 0 []).length:Nat):Int))=false:=by rw[<-R];simp
   rw[E] at d;have Y:=Zz d;clear d;have u:gn A A.length A.length:=⟨rfl,fun r I=>by rw[x8.2 r I,<-R]⟩;have h5:=fun W (h:Below w.heap.size w W)=>(U.below h).rowAt 0 o_;clear E x8 a3 a4 R;have H8:=w_G u;obtain ⟨n,hn⟩:∃n,A.length=n:=⟨_,rfl⟩;rw[hn] at a1 a2 NY Y U t Fc u H8 ⊢;generalize (A.getD 0 []).length=q at *;have iS:=Cq n o_;have HN:=Zz hn;clear hn;have h2:=Zz t;clear t;have HS:=Zz u;clear u;have XL:=Zz H8;clear H8;go_enter func157,ntmps157;go_wp2_with fail;refine Y.o.mono ?_;rintro e H6 ⟨rfl,b⟩;obtain ⟨A0,c0,H2,_,_⟩:=h5 _ b;rw[Nat.add_zero] at H2;go_wp2_with fail;have h8:=BQ b (.cells (madeCells #[.slice none 0 0] n) 105);have Z:=OM.made H6 n (fun r=>(uP A n).getD r []);obtain ⟨G,hG⟩:∃G,H6.heap.size=G:=⟨_,rfl⟩
   have qi:w.heap.size<=G:=by have:=b.size;omega
   rw[hG] at Z ⊢;clear iS H2 h5 hG b;have h8:=Zz h8
   go_loopw [6,31] (fun _ x6 wr=>∃i:Nat,i<=n/\x6=.int .i64 i/\OM wr G G n i (fun r=>(uP A n).getD r [])/\Below w.heap.size w wr) (fun _ x6 _=>n-(intOf x6).toNat)
   case atStart=>exact ⟨0,o_,rfl,Z,h8.o⟩
   case round =>
    clear Z h8;obtain ⟨i,hi,rfl,hM,o⟩:=hrel;by_cases h7:i<n
    ·obtain ⟨x1,y1,ff,oU,J6⟩:=(U.below o).rowAt i (by rw[HN.o];exact h7)
     have H4:=HS.o.2 i h7;have SQ:=qy A n i h7;rw[H4] at ff oU;have y2:=QV wr (A.getD i []) x1 y1 J6 o_ o_;rw[H4] at y2;have y6:=Zz y2;clear y2 J6;have h4:=Zz H4;clear H4;have XM:=Zz SQ;clear SQ;have zJ:=hM.lt;go_wp2_with fail;refine y6.o.mono ?_;rintro e w2 ⟨v,rfl,hO,aq⟩;have HO:=Zz hO;clear hO
     have sh:=fun v w3 N O=>hM.push (w3:=w3) (v:=v) (l:=A.getD i []++List.replicate n 0) N O (j:=n+i) (by rw[cd,Aa,h4.o];omega) h7 1 (fun r=>(uP A n).getD r []) (fun r I=>by
      rw[Og _ _ _ h4.o];unfold i8;by_cases e:r=i
      ·subst e;rw[if_pos rfl,XM.o]
      rw[if_neg e])
     rw[cd,h4.o,Aa] at sh;generalize (A.getD i []++List.replicate n 0).getD (n+i) 0=iT at *;have mh:=Zz sh;clear sh
     have xH:(A.getD i []).length+n<=140737488355328:=by rw[h4.o];omega
     have FA:=Zz xH;clear xH
     go_wp2_with (at_builtin;refine vv wr.heap.size rfl (.tmp 40) (.tmp 41) 105 3 rfl underlying105 underlying3 nM _ (A.getD i []) .i64 n rfl rfl HO.o aq aq.size FA.o ?_;intro v1 w3 jP mD _ _;obtain ⟨g1,k1,rfl,t1,t2,t3,t4,t5,t6,t7,t8,t9,t10,t11,t12,dA⟩:=mh.o _ _ mD jP;have dG:=Zz dA;clear jP dA)
     go_roundw
     case rel=>exact ⟨i+1,o_,by go_num,dG.o,((rz o o.size mD).setCell (by simp;omega) _).setCell (by simp;omega) _⟩
     case measure=>simp[intOf];omega
    obtain rfl:i=n:=o_;obtain ⟨wo,rfl⟩:∃wo:W_,wo=wr:=⟨_,rfl⟩;go_wp2
    go_loopw [7,8,9,10,11,54,106] (fun _ _ _ _ _ H9 _ wi=>∃(c:Nat) (m:List (List UInt8)),c<=i/\H9=.int .i64 c/\OM wi G G i i (fun r=>m.getD r [])/\Hid (gn m i (2*i)/\GfM.Steps i (uP A i) m/\GfM.Unit i c m)/\Below w.heap.size w wi) (fun _ _ _ _ _ H9 _ _=>i-(intOf H9).toNat)
    case atStart=>exact ⟨0,uP A i,o_,rfl,hM,Zz ⟨XL.o,.refl _,fun r j _ hj=>absurd hj o_⟩,o⟩
    case round =>
     clear hM o;obtain ⟨c,m,hc,rfl,hM,f,o⟩:=hrel;by_cases k:c<i
     ·have T:=fun W (NN:OM W G G i i fun r=>m.getD r []) (hp:ab W wr.heap.size 3 #[.int .i64 c])=>UB NN o_ c k (fun r I=>by rw[f.o.1.2 r I];omega) _ hp
      have hsp:=z_aj (i-c) (fun r=>decide ((m.getD (c+r) []).getD c 0≠0)) 0;rcases hsp with ⟨F,H⟩|⟨j,_,hj,F,H⟩
      ·rw[F] at T
       have hz:∀r,c<=r->r<i->en m r c=0:=fun r N O=>by
        have:=H (r-c) o_ o_;rw[show c+(r-c)=r by omega] at this;simpa[en] using this
       have t:=h2.o _ _ (InvOut.sing f.o.2.1 k f.o.2.2 hz);have h0:=Zz t;clear t F H hz;have x2:=Zz T;clear T;go_wp2_with fail;refine (x2.o _ (hM.alloc _) (ab.new _ _ _)).mono ?_;rintro e w2 ⟨rfl,rfl⟩;go_wp2;go_ret2;exact ⟨_,_,_,rfl,lN.nil_ _,h0.o,o.alloc o.size _⟩
      rw[F] at T
      have h6:en m (c+j) c≠0:=by simpa[en] using H
      obtain ⟨u,SR,hU⟩:=f.o;have z:c+j<i:=o_;have S:=Dx u k z;have z7:=SR.swap k z;have x3:=hU.swap u k (Nat.le_add_right c j) z
      have h1:en (Hn m c (c+j)) c c≠0:=by
       rw[qh u k z];by_cases h:c=c+j
       ·rw[if_pos h];rw[<-h] at h6;exact h6
       rw[if_neg h,if_pos rfl];exact h6
      have FB:∀W,OM W G G i i (fun r=>m.getD r [])->ab W wr.heap.size 3 #[.int .i64 c]->Below w.heap.size w W->Cl 215 #[.slice (some ⟨G,c,none⟩) (i-c) (i-c),.func (.func 216) #[] #[.pointer (some ⟨wr.heap.size,0,none⟩)]] W fun e w'=>e=.returned (.int .i64 j)/\OM w' G G i i (fun r=>m.getD r [])/\ab w' wr.heap.size 3 #[.int .i64 c]/\Below w.heap.size w w':=fun W N O h3=>(T W N O).mono fun _ _ h=>⟨h.1,h.2▸N,h.2▸O,h.2▸h3⟩;have x2:=Zz FB;clear T FB F H h6 SR hU f;go_wp2_with fail;refine (x2.o _ (hM.alloc _) (ab.new _ _ _) (o.alloc o.size _)).mono ?_;clear hM o;obtain ⟨p,hp⟩:∃p,wr.heap.size=p:=⟨_,rfl⟩;rw[hp];rintro e w2 ⟨rfl,hM,s,o⟩;have B:=s.cell 0;have cX:=s.lt;have zJ:=hM.lt;have Ku:=hM.frozen c;have Kv:=hM.frozen (c+j)
      have uf:p≠G:=fun e=>by
       obtain ⟨_,_,gs,ks,h3,_⟩:=hM;unfold ab at h3 s;rw[e,h3] at s;injection s with s;injection s with _ ht;exact absurd ht d_
      obtain ⟨ga,ka,y5,y8,aP,y0,Z⟩:=hM.swap k z;have H3:=(s.far (p:=⟨G,c,none⟩) uf (.slice (some ⟨y5,0,none⟩) (m.getD (c+j) []).length y8)).far (p:=⟨G,c+j,none⟩) uf (.slice (some ⟨ga,0,none⟩) (m.getD c []).length ka);have H0:=(o.setCell (by simp;omega) (p:=⟨G,c,none⟩) (.slice (some ⟨y5,0,none⟩) (m.getD (c+j) []).length y8)).setCell (by simp;omega) (p:=⟨G,c+j,none⟩) (.slice (some ⟨ga,0,none⟩) (m.getD c []).length ka)
      have H1:=Z.congr (row':=fun r=>(Hn m c (c+j)).getD r []) fun r I=>by
       show _=((m.set c (m.getD (c+j) [])).set (c+j) (m.getD c [])).getD r [];rw[v_b _ _ _ _ (by rw[iO,u.1];exact z),v_b _ _ _ _ (by rw[u.1];exact k)];unfold i8;rfl
      rw[u.2 c k] at aP H1 H3 H0;rw[u.2 (c+j) z] at y0 H1 H3 H0;have y3:=Zz H1;clear H1 Z;have L:=Zz H3;clear H3;have x9:=Zz H0;clear H0;have y9:c+j<=1000:=o_;have N5:(j:Int)<=16:=o_;have aV:wrap64 ((c:Int)+(j:Int))=((c+j:Nat):Int):=w64_add c j y9;have fH:IntKind.i64.wrap ((c:Int)+(j:Int))=((c+j:Nat):Int):=Vf c j y9;obtain ⟨xx,SS⟩:=hM.cell_set c z (.slice (some ⟨y5,0,none⟩) (2*i) y8);obtain ⟨h9,FC⟩:∃h9,c+j=h9:=⟨_,rfl⟩;rw[FC] at y0 SS y3 L x9 aV fH z S z7 x3 h1 Kv;clear hM o u y9;have Df:G≠p:=fun e=>uf e.symm
      go_upto_region 19 with fail
      go_cut [] (fun y=>OM y G G i i (fun r=>(Hn m c h9).getD r [])/\ab y p 3 #[.int .i64 c]/\Below w.heap.size w y)
      case first =>
       as_aux_lemma =>
        go_region
        go_wp2_with fail
        go_meet
        exact ⟨y3.o.drew,L.o.drew,x9.o.drew⟩
      case rest =>
      obtain ⟨hM,s,o⟩:=hcut;obtain ⟨W,ST⟩:∃W,W=wc:=⟨_,rfl⟩;rw[<-ST] at hM s o ⊢;clear ST y3 L x9 B cX zJ Ku Kv aP y0 SS aV fH N5 z FC;generalize Hn m c h9=m1 at *;have K:=S.2 c k;obtain ⟨g,y7,J,bC,fa,_,_,mG,_,_⟩:=hM.elem c c k (by rw[K];omega)
      have C:b_ W (.slice (some ⟨g,0,none⟩) (2*i) y7) (bv (m1.getD c [])):=by
       obtain ⟨g',k',H5,_,_,CY⟩:=hM.rowAt c k;rw[J] at H5;injection H5 with H5;have:=CY.reads;rw[<-H5,K] at this;exact this
      have FE:=S.1;have vx:=Zz FE;clear FE;have B:=s.cell 0;have D:=fun W=>Xk _ ((m1.getD c []).getD c 0) rfl W;rw[if_neg (show (m1.getD c []).getD c 0≠0 from h1)] at D;have bL:=inv_ne h1;rw[K] at J mG;have x7:=HT.start x3 S k h1;have x4:=wP S k (RW (en m1 c c));have x5:=z7.scale k bL;unfold en at x7 x4 x5 bL;clear h1 x3 S z7;generalize (m1.getD c []).getD c 0=XN at *;generalize RW XN=V at *;have D:=fun W=>(D W).mono fun _ _ h=>(⟨h.1,h.2.symm⟩:_/\_);have sm:=Zz D;clear D;have qT:=Zz x7;clear x7;have eZ:=Zz x4;clear x4;have fL:=Zz x5;clear x5;have zi:(c:Int)<((2*i:Nat):Int):=o_;have lQ:(c:Int)<2*(i:Int):=o_;have Dp:c<2*i:=o_
      go_upto_region 20 with fail
      go_cut [9,10] (fun s9 tX y=>s9=.int .u8 V.toNat/\OM y G G i i (fun r=>m1.getD r [])/\ab y p 3 #[.int .i64 c]/\Below w.heap.size w y/\y.cell? ⟨G,c,none⟩=some (.slice (some ⟨g,0,none⟩) (2*i) y7)/\b_ y (.slice (some ⟨g,0,none⟩) (2*i) y7) (bv (m1.getD c [])))
      case first =>
       as_aux_lemma =>
        go_quiet ((go_at_call 217;exact Calls.quiet_of_same (sm.o _)))
        go_wp2_with fail
        go_meet
        exact ⟨rfl,hM.drewN nq,s.drewN nq,EV o nq,J,C⟩
      case rest =>
      clear hM s o J C;obtain ⟨rfl,hM,s,o,J,C⟩:=hcut;clear sm zi lQ Dp bC fa;have dw:=UG (P:=prog) (src:=105) (dst:=9) underlying105 underlying5 underlying9 C.drew;clear C
      have uh:=fun W' (N:OM W' G G i i fun r=>m1.getD r []) (O:ab W' p 3 #[.int .i64 c])=>Pe N k K o_ V O (fun r=>(w_X m1 c V).getD r []) (fun r I=>by
       show _=(m1.set c ((m1.getD c []).map (cb V))).getD r [];rw[v_b _ _ _ _ (by rw[vx.o];exact k)]
       rfl)
      generalize w_X m1 c V=m2 at *;have fK:=Zz uh;clear uh K;generalize bs (m1.getD c [])=s1 at *;have B:=s.cell 0
      go_upto_region 21 with fail
      go_cut [9] (fun s9 y=>OM y G G i i (fun r=>m2.getD r [])/\ab y p 3 #[.int .i64 c]/\Below w.heap.size w y)
      case first =>
       refine zz k_ _ ?hQ _ _ rfl G i c p k V s1 rfl rfl rfl _ B J dw
        (fun w'=>OM w' G G i i (fun r=>m2.getD r [])/\ab w' p 3 #[.int .i64 c]/\Below w.heap.size w w') ?_ ?_
       case hQ =>
        intro c0 a0 d0 v0 x0 h;simp only[Exit.then,Exit.inBlock] at h ⊢
        first
         | exact h
         | (simp +zetaDelta only[Exit.then,Exit.inBlock,bodyPost] at h ⊢;exact h)
         | (simp +zetaDelta [Exit.then,Exit.inBlock,bodyPost] at h)
       ·refine (fK.o _ hM.drew s.drew).mono ?_
        rintro e w3 ⟨s2,g2,k2,W4,y4,rfl,t1,t2,t3,t4,t5,t6,t7,t8,t9,t10⟩;exact ⟨s2,_,_,_,W4,y4,rfl,t1,t2,t3,t4,t5,t7,t8,t9,(o.drew.trans (t10.mono qi):_)⟩
       intro _ _ _ _ _ _ _ _ _ _ _ w' hR;simp only[frS,Act.put,F6,List.set_cons_zero,List.set_cons_succ];go_wp2_with fail
       go_meet
       exact hR
      case rest =>
      clear hM s o fK J dw B;obtain ⟨hM,s,o⟩:=hcut;go_wp2
      go_loopw [11,106] (fun _ z8 wk=>∃(r:Nat) (x:List (List UInt8)),r<=i/\z8=.int .i64 r/\OM wk G G i i (fun q=>x.getD q [])/\Hid (gn x i (2*i)/\GfM.Steps i (uP A i) x/\HT i c r x)/\ab wk p 3 #[.int .i64 c]/\Below w.heap.size w wk) (fun _ z8 _=>i-(intOf z8).toNat)
      case atStart=>exact ⟨0,m2,o_,rfl,hM,Zz ⟨eZ.o,fL.o,qT.o⟩,s,o⟩
      case round =>
       clear hM s o qT eZ fL;obtain ⟨r,x,I,rfl,hM,a,s,o⟩:=hrel;by_cases Q:r<i
       ·have FG:=yT wr G G i (2*i) (fun q=>x.getD q []) hM (fun q hq=>a.o.1.2 q hq) r c c Q k o_ o_ o_
        have FH:Cl 218 #[.slice (some ⟨G,0,none⟩) i i,.int .i64 r,  .int .i64 c,.int .i64 c] wr fun e w'=>e=.returned (.tuple #[])/\OM w' G G i i (fun q=>(clearStep x c r).getD q [])/\ab w' p 3 #[.int .i64 c]/\Below w.heap.size w w' :=
         FG.mono fun e w' h=>⟨h.1,h.2.1.congr fun q _=>Vm x r c (by rw[a.o.1.1];exact Q) q,h.2.2.2 _ _ _ d_ s,o.trans (h.2.2.1.mono qi)⟩
        have y6:=Zz FH;clear FG FH;have r9:=Zz (⟨vQ a.o.1 k Q,a.o.2.1.clearStep k Q,a.o.2.2.step a.o.1 k Q⟩:gn (clearStep x c r) i (2*i)/\GfM.Steps i (uP A i) (clearStep x c r)/\HT i c (r+1) (clearStep x c r));have B:=s.cell 0;clear hM s;generalize clearStep x c r=m4 at *;go_wp2_with fail;refine y6.o.mono ?_;rintro e w5 ⟨rfl,Ad,N8,Ej⟩;go_wp2;go_roundw
        case rel=>exact ⟨r+1,m4,o_,by go_num,Ad,r9,N8,Ej⟩
        case measure=>simp[intOf];omega
       obtain rfl:r=i:=o_;have HD:=Zz a.o.2.2.done;go_wp2;go_roundw
       case rel=>exact ⟨c+1,x,o_,by go_num,hM,Zz ⟨a.o.1,a.o.2.1,HD.o⟩,o⟩
       case measure=>simp[intOf];omega
     obtain rfl:c=i:=o_;have t:=h2.o _ _ (InvOut.ok f.o.2.1 f.o.2.2);obtain ⟨gs,ks,SU⟩:=hM.cuts f.o.1;have h0:=Zz t;clear t hM;go_wp2
     go_loopw [12,118] (fun _ H7 wk=>∃r:Nat,r<=c/\H7=.int .i64 r/\Hid (IE wk G G c r gs ks m)/\Below w.heap.size w wk) (fun _ H7 _=>c-(intOf H7).toNat)
     case atStart=>exact ⟨0,o_,rfl,Zz SU,o⟩
     case round =>
      clear SU o;obtain ⟨r,I,rfl,SV,o⟩:=hrel;by_cases Q:r<c
      ·obtain ⟨q1,q2,q3,q4,q5,q6⟩:=SV.o.next Q
       have Dq:=Zz q6;clear q6
       have ff:IntKind.i64.wrap (2*(c:Int))=((2*c:Nat):Int):=by rw[eM];omega
       have fB:2*c-c=c:=o_;have L:=Zz fB;clear fB;go_wp2;go_roundw
       case rel=>exact ⟨r+1,o_,by go_num,by rw[L.o];exact Dq,o.setCell (by simp;omega) _⟩
       case measure=>simp[intOf];omega
      obtain rfl:r=c:=o_;have hR:=SV.o.done o_;go_wp2;go_ret2;exact ⟨_,_,_,rfl,hR,h0.o,o⟩
  have t:=InvR.shape E R
  have Fc:(((A.length:Nat):Int) != (((A.getD 0 []).length:Nat):Int))=true:=by rw[bne_iff_ne];omega
  rw[E] at d;have Y:=Zz d;clear d;have h5:=fun W (h:Below w.heap.size w W)=>(U.below h).rowAt 0 o_;have h0:=Zz t;clear t R x8;generalize (A.getD 0 []).length=q at *;generalize A.length=n at *;go_enter func157,ntmps157;go_wp2_with fail;refine Y.o.mono ?_;rintro e H6 ⟨rfl,b⟩;obtain ⟨A0,c0,H2,_,_⟩:=h5 _ b;rw[Nat.add_zero] at H2;go_wp2;go_ret2;exact ⟨_,_,_,rfl,lN.nil_ _,h0.o,b⟩
 have M:qW A=false:=by simpa using E
 have t:=InvR.bad M;rw[M] at d;have Y:=Zz d;clear d E M;have h2:=Zz t;clear t;go_enter func157,ntmps157;go_wp2_with fail;refine Y.o.mono ?_;rintro e H6 ⟨rfl,b⟩;go_wp2;go_ret2;exact ⟨_,_,_,rfl,lN.nil_ _,h2.o,b⟩
end
section
open GfM
def EL (w:W_) (v:Value) (g:List Value) (hv:b_ w v g) (a:Addr) (p:Nat->Bool)
  (hF:∀r,r<g.length->Cl 219 #[g.getD r undef,.pointer (some a)] w fun e w'=>e=.returned (.bool (p r))/\w=w') :
  Cl 159 #[v,.func (.func 219) #[] #[.pointer (some a)]] w fun e w'=>e=.returned (.int .i64 (uI g.length p 0))/\w=w':=by
 obtain ⟨A,c,rfl,f,G,h⟩:=hv;have y:=Zz h;clear h;have z:=Zz hF;clear hF;obtain ⟨n,hn⟩:∃n,g.length=n:=⟨_,rfl⟩;rw[hn] at f ⊢;have d:=Zz hn;clear hn;go_enter func159,ntmps159;go_wp2
 go_loop [5,8] (fun _ u=>∃i:Nat,i<=n/\u=.int .i64 i/\uI (n-i) p i=uI n p 0) (fun _ u=>n-(intOf u).toNat)
 case atStart=>exact ⟨0,o_,rfl,s_⟩
 case round =>
  obtain ⟨i,I,rfl,hg⟩:=hrel;have o:=Zz hg;clear hg;by_cases s:i<n
  ·have l:i<g.length:=by rw[d.o];exact s
   obtain ⟨b,off,rfl,h⟩:=y.o o_;have E:=h i l;rw[cr l] at E;have m:=z.o i l;rw[be,cr l] at m;simp only[Option.getD_some] at m;generalize g[i]=x at *;have k:=Zz m;clear m h;by_cases hp:p i=true
   ·have j:=z_at n i p s hp
    have q:=Zz j;clear j;rw[hp] at k;clear hp;go_wp2_with fail;refine (k.o).mono ?_;rintro e w' ⟨rfl,rfl⟩;go_wp2;go_ret;exact ⟨by rw[<-o.o,q.o];rfl,rfl⟩
   have t:p i=false:=by simpa using hp
   have j:=z_af n i p s t;have q:=Zz j;clear j;rw[t] at k;clear hp t;go_wp2_with fail;refine (k.o).mono ?_;rintro e w' ⟨rfl,rfl⟩;go_wp2
   go_round
   case rel=>exact ⟨i+1,o_,by go_num,by rw[<-q.o];exact o.o⟩
   case measure=>simp[intOf];omega
  obtain rfl:i=n:=o_;go_wp2;go_ret;refine ⟨?_,rfl⟩;rw[<-o.o,Nat.sub_self];rfl
def ss (w:W_) (v:Value) (g:List Value) (hv:b_ w v g) (a:Addr) (p:Nat->Bool)
  (hF:∀r,r<g.length->Cl 219 #[g.getD r undef,.pointer (some a)] w fun e w'=>e=.returned (.bool (p r))/\w=w') :
  Cl 102 #[v,.func (.func 219) #[] #[.pointer (some a)]] w fun e w'=>e=.returned (.bool (decide (0<=uI g.length p 0)))/\w=w':=by
 have h:=EL w v g hv a p hF;generalize uI g.length p 0=z at *;have i:=Zz h;clear h hF hv;go_enter func102,ntmps102;go_wp2_with fail;refine (i.o).mono ?_;rintro e w' ⟨rfl,rfl⟩;go_wp2
 all_goals (go_ret;exact ⟨rfl,rfl⟩)
def i6 (A:List (List UInt8)) (T:List B_) (n r:Nat):Nat->List UInt8
 | 0=>List.replicate n 0
 | i+1=>eW (i6 A T n r i) ((tb T i).map (cb (en A r i)))
def dS (A:List (List UInt8)) (T:List B_) (n r i:Nat) (h:∀j,j<i->(tl T j).size=n):(i6 A T n r i).length=n:=by
 induction i with
 | zero=>simp[i6]
 | succ i e=>rw[i6,w_o,e (fun j g=>h j o_),fW,x_E,h i o_,Nat.min_self]
def ED (A:List (List UInt8)) (T:List B_) (n r i k:Nat) (h:∀j,j<i->(tl T j).size=n) (hk:k<n):(i6 A T n r i).getD k 0=sx i (fun c=>cb (en A r c) ((tb T c).getD k 0)):=by
 induction i with
 | zero=>simp[i6,sx,hk]
 | succ i g =>
  have e:∀j,j<i->(tl T j).size=n:=fun j l=>h j o_
  have hl:k<(tb T i).length:=by rw[x_E,h i o_];exact hk
  rw[i6,sx,Aw _ _ _ (by rw[dS A T n r i e];exact hk) (by rw[fW];exact hl),g e,Cj _ _ _ hl]
open Classical in
noncomputable def Gc (A:List (List UInt8)) (T:List B_):Int :=
 if qW A=false then 4 else if T.length≠(A.getD 0 []).length\/¬Sw T then 7 else if 65536<(tl T 0).size then 5 else 0
def Kd (A:List (List UInt8)) (T:List B_):List B_:=(List.range A.length).map fun r=>bs (i6 A T (nn T) r T.length)
open Classical in
noncomputable def Ax (A:List (List UInt8)) (T:List B_):List B_:=if Gc A T=0 then Kd A T else []
def JP {A:List (List UInt8)} {T:List B_} (e:qW A=true) (g:T.length=(A.getD 0 []).length) (i:∀j,j<T.length->(tl T j).size=nn T) (k:nn T<=65536):Gc A T=0:=by
 unfold Gc;rw[if_neg (by rw[e];decide),if_neg (by rintro (h|h);exact h g;exact h i),if_neg (by unfold nn at k;omega)]
def v_t (A:List (List UInt8)) (T:List B_):(Kd A T).length=A.length:=by simp[Kd]
def Y5 (A:List (List UInt8)) (T:List B_) (r:Nat) (h:r<A.length):tl (Kd A T) r=bs (i6 A T (nn T) r T.length):=by
 unfold tl Kd;rw[be,gq,pB h];rfl
def b_.texts2 {T:List B_} (h:b_ w v (sv T)) :
  ∃A c,v=.slice A T.length c/\T.length<=c/\c<=9223372036854775807/\(0<T.length->∃b off,A=some ⟨b,off,none⟩/\∀j,j<T.length->w.cell? ⟨b,off+j,none⟩=some (.string (tl T j))):=by
 obtain ⟨A,c,rfl,g,i,k⟩:=h;rw[cN] at *;refine ⟨A,c,rfl,g,i,fun hp=>?_⟩;obtain ⟨b,off,rfl,l⟩:=k hp;exact ⟨b,off,rfl,fun j e=>by rw[l j e,iQ T j e]⟩
def J2 (w:W_) (T:List B_) (v:Value) (a:Addr) (hv:b_ w v (sv T)) (ha:w.cell? a=some v) (i:0<T.length) (s:B_) :
  Cl 219 #[.string s,.pointer (some a)] w fun e w'=>e=.returned (.bool (decide (s.size≠(tl T 0).size)))/\w=w':=by
 obtain ⟨A,c,rfl,m,o,j⟩:=hv;rw[cN] at *;obtain ⟨b,off,rfl,k⟩:=j i;have l:=k 0 i;rw[iQ T 0 i,Nat.add_zero] at l;clear k j;generalize tl T 0=g at *;generalize T.length=n at *;by_cases h:s.size=g.size
 ·have hb:(((s.size:Nat):Int) != ((g.size:Nat):Int))=false:=by rw[h];simp
  have e:decide (s.size≠g.size)=false:=h_ (fun x=>x h);rw[e];clear e;go_enter func219,ntmps219;go_wp2;go_ret;exact ⟨rfl,rfl⟩
 have hb:(((s.size:Nat):Int) != ((g.size:Nat):Int))=true:=by rw[bne_iff_ne];omega
 have e:decide (s.size≠g.size)=true:=decide_eq_true h;rw[e];clear e;go_enter func219,ntmps219;go_wp2;go_ret;exact ⟨rfl,rfl⟩
def odd_any (w:W_) (T:List B_) (v:Value) (a:Addr) (hv:b_ w v (sv T)) (ha:w.cell? a=some v) (s:0<T.length) :
  (Sw T->Cl 102 #[v,.func (.func 219) #[] #[.pointer (some a)]] w fun e w'=>e=.returned (.bool false)/\w=w') /\
  (¬Sw T->Cl 102 #[v,.func (.func 219) #[] #[.pointer (some a)]] w fun e w'=>e=.returned (.bool true)/\w=w'):=by
 have l:=ss w v (sv T) hv a (fun r=>decide ((tl T r).size≠(tl T 0).size)) (fun r m=>by
  rw[cN] at m
  have e:(sv T).getD r undef=.string (tl T r):=by rw[be,iQ T r m];rfl
  rw[e]
  exact J2 w T v a hv ha s (tl T r))
 have hs:=z_aj (sv T).length (fun r=>decide ((tl T r).size≠(tl T 0).size)) 0;rw[jm] at hs;constructor
 ·intro g
  refine l.mono fun e w' h=>⟨?_,h.2⟩;rw[h.1];rcases hs with ⟨n,_⟩|⟨j,_,k,_,q⟩
  ·rw[n];rfl
  rw[cN] at k;exact absurd (g j k) (of_decide_eq_true q)
 intro g;refine l.mono fun e w' h=>⟨?_,h.2⟩;rw[h.1];rcases hs with ⟨_,o⟩|⟨j,_,_,p,_⟩
 ·exfalso
  apply g;intro i t;have:=o i o_ (by rw[cN];exact t);simpa using this
 rw[p];congr 2
end
end Go.Proofs.YtdkheklakfbeeaaGreatDoor
