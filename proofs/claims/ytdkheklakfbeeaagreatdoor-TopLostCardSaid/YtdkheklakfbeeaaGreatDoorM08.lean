/- Part 8 of the proof. -/
import Derived.Laws.CopyOwn
import Derived.Deep.MidRow
import Derived.Deep.WholeRow
import Derived.Test.YtdkheklakfbeeaaGreatDoorM07
set_option linter.all false
set_option maxRecDepth 100000
set_option maxHeartbeats 16000000
namespace Go.Proofs.YtdkheklakfbeeaaGreatDoor
open Go.RowKit Tryz
section
open GfM
def y_z (n i:Nat) (row:Nat->List UInt8) (gs ks:Nat->Nat):Array Value :=
 ((List.range n).map fun r=>if r<i then Value.slice (some ⟨gs r,0,none⟩) (row r).length (ks r) else .slice none 0 0).toArray
theorem z_U (n i:Nat) (row:Nat->List UInt8) (gs ks:Nat->Nat):(y_z n i row gs ks).size=n:=by simp[y_z]
theorem y_G (n i:Nat) (row:Nat->List UInt8) (gs ks:Nat->Nat) (r:Nat) (hr:r<n) :
  (y_z n i row gs ks)[r]?=some (if r<i then Value.slice (some ⟨gs r,0,none⟩) (row r).length (ks r) else .slice none 0 0):=by
 simp[y_z,hr]
def OM (w:World) (base G n i:Nat) (row:Nat->List UInt8):Prop :=
 base<=G/\i<=n/\∃gs ks:Nat->Nat,Blk w G 105 (y_z n i row gs ks)/\(∀r,r<i->base<=gs r/\z_T w (gs r) (row r) (ks r))/\(∀r s,r<i->s<i->gs r=gs s->r=s)
def upd (row:Nat->List UInt8) (r:Nat) (l:List UInt8):Nat->List UInt8:=fun s=>if s=r then l else row s
theorem y_p (row:Nat->List UInt8) (r:Nat) (l:List UInt8):upd row r l r=l:=if_pos rfl
theorem y_K (row:Nat->List UInt8) {r s:Nat} (l:List UInt8) (h:s≠r):upd row r l s=row s:=if_neg h
section
variable {w w':World} {base G n i:Nat} {row:Nat->List UInt8}
theorem OM.lt (h:OM w base G n i row):G<w.heap.size:=by
 obtain ⟨_,_,gs,ks,hb,_⟩:=h;exact hb.lt
theorem OM.frozen (h:OM w base G n i row) (r:Nat):w.frozen? ⟨G,r,none⟩=false:=by
 obtain ⟨_,_,gs,ks,hb,_⟩:=h;exact hb.frozen r
theorem OM.nil_at (h:OM w base G n i row) (r:Nat) (hr:r<n) (hi:i<=r):w.cell? ⟨G,r,none⟩=some (.slice none 0 0):=by
 obtain ⟨_,_,gs,ks,hb,_⟩:=h;rw[hb.cell,y_G _ _ _ _ _ _ hr,if_neg (by omega)]
theorem OM.below (h:OM w base G n i row) (hb:Below w.heap.size w w'):OM w' base G n i row:=by
 obtain ⟨h1,h2,gs,ks,h3,h4,h5⟩:=h;exact ⟨h1,h2,gs,ks,h3.below hb h3.lt,fun r hr=>⟨(h4 r hr).1,(h4 r hr).2.below hb (h4 r hr).2.lt⟩,h5⟩
theorem OM.drewN (h:OM w base G n i row) (k:Nat):OM (w.drewN k) base G n i row:=h
theorem OM.drew (h:OM w base G n i row):OM w.drew base G n i row:=h
theorem OM.alloc (h:OM w base G n i row) (o:Obj):OM (w.alloc o) base G n i row:=h.below ((Below.refl _ _).alloc (q_e _) o)
theorem OM.congr (h:OM w base G n i row) {row':Nat->List UInt8} (e:∀r,r<i->row r=row' r):OM w base G n i row':=by
 obtain ⟨h1,h2,gs,ks,h3,h4,h5⟩:=h;refine ⟨h1,h2,gs,ks,?_,fun r hr=>⟨(h4 r hr).1,e r hr▸(h4 r hr).2⟩,h5⟩
 have:y_z n i row gs ks=y_z n i row' gs ks:=by
  unfold y_z;congr 1;apply List.map_congr_left;intro r _;by_cases hr:r<i
  ·rw[if_pos hr,if_pos hr,e r hr]
  ·rw[if_neg hr,if_neg hr]
 rwa [<-this]
theorem OM.elem (h:OM w base G n i row) (r c:Nat) (hr:r<i) (hc:c<(row r).length):∃g k,
  w.cell? ⟨G,r,none⟩=some (.slice (some ⟨g,0,none⟩) (row r).length k)/\w.cell? ⟨g,c,none⟩=some (.int .u8 (((row r).getD c 0).toNat:Int))/\w.frozen? ⟨g,c,none⟩=false /\
  base<=g/\g<w.heap.size/\(row r).length<=k/\(∀b t cs,(5:Nat)≠t->Blk w b t cs->b≠g)/\(∀u:UInt8,OM (w.setCell ⟨g,c,none⟩ (.int .u8 u.toNat)) base G n i (upd row r ((row r).set c u))):=by
 obtain ⟨h1,h2,gs,ks,h3,h4,h5⟩:=h;obtain ⟨hb,hB⟩:=h4 r hr;refine ⟨gs r,ks r,?_,hB.cell c hc,hB.frozen c (by have:=hB.1;omega),hb,hB.lt,hB.1,fun b t cs aA Lf e=>z_T.ne_ hB (e▸Lf) aA rfl,fun u=>?_⟩
 ·rw[h3.cell,y_G _ _ _ _ _ _ (by omega),if_pos hr]
 ·refine ⟨h1,h2,gs,ks,?_,fun s hs=>⟨(h4 s hs).1,?_⟩,h5⟩
  ·have e:y_z n i (upd row r ((row r).set c u)) gs ks=y_z n i row gs ks:=by
    unfold y_z;congr 1;apply List.map_congr_left;intro s _;by_cases hs:s=r
    ·subst hs;rw[y_p,q_k]
    ·rw[y_K _ _ hs]
   rw[e];exact h3.far (fun e=>z_T.ne_ hB h3 (by decide) e.symm) _
  ·by_cases e:s=r
   ·subst e;rw[y_p];exact hB.set_ c u
   ·rw[y_K _ _ e]
    exact (h4 s hs).2.far (fun e2=>e (h5 s r hs hr e2)) _
theorem OM.rowAt (h:OM w base G n i row) (r:Nat) (hr:r<i):∃g k,w.cell? ⟨G,r,none⟩=some (.slice (some ⟨g,0,none⟩) (row r).length k)/\base<=g/\g<w.heap.size/\z_T w g (row r) k:=by
 obtain ⟨h1,h2,gs,ks,h3,h4,h5⟩:=h;refine ⟨gs r,ks r,?_,(h4 r hr).1,(h4 r hr).2.lt,(h4 r hr).2⟩;rw[h3.cell,y_G _ _ _ _ _ _ (by omega),if_pos hr]
theorem OM.put (h0:OM w base G n i row) (hb:Below w.heap.size w w') {r:Nat} (hri:r<=i) (hr:r<n) {g k:Nat} {l:List UInt8} (hB:z_T w' g l k) (hg:w.heap.size<=g) :
  OM (w'.setCell ⟨G,r,none⟩ (.slice (some ⟨g,0,none⟩) l.length k)) base G n (max i (r+1)) (upd row r l):=by
 obtain ⟨h1,h2,gs,ks,h3,h4,h5⟩:=h0;have hG:=h3.lt
 have hd:∀s,s<i->gs s≠g:=fun s hs e=>by have:=(h4 s hs).2.lt;omega
 have Lg:=h3.below hb hG;refine ⟨h1,by omega,fun s=>if s=r then g else gs s,fun s=>if s=r then k else ks s,?_,fun s hs=>?_,fun a b ha fm e=>?_⟩
 ·have cL:=Lg.set_ r (.slice (some ⟨g,0,none⟩) l.length k)
  have e:(y_z n i row gs ks).setIfInBounds r (.slice (some ⟨g,0,none⟩) l.length k)=y_z n (max i (r+1)) (upd row r l) (fun s=>if s=r then g else gs s) (fun s=>if s=r then k else ks s):=by
   apply Array.ext_getElem?;intro s;rw[Array.getElem?_setIfInBounds];by_cases fc:s<n
   ·rw[y_G _ _ _ _ _ _ fc,y_G _ _ _ _ _ _ fc]
    by_cases e:r=s
    ·subst e
     rw[if_pos rfl,if_pos (by rw[z_U];exact fc),if_pos (by omega),y_p,if_pos rfl,if_pos rfl]
    ·rw[if_neg e]
     by_cases nk:s<i
     ·rw[if_pos nk,if_pos (by omega),y_K _ _ (fun h=>e h.symm),if_neg (fun h=>e h.symm),if_neg (fun h=>e h.symm)]
     ·rw[if_neg nk,if_neg (by omega)]
   ·rw[if_neg (by omega),Array.getElem?_eq_none (by rw[z_U];omega),Array.getElem?_eq_none (by rw[z_U];omega)]
  rwa [e] at cL
 ·by_cases e:s=r
  ·subst e
   simp only[if_true];rw[y_p];exact ⟨by omega,hB.far (fun e2=>z_T.ne_ hB Lg (by decide) e2) _⟩
  ·simp only[if_neg e]
   rw[y_K _ _ e];have Lh:=h4 s (by omega);have QS:=Lh.2.below hb Lh.2.lt;exact ⟨Lh.1,QS.far (fun e2=>z_T.ne_ QS Lg (by decide) e2) _⟩
 ·by_cases ea:a=r
  ·by_cases eb:b=r
   ·omega
   ·simp only[if_pos ea,if_neg eb] at e
    exact absurd e.symm (hd b (by omega))
  ·by_cases eb:b=r
   ·simp only[if_neg ea,if_pos eb] at e
    exact absurd e (hd a (by omega))
   ·simp only[if_neg ea,if_neg eb] at e
    exact h5 a b (by omega) (by omega) e
theorem OM.swap (h:OM w base G n i row) {a b:Nat} (ha:a<i) (hb:b<i):∃ga ka gb kb,
  w.cell? ⟨G,a,none⟩=some (.slice (some ⟨ga,0,none⟩) (row a).length ka)/\w.cell? ⟨G,b,none⟩=some (.slice (some ⟨gb,0,none⟩) (row b).length kb) /\
  OM ((w.setCell ⟨G,a,none⟩ (.slice (some ⟨gb,0,none⟩) (row b).length kb)).setCell ⟨G,b,none⟩ (.slice (some ⟨ga,0,none⟩) (row a).length ka)) base G n i (upd (upd row a (row b)) b (row a)):=by
 obtain ⟨h1,h2,gs,ks,h3,h4,h5⟩:=h
 have hc:∀r,r<i->w.cell? ⟨G,r,none⟩=some (.slice (some ⟨gs r,0,none⟩) (row r).length (ks r)):=fun r hr=>by rw[h3.cell,y_G _ _ _ _ _ _ (by omega),if_pos hr]
 refine ⟨gs a,ks a,gs b,ks b,hc a ha,hc b hb,h1,h2,fun s=>if s=b then gs a else if s=a then gs b else gs s,fun s=>if s=b then ks a else if s=a then ks b else ks s,?_,fun s hs=>?_,fun r s hr hs e=>?_⟩
 ·have cL:=(h3.set_ a (.slice (some ⟨gs b,0,none⟩) (row b).length (ks b))).set_ b (.slice (some ⟨gs a,0,none⟩) (row a).length (ks a))
  have e:((y_z n i row gs ks).setIfInBounds a (.slice (some ⟨gs b,0,none⟩) (row b).length (ks b))).setIfInBounds b (.slice (some ⟨gs a,0,none⟩) (row a).length (ks a)) =
    y_z n i (upd (upd row a (row b)) b (row a)) (fun s=>if s=b then gs a else if s=a then gs b else gs s) (fun s=>if s=b then ks a else if s=a then ks b else ks s):=by
   apply Array.ext_getElem?;intro s;rw[Array.getElem?_setIfInBounds,Array.getElem?_setIfInBounds,Array.size_setIfInBounds];by_cases fc:s<n
   ·rw[y_G _ _ _ _ _ _ fc,y_G _ _ _ _ _ _ fc]
    by_cases eb:b=s
    ·subst eb
     rw[if_pos rfl,if_pos (by rw[z_U];exact fc),if_pos hb,y_p,if_pos rfl,if_pos rfl]
    ·have Ix:¬s=b:=fun h=>eb h.symm
     by_cases ea:a=s
     ·subst ea
      simp only[eb,Ix,if_true,if_false,z_U,fc,ha,y_K _ _ Ix,y_p]
     ·have QT:¬s=a:=fun h=>ea h.symm
      simp only[eb,ea,Ix,QT,if_false,y_K _ _ Ix,y_K _ _ QT]
   ·rw[if_neg (by omega),if_neg (by omega),Array.getElem?_eq_none (by rw[z_U];omega),Array.getElem?_eq_none (by rw[z_U];omega)]
  rwa [e] at cL
 ·have far:∀t,t<i->∀u1 u2:Value,z_T ((w.setCell ⟨G,a,none⟩ u1).setCell ⟨G,b,none⟩ u2) (gs t) (row t) (ks t):=fun t ht u1 u2=>by
   have QU:=(h4 t ht).2;have aA:=z_T.ne_ QU h3 (by decide);exact (QU.far aA u1).far aA u2
  by_cases eb:s=b
  ·subst eb
   simp only[if_true];rw[y_p];exact ⟨(h4 a ha).1,far a ha _ _⟩
  ·simp only[if_neg eb]
   rw[y_K _ _ eb];by_cases ea:s=a
   ·subst ea
    simp only[if_true];rw[y_p];exact ⟨(h4 b hb).1,far b hb _ _⟩
   ·simp only[if_neg ea]
    rw[y_K _ _ ea];exact ⟨(h4 s hs).1,far s hs _ _⟩
 ·have key:∀t,(if t=b then gs a else if t=a then gs b else gs t)=gs (if t=b then a else if t=a then b else t):=by
   intro t;by_cases h1:t=b
   ·rw[if_pos h1,if_pos h1]
   ·rw[if_neg h1,if_neg h1]
    by_cases h2:t=a
    ·rw[if_pos h2,if_pos h2]
    ·rw[if_neg h2,if_neg h2]
  have e2:gs (if r=b then a else if r=a then b else r)=gs (if s=b then a else if s=a then b else s):=by
   rw[<-key,<-key];exact e
  have af:∀t,t<i->(if t=b then a else if t=a then b else t)<i:=by
   intro t ht;split
   ·exact ha
   ·split
    ·exact hb
    ·exact ht
  have e3:=h5 _ _ (af r hr) (af s hs) e2;revert e3;split<;>split<;>(try split)<;>(try split)<;>omega
theorem OM.reads (h:OM w base G n n row) (hn:n<=9223372036854775807) (m:List (List UInt8)) (hm:m.length=n) (e:∀r,r<n->row r=m.getD r []):x_h w (.slice (some ⟨G,0,none⟩) n n) m:=by
 obtain ⟨h1,h2,gs,ks,h3,h4,h5⟩:=h;refine ⟨(y_z n n row gs ks).toList,by rw[Array.length_toList,z_U,hm],?_,fun r hr=>?_⟩
 ·refine ⟨some ⟨G,0,none⟩,n,by rw[Array.length_toList,z_U],by rw[Array.length_toList,z_U];exact q_e _,hn,fun _=>⟨G,0,rfl,fun j hj=>?_⟩⟩
  rw[q_D,h3.cell];simp
 ·have lV:r<n:=by omega
  rw[q_a,Array.getElem?_toList,y_G _ _ _ _ _ _ lV,if_pos lV];have:=(h4 r lV).2.reads;rw[e r lV] at this ⊢;exact this
end
theorem x_h.el {w:World} {b o n c:Nat} {m:List (List UInt8)} (h:x_h w (.slice (some ⟨b,o,none⟩) n c) m) (r j:Nat) (hr:r<m.length) (hj:j<(m.getD r []).length):∃b1 o1 c1,
  w.cell? ⟨b,o+r,none⟩=some (.slice (some ⟨b1,o1,none⟩) (m.getD r []).length c1)/\(m.getD r []).length<=c1/\w.cell? ⟨b1,o1+j,none⟩=some (.int .u8 ((en m r j).toNat:Int)):=by
 obtain ⟨A,c',he,_,_,hc⟩:=h.shape;injection he with h1 h2 h3;subst h1;obtain ⟨b',o',kD,ae⟩:=hc (by omega);injection kD with kD;injection kD with e1 e2 e3;subst e1 e2;obtain ⟨x,hx,hR⟩:=ae r hr;obtain ⟨A1,c1,rfl,hl,_,mx⟩:=hR.shape;obtain ⟨b1,o1,rfl,aa⟩:=mx (by omega);exact ⟨b1,o1,c1,hx,hl,aa j hj⟩
theorem x_h.at_ {w:World} {v:Value} {m:List (List UInt8)} (h:x_h w v m) (hm:0<m.length):∃b o c,v=.slice (some ⟨b,o,none⟩) m.length c/\m.length<=c/\b<w.heap.size:=by
 obtain ⟨A,c,rfl,h1,_,hc⟩:=h.shape;obtain ⟨b,o,rfl,ae⟩:=hc hm;obtain ⟨x,hx,_⟩:=ae 0 hm;exact ⟨b,o,c,rfl,h1,q_c w _ hx⟩
theorem x_h.rowAt {w:World} {b o n c:Nat} {m:List (List UInt8)} (h:x_h w (.slice (some ⟨b,o,none⟩) n c) m) (r:Nat) (hr:r<m.length):∃A1 c1,
  w.cell? ⟨b,o+r,none⟩=some (.slice A1 (m.getD r []).length c1)/\(m.getD r []).length<=c1/\z_g w (.slice A1 (m.getD r []).length c1) (bv (m.getD r [])):=by
 obtain ⟨A,c',he,_,_,hc⟩:=h.shape;injection he with h1 h2 h3;subst h1;obtain ⟨b',o',kD,ae⟩:=hc (by omega);injection kD with kD;injection kD with e1 e2 e3;subst e1 e2;obtain ⟨x,hx,hR⟩:=ae r hr;obtain ⟨A1,c1,rfl,hl,_,mx⟩:=hR.shape;exact ⟨A1,c1,hx,hl,hR⟩
end
section
open GfM
theorem infoB:(prog.info? 105).map (fun i=>(i.zero,i.size,i.bytes))=some (some (.slice none 0 0),1,24):=by kernel_rfl
theorem make_bytes (m:Nat) (hm:m<=140737488355328):∀W:World,(Instr.makeSlice 105 (.int .i64 m) (.int .i64 m)).run prog W=.ok (.slice (some ⟨W.heap.size,0,none⟩) m m) (W.alloc (.cells (madeCells #[.int .u8 0] m) 5)):=by
 intro W;exact run_make_row' 105 5 (.int .u8 0) 1 underlying105 info5 rfl .i64 .i64 m (by omega) (by omega) W
theorem make_rows (m:Nat) (hm:m<=1000):∀W:World,(Instr.makeSlice 251 (.int .i64 m) (.int .i64 m)).run prog W=.ok (.slice (some ⟨W.heap.size,0,none⟩) m m) (W.alloc (.cells (madeCells #[.slice none 0 0] m) 105)):=by
 intro W;exact run_make_row' 251 105 (.slice none 0 0) 24 underlying251 infoB rfl .i64 .i64 m (by omega) (by omega) W
theorem OM.made (W:World) (n:Nat) (row:Nat->List UInt8):OM (W.alloc (.cells (madeCells #[.slice none 0 0] n) 105)) W.heap.size W.heap.size n 0 row:=by
 refine ⟨q_e _,Nat.zero_le _,fun _=>0,fun _=>0,?_,fun r hr=>absurd hr (by omega),fun r s hr=>absurd hr (by omega)⟩
 have e:madeCells #[Value.slice none 0 0] n=y_z n 0 row (fun _=>0) (fun _=>0):=by
  apply Array.ext_getElem?;intro s;by_cases hs:s<n
  ·rw[y_G _ _ _ _ _ _ hs,if_neg (by omega)]
   simp[madeCells,hs,Nat.mod_one]
  ·rw[Array.getElem?_eq_none (by rw[size_madeCells];omega),Array.getElem?_eq_none (by rw[z_U];omega)]
 rw[e];exact Blk.new W _ _
theorem empty_any (n k:Nat) (hn:n<=16) (hk:k<=16) (w:World) :
  Cl 248 #[.int .i64 n,.int .i64 k] w fun e w'=>e=.returned (.slice (some ⟨w.heap.size,0,none⟩) n n)/\OM w' w.heap.size w.heap.size n n (fun _=>List.replicate k 0)/\Below w.heap.size w w':=by
 have gV:=make_bytes k (by omega);have lu:=make_rows n (by omega);go_enter func248,ntmps248;go_wp2;clear lu
 go_loopw [6,11] (fun _ s11 wr=>∃i:Nat,i<=n/\s11=.int .i64 i/\OM wr w.heap.size w.heap.size n i (fun _=>List.replicate k 0)/\Below w.heap.size w wr) (fun _ s11 _=>n-(intOf s11).toNat)
 case atStart=>exact ⟨0,by omega,rfl,OM.made w n _,(Below.refl _ _).alloc (q_e _) _⟩
 case round =>
  obtain ⟨i,hi,rfl,hM,hB⟩:=hrel;by_cases af:i<n
  ·have hc:=hM.nil_at i af (q_e _)
   have hf:=hM.frozen i;have hG:=hM.lt;go_wp2;go_roundw
   case rel =>
    refine ⟨i+1,by omega,by go_num,?_,(hB.setCell (q_e _) _).alloc (by simpa using hB.size) _⟩;have:=hM.put ((Below.refl _ _).alloc (q_e _) (.cells (madeCells #[.int .u8 0] k) 5)) (q_e i) af (z_T.made_zero wr k (by omega)) (q_e _);rw[Nat.max_eq_right (by omega),q_w,World.setCell_alloc_past _ _ _ _ hG] at this;refine this.congr fun r _=>?_;unfold upd;split<;>rfl
   case measure=>simp[intOf];omega
  ·obtain rfl:i=n:=by omega
   go_wp2;go_ret;exact ⟨rfl,hM,hB⟩
def idM (n:Nat):List (List UInt8):=(List.range n).map (y_2 n)
theorem idM_row (n r:Nat) (h:r<n):(idM n).getD r []=y_2 n r:=by
 unfold idM;rw[q_a,q_j,q_n h];rfl
theorem x_u (n:Nat):(idM n).length=n:=by simp[idM]
def w_X (n i r:Nat):List UInt8:=if r<i then y_2 n r else List.replicate n 0
theorem idRow_length (n i r:Nat):(w_X n i r).length=n:=by unfold w_X;split<;>simp[y_2]
theorem idRow_step (n i:Nat) (r:Nat):upd (w_X n i) i ((w_X n i i).set i 1) r=w_X n (i+1) r:=by
 unfold upd;by_cases h:r=i
 ·subst h
  rw[if_pos rfl];unfold w_X;rw[if_neg (Nat.lt_irrefl r),if_pos (Nat.lt_succ_self r)];rfl
 ·rw[if_neg h]
  unfold w_X;by_cases h1:r<i
  ·rw[if_pos h1,if_pos (by omega)]
  ·rw[if_neg h1,if_neg (by omega)]
theorem x_h.nil_ (w:World):x_h w (.slice none 0 0) []:=⟨[],rfl,⟨none,0,rfl,q_e _,by omega,fun h=>absurd h (by simp)⟩,fun r hr=>absurd hr (by simp)⟩
def vdM (n k:Nat):List (List UInt8):=(List.range n).map fun r=>(List.range k).map fun c=>ex (r*c)
theorem vdM_row (n k r:Nat) (h:r<n):(vdM n k).getD r []=(List.range k).map fun c=>ex (r*c):=by
 unfold vdM;rw[q_a,q_j,q_n h];rfl
theorem vdM_length (n k:Nat):(vdM n k).length=n:=by simp[vdM]
def x_y (k r c:Nat):List UInt8:=((List.range k).map fun j=>if j<c then ex (r*j) else 0)
theorem z_ae (k r c:Nat):(x_y k r c).length=k:=by simp[x_y]
theorem vdPart_set (k r c:Nat) (h:c<k):(x_y k r c).set c (ex (r*c))=x_y k r (c+1):=by
 unfold x_y;apply q_m
 ·simp
 ·intro j h1 h2
  simp at h1 h2;rw[List.getElem_set];simp only[List.getElem_map,List.getElem_range];by_cases e:c=j
  ·subst e;rw[if_pos rfl,if_pos (by omega)]
  ·rw[if_neg e]
   by_cases hj:j<c
   ·rw[if_pos hj,if_pos (by omega)]
   ·rw[if_neg hj,if_neg (by omega)]
theorem vdPart_all (k r:Nat):x_y k r k=(List.range k).map fun c=>ex (r*c):=by
 unfold x_y;apply List.map_congr_left;intro c hc;rw[if_pos (by simpa using hc)]
def x_j (k i c r:Nat):List UInt8:=if r<i then x_y k r k else if r=i then x_y k r c else List.replicate k 0
theorem vdRow_length (k i c r:Nat):(x_j k i c r).length=k:=by
 unfold x_j;split
 ·exact z_ae _ _ _
 ·split
  ·exact z_ae _ _ _
  ·simp
theorem vdRow_set (k i c r:Nat) (hc:c<k):upd (x_j k i c) i ((x_j k i c i).set c (ex (i*c))) r=x_j k i (c+1) r:=by
 have e:x_j k i c i=x_y k i c:=by unfold x_j;rw[if_neg (Nat.lt_irrefl i),if_pos rfl]
 rw[e,vdPart_set k i c hc];unfold upd x_j;by_cases h:r=i
 ·subst h;rw[if_pos rfl,if_neg (Nat.lt_irrefl r),if_pos rfl]
 ·rw[if_neg h,if_neg h,if_neg h]
theorem vdRow_next (k i r:Nat):x_j k i k r=x_j k (i+1) 0 r:=by
 unfold x_j;by_cases h:r<i
 ·rw[if_pos h,if_pos (by omega)]
 ·rw[if_neg h]
  by_cases e:r=i
  ·subst e;rw[if_pos rfl,if_pos (by omega)]
  ·rw[if_neg e,if_neg (by omega)]
   by_cases e2:r=i+1
   ·rw[if_pos e2]
    unfold x_y;apply q_m
    ·simp
    ·intro j h1 h2;simp
   ·rw[if_neg e2]
theorem pwI_ex (j:Nat):pwI 2 ((j:Nat):Int)=ex j:=by
 unfold pwI;by_cases h:j=0
 ·subst h;rfl
 ·rw[if_neg (by omega),if_neg (by decide),pw_two,<-ex_mod j]
  congr 1
end
section
open GfM
theorem opsD_0:z_j ((Tryz.f101.body.bind (z_q 11)).getD #[]) 0 (.move (.tmp 8)) (some 45):=by unfold z_j;kernel_rfl
theorem opsD_1:z_j ((Tryz.f101.body.bind (z_q 11)).getD #[]) 1 (.move (.tmp 11)) (some 46):=by unfold z_j;kernel_rfl
theorem opsD_2:z_j ((Tryz.f101.body.bind (z_q 11)).getD #[]) 2 (.buildSlice 38 1 #[(0,.tmp 46)]) (some 47):=by unfold z_j;kernel_rfl
theorem opsD_3:z_j ((Tryz.f101.body.bind (z_q 11)).getD #[]) 3 (.call { callee:=.builtin .append,args:=#[.tmp 45,.tmp 47],argTypes:=#[38,38] }) (some 48):=by unfold z_j;kernel_rfl
theorem opsD_4:z_j ((Tryz.f101.body.bind (z_q 11)).getD #[]) 4 (.move (.tmp 7)) (some 49):=by unfold z_j;kernel_rfl
theorem opsD_5:z_j ((Tryz.f101.body.bind (z_q 11)).getD #[]) 5 (.move (.tmp 9)) (some 50):=by unfold z_j;kernel_rfl
theorem opsD_6:z_j ((Tryz.f101.body.bind (z_q 11)).getD #[]) 6 (.move (.tmp 10)) (some 51):=by unfold z_j;kernel_rfl
theorem opsD_7:z_j ((Tryz.f101.body.bind (z_q 11)).getD #[]) 7 (.indexAddr 251 (.tmp 50) (.tmp 51)) (some 52):=by unfold z_j;kernel_rfl
theorem opsD_8:z_j ((Tryz.f101.body.bind (z_q 11)).getD #[]) 8 (.load 105 (.tmp 52)) (some 53):=by unfold z_j;kernel_rfl
theorem opsD_9:z_j ((Tryz.f101.body.bind (z_q 11)).getD #[]) 9 (.buildSlice 251 1 #[(0,.tmp 53)]) (some 54):=by unfold z_j;kernel_rfl
theorem opsD_10:z_j ((Tryz.f101.body.bind (z_q 11)).getD #[]) 10 (.call { callee:=.builtin .append,args:=#[.tmp 49,.tmp 54],argTypes:=#[251,251] }) (some 55):=by unfold z_j;kernel_rfl
theorem opsD_11:z_j ((Tryz.f101.body.bind (z_q 11)).getD #[]) 11 (.assign (.tmp 48)) (some 8):=by unfold z_j;kernel_rfl
theorem opsD_12:z_j ((Tryz.f101.body.bind (z_q 11)).getD #[]) 12 (.assign (.tmp 55)) (some 7):=by unfold z_j;kernel_rfl
section
variable {P:Program} {ah:Array Oper} {Q:Exit->Act->World->Prop} {md:Region.Mode} {S:World->Prop} {fuel:Nat} {listed:Array Bool} {a:Act} {w:World}
theorem x_o (i:Nat) (op:Op) (d:Nat) (ho:z_j ah i op (some d)) (hr:Region.ready md ah listed=[i])
  (h:∀o:Oper,o.op=op->∃v w',(execOp a.eval o).run P w=.ok (.value v) w'/\S w'/\wpAnyH P md ah Q S fuel (listed.setIfInBounds i true) (a.put (some d) v) w'):wpAnyH P md ah Q S (fuel+1) listed a w:=by
 obtain ⟨o,h1,h2,h3,h4⟩:=ho.get;refine wpAnyH_all hr (by simp) fun j hj=>?_
 obtain rfl:j=i:=by simpa using hj
 unfold wpOp;simp only[h1];rw[if_pos (by unfold Region.wanted;rw[h4])];refine .inl ?_;unfold Oper.wp;obtain ⟨v,w',e1,e2,e3⟩:=h o h2;rw[e1];show _/\_;rw[h3];exact ⟨e2,e3⟩
theorem rg_two (i k:Nat) (Cu Cv:Op) (d1 d2:Nat) (sK:z_j ah i Cu (some d1)) (pE:z_j ah k Cv (some d2)) (hr:Region.ready md ah listed=[i,k])
  (h1:∀o:Oper,o.op=Cu->∃v w',(execOp a.eval o).run P w=.ok (.value v) w'/\S w'/\wpAnyH P md ah Q S fuel (listed.setIfInBounds i true) (a.put (some d1) v) w')
  (h2:∀o:Oper,o.op=Cv->∃v w',(execOp a.eval o).run P w=.ok (.value v) w'/\S w'/\wpAnyH P md ah Q S fuel (listed.setIfInBounds k true) (a.put (some d2) v) w'):wpAnyH P md ah Q S (fuel+1) listed a w:=by
 obtain ⟨o1,g1,g2,g3,g4⟩:=sK.get;obtain ⟨o2,q1,q2,q3,q4⟩:=pE.get;refine wpAnyH_all hr (by simp) fun j hj=>?_
 have iQ:j=i\/j=k:=by simpa using hj
 unfold wpOp;rcases iQ with rfl|rfl
 ·simp only[g1]
  rw[if_pos (by unfold Region.wanted;rw[g4])];refine .inl ?_;unfold Oper.wp;obtain ⟨v,w',e1,e2,e3⟩:=h1 o1 g2;rw[e1];show _/\_;rw[g3];exact ⟨e2,e3⟩
 ·simp only[q1]
  rw[if_pos (by unfold Region.wanted;rw[q4])];refine .inl ?_;unfold Oper.wp;obtain ⟨v,w',e1,e2,e3⟩:=h2 o2 q2;rw[e1];show _/\_;rw[q3];exact ⟨e2,e3⟩
end
section
variable {ρ:Operand->Value} {w:World} {o:Oper}
theorem exD_load {x:Operand} (h:o.op=.load 105 x) {p:Addr} {v:Value} (hx:ρ x=.pointer (some p)) (hc:w.cell? p=some v):(execOp ρ o).run prog w=.ok (.value v) w:=by
 unfold execOp;rw[h];simp only[hx];go_simp
theorem exD_ix {x y:Operand} (h:o.op=.indexAddr 251 x y) {b f c n k:Nat} (hx:ρ x=.slice (some ⟨b,f,none⟩) n k) (hy:ρ y=.int .i64 c) (hc:(c:Int)<(n:Int)):(execOp ρ o).run prog w=.ok (.value (.pointer (some ⟨b,f+c,none⟩))) w:=by
 unfold execOp;rw[h];simp only[hx,hy];go_simp
theorem x_U {P:Program} {x:Operand} (h:o.op=.assign x) {v:Value} (hv:ρ x=v):(execOp ρ o).run P w=.ok (.value v) w:=by
 subst hv;unfold execOp;rw[h];rfl
theorem exD_boxS {x:Operand} (h:o.op=.buildSlice 38 1 #[(0,x)]) {s:ByteArray} (hx:ρ x=.string s):(execOp ρ o).run prog w=.ok (.value (.slice (some ⟨w.heap.size,0,none⟩) 1 1)) (w.alloc (.cells #[.string s] 9)):=by
 unfold execOp;rw[h];simp only[hx,List.map_toArray,List.map_cons,List.map_nil];go_simp
theorem exD_boxM {x:Operand} (h:o.op=.buildSlice 251 1 #[(0,x)]) {A:Option Addr} {n c:Nat} (hx:ρ x=.slice A n c):(execOp ρ o).run prog w=.ok (.value (.slice (some ⟨w.heap.size,0,none⟩) 1 1)) (w.alloc (.cells #[.slice A n c] 105)):=by
 unfold execOp;rw[h];simp only[hx,List.map_toArray,List.map_cons,List.map_nil];go_simp
theorem v_o {P:Program} {s x:Operand} {t e:TypeId} {z:Value} {bytes base b:Nat} {v y:Value} {xs:List Value} {R:Value->World->Prop} (h:o.op=.call { callee:=.builtin .append,args:=#[s,x],argTypes:=#[t,t] })
  (ht:P.underlying t=some (.slice e)) (b5:(P.info? e).map (fun i=>(i.zero,i.size,i.bytes))=some (some z,1,bytes)) (hz:z.cells.size=1) (iy:0<bytes)
  (hs:ρ s=v) (hx:ρ x=.slice (some ⟨b,0,none⟩) 1 1) (h1:y.oneCell'=true) (HO:Own w base e v xs) (hb:Blk w b e #[y]) (aP:base<=w.heap.size) (hl:(xs.length+1)*bytes<=140737488355328)
  (hR:∀v1 w1,Own w1 base e v1 (xs++[y])->w.grownBy w1 v.ownBlock->R v1 w1):∃v1 w1,(execOp ρ o).run P w=.ok (.value v1) w1/\R v1 w1:=by
 obtain ⟨i0,hi,dB,dv,cX⟩:=info_parts b5;have aq:xs.length+1<=140737488355328:=q_g (Nat.le_mul_of_pos_right _ iy) hl
 obtain ⟨v1,w1,nf,h2,hg,_⟩:=run_append_own_at (P:=P) w base t o.type e i0 z 1 bytes ht hi dB dv cX hz (by omega) v xs.length xs HO ⟨b,0,none⟩ 1 1 [y] rfl
  (World.news_of_block (cs:=#[y]) (t:=e) (fr:=(0,0)) hb) (by simpa using h1) (by simp only[maxLen];omega) hl aP
 refine ⟨v1,w1,?_,hR v1 w1 (by unfold Own;simpa using h2) hg⟩;unfold execOp;simp only[h,resolve,invoke,builtin,Sem.run_bind,Sem.run_pure,Result.andThen_ok,List.map_toArray,List.map_cons,List.map_nil,hs,hx,nf]
end
theorem Blk.own_no {w:World} {base g:Nat} {t e:TypeId} {cs:Array Value} {v:Value} {xs:List Value} (h:Blk w g t cs) (ho:Own w base e v xs) (aA:t≠e):some g≠v.ownBlock:=by
 rcases ho.2 with ⟨rfl,_⟩|⟨g',av,aQ,rfl,_,hh,_⟩
 ·simp[Value.ownBlock]
 ·intro hk
  have gQ:g=g':=by simpa[Value.ownBlock] using hk
  subst gQ;unfold Blk at h;rw[hh] at h;injection h with h;injection h with _ ht;exact aA ht.symm
theorem neSM:(9:Nat)≠105:=by decide
theorem neMS:105≠(9:Nat):=by decide
theorem pc_ (a:Act) (x y:Nat) (v u:Value) (h:x≠y):(a.put (some x) v).put (some y) u=(a.put (some y) u).put (some x) v:=Act.put_comm a v u (fun d hd he=>h (by injection hd with hd;injection he with he;omega))
def frD (a:Act) (Lj xG Lk Ll Bc Lm xH Ln Lo Lp Lq kE uX:Value):Act:=(((((((((((((a.put (some 45) Lj).put (some 46) xG).put (some 49) Lk).put (some 50) Ll).put (some 51) Bc).put (some 52) Lm).put (some 53) xH).put (some 47) Ln).put (some 48) Lo).put (some 54) Lp).put (some 55) Lq).put (some 8) kE).put (some 7) uX)
theorem region_decode {ah:Array Oper} (mq:ah=((Tryz.f101.body.bind (z_q 11)).getD #[])) (Q:Exit->Act->World->Prop) (hQ:∀c (a:Act) d v w,Q (.panic c) (a.put d v) w->Q (.panic c) a w) (a:Act) (W:World) (aj:a.tmps.size=88)
  (wg:World) (vl vr:Value) (xs ys:List Value) (s:ByteArray) (G go n cg i yn yc:Nat) (yA:Option Addr) (hi:(i:Int)<(n:Int))
  (h8:a.eval (.tmp 8)=vl) (Wg:a.eval (.tmp 11)=.string s) (h7:a.eval (.tmp 7)=vr) (h9:a.eval (.tmp 9)=.slice (some ⟨G,go,none⟩) n cg) (bE:a.eval (.tmp 10)=.int .i64 i)
  (Be:wg.cell? ⟨G,go+i,none⟩=some (.slice yA yn yc)) (HL:Own W wg.heap.size 9 vl xs) (HR:Own W wg.heap.size 105 vr ys) (HB:Below wg.heap.size wg W) (hl:(xs.length+1)*16<=140737488355328) (hr:(ys.length+1)*24<=140737488355328)
  (aO:∀Lj xG Lk Ll Bc Lm xH Ln Lo Lp Lq kE uX W',Own W' wg.heap.size 9 kE (xs++[.string s])->Own W' wg.heap.size 105 uX (ys++[.slice yA yn yc])->Below wg.heap.size wg W'->Q .normal (frD a Lj xG Lk Ll Bc Lm xH Ln Lo Lp Lq kE uX) W') :
  (Code.region 11 ah true).wp prog Q a W:=by
 subst mq
 have ev:Region.noSelect ((Tryz.f101.body.bind (z_q 11)).getD #[])=true:=by kernel_rfl
 have ft:((Tryz.f101.body.bind (z_q 11)).getD #[]).size=13:=by kernel_rfl
 refine wp_region_held (S:=fun w'=>Below wg.heap.size wg w') (by kernel_rfl) ?_;rw[ft];have bx:Below wg.heap.size wg W.drew:=HB.drew;have Dl:Own W.drew wg.heap.size 9 vl xs:=HL.drew;have Dm:Own W.drew wg.heap.size 105 vr ys:=HR.drew;clear HB HL HR;show wpAnyH _ _ _ _ _ _ _ _ W.drew;generalize W.drew=W0 at *;refine z_K 0 _ _ vl opsD_0 ev (by kernel_rfl) (by kernel_rfl) hQ (fun w o hS ho=>y_i ho h8) bx ?_;refine z_K 1 _ _ (.string s) opsD_1 ev (by kernel_rfl) (by kernel_rfl) hQ (fun w o hS ho=>y_i ho ((z_a (by decide)).trans Wg)) bx ?_;refine z_K 4 _ _ vr opsD_4 ev (by kernel_rfl) (by kernel_rfl) hQ (fun w o hS ho=>y_i ho ((z_a (by decide)).trans ((z_a (by decide)).trans h7))) bx ?_;refine z_K 5 _ _ (.slice (some ⟨G,go,none⟩) n cg) opsD_5 ev (by kernel_rfl) (by kernel_rfl) hQ (fun w o hS ho=>y_i ho ((z_a (by decide)).trans ((z_a (by decide)).trans ((z_a (by decide)).trans h9)))) bx ?_;refine z_K 6 _ _ (.int .i64 i) opsD_6 ev (by kernel_rfl) (by kernel_rfl) hQ (fun w o hS ho=>y_i ho ((z_a (by decide)).trans ((z_a (by decide)).trans ((z_a (by decide)).trans ((z_a (by decide)).trans bE))))) bx ?_;refine z_K 7 _ _ (.pointer (some ⟨G,go+i,none⟩)) opsD_7 ev (by kernel_rfl) (by kernel_rfl) hQ (fun w o hS ho=>exD_ix ho ((z_a (by decide)).trans (z_d (by simp only[z_f,aj];decide))) (z_d (by simp only[z_f,aj];decide)) hi) bx ?_;refine z_K 8 _ _ (.slice yA yn yc) opsD_8 ev (by kernel_rfl) (by kernel_rfl) hQ (fun w o hS ho=>exD_load ho (z_d (by simp only[z_f,aj];decide)) ((hS.cell (q_c wg _ Be)).trans Be)) bx ?_;refine rg_two 2 9 _ _ _ _ opsD_2 opsD_9 (by kernel_rfl) (fun o ho=>?_) (fun o ho=>?_)
 ·have b1:=bx.alloc bx.size (.cells #[.string s] 9)
  have l1:=Dl.alloc (.cells #[.string s] 9);have r1:=Dm.alloc (.cells #[.string s] 9);have QV:=Blk.new W0 9 #[.string s];refine ⟨_,_,exD_boxS ho ((z_a (by decide)).trans ((z_a (by decide)).trans ((z_a (by decide)).trans ((z_a (by decide)).trans ((z_a (by decide)).trans (z_d (by simp only[z_f,aj];decide))))))),b1,?_⟩;refine rg_two 3 9 _ _ _ _ opsD_3 opsD_9 (by kernel_rfl) (fun o ho=>?_) (fun o ho=>?_)
  ·refine v_o ho underlying38 info9 rfl (by decide) ((z_a (by decide)).trans ((z_a (by decide)).trans ((z_a (by decide)).trans ((z_a (by decide)).trans ((z_a (by decide)).trans ((z_a (by decide)).trans ((z_a (by decide)).trans (z_d (by simp only[z_f,aj];decide))))))))) (z_d (by simp only[z_f,aj];decide)) rfl l1 QV b1.size hl fun kE W2 l2 bJ=>?_
   have b2:=b1.grown bJ b1.size fun k hk=>(l1.lt k hk).1;have r2:=r1.keep bJ (r1.ne_ l1 neMS);refine ⟨b2,?_⟩;refine x_o 9 _ _ opsD_9 (by kernel_rfl) fun o ho=>?_;have b3:=b2.alloc b2.size (.cells #[.slice yA yn yc] 105);have l3:=l2.alloc (.cells #[.slice yA yn yc] 105);have r3:=r2.alloc (.cells #[.slice yA yn yc] 105);have Dn:=Blk.new W2 105 #[.slice yA yn yc];refine ⟨_,_,exD_boxM ho ((z_a (by decide)).trans ((z_a (by decide)).trans (z_d (by simp only[z_f,aj];decide)))),b3,?_⟩;refine x_o 10 _ _ opsD_10 (by kernel_rfl) fun o ho=>?_;refine v_o ho underlying251 infoB rfl (by decide) ((z_a (by decide)).trans ((z_a (by decide)).trans ((z_a (by decide)).trans ((z_a (by decide)).trans ((z_a (by decide)).trans ((z_a (by decide)).trans ((z_a (by decide)).trans (z_d (by simp only[z_f,aj];decide))))))))) (z_d (by simp only[z_f,aj];decide)) rfl r3 Dn b3.size hr fun uX W4 r4 ln=>?_;have b4:=b3.grown ln b3.size fun k hk=>(r3.lt k hk).1;have l4:=l3.keep ln (l3.ne_ r3 neSM);refine ⟨b4,?_⟩;refine x_o 11 _ _ opsD_11 (by kernel_rfl) fun o ho=>⟨_,_,x_U ho ((z_a (by decide)).trans ((z_a (by decide)).trans (z_d (by simp only[z_f,aj];decide)))),b4,?_⟩;refine x_o 12 _ _ opsD_12 (by kernel_rfl) fun o ho=>⟨_,_,x_U ho ((z_a (by decide)).trans (z_d (by simp only[z_f,aj];decide))),b4,?_⟩;exact wpAnyH_done (by kernel_rfl) (aO _ _ _ _ _ _ _ _ _ _ _ _ _ _ l4 r4 b4) _
  ·have b2:=b1.alloc b1.size (.cells #[.slice yA yn yc] 105)
   have l2:=l1.alloc (.cells #[.slice yA yn yc] 105);have r2:=r1.alloc (.cells #[.slice yA yn yc] 105);have Do:=Blk.new (W0.alloc (.cells #[.string s] 9)) 105 #[.slice yA yn yc];have Lr:=QV.alloc (.cells #[.slice yA yn yc] 105);refine ⟨_,_,exD_boxM ho ((z_a (by decide)).trans (z_d (by simp only[z_f,aj];decide))),b2,?_⟩;refine x_o 3 _ _ opsD_3 (by kernel_rfl) fun o ho=>?_;refine v_o ho underlying38 info9 rfl (by decide) ((z_a (by decide)).trans ((z_a (by decide)).trans ((z_a (by decide)).trans ((z_a (by decide)).trans ((z_a (by decide)).trans ((z_a (by decide)).trans ((z_a (by decide)).trans ((z_a (by decide)).trans (z_d (by simp only[z_f,aj];decide)))))))))) ((z_a (by decide)).trans (z_d (by simp only[z_f,aj];decide))) rfl l2 Lr b2.size hl fun kE W3 l3 eW=>?_;have b3:=b2.grown eW b2.size fun k hk=>(l2.lt k hk).1;have r3:=r2.keep eW (r2.ne_ l2 neMS);have Dn:=Do.grown eW (Do.own_no l2 neMS);refine ⟨b3,?_⟩;refine x_o 10 _ _ opsD_10 (by kernel_rfl) fun o ho=>?_;refine v_o ho underlying251 infoB rfl (by decide) ((z_a (by decide)).trans ((z_a (by decide)).trans ((z_a (by decide)).trans ((z_a (by decide)).trans ((z_a (by decide)).trans ((z_a (by decide)).trans ((z_a (by decide)).trans (z_d (by simp only[z_f,aj];decide))))))))) ((z_a (by decide)).trans (z_d (by simp only[z_f,aj];decide))) rfl r3 Dn b3.size hr fun uX W4 r4 ln=>?_;have b4:=b3.grown ln b3.size fun k hk=>(r3.lt k hk).1;have l4:=l3.keep ln (l3.ne_ r3 neSM);refine ⟨b4,?_⟩;refine x_o 11 _ _ opsD_11 (by kernel_rfl) fun o ho=>⟨_,_,x_U ho ((z_a (by decide)).trans (z_d (by simp only[z_f,aj];decide))),b4,?_⟩;refine x_o 12 _ _ opsD_12 (by kernel_rfl) fun o ho=>⟨_,_,x_U ho ((z_a (by decide)).trans (z_d (by simp only[z_f,aj];decide))),b4,?_⟩;rw[pc_ _ 54 48 _ _ (by decide)];exact wpAnyH_done (by kernel_rfl) (aO _ _ _ _ _ _ _ _ _ _ _ _ _ _ l4 r4 b4) _
 ·have b1:=bx.alloc bx.size (.cells #[.slice yA yn yc] 105)
  have l1:=Dl.alloc (.cells #[.slice yA yn yc] 105);have r1:=Dm.alloc (.cells #[.slice yA yn yc] 105);have Wh:=Blk.new W0 105 #[.slice yA yn yc];refine ⟨_,_,exD_boxM ho (z_d (by simp only[z_f,aj];decide)),b1,?_⟩;refine x_o 2 _ _ opsD_2 (by kernel_rfl) fun o ho=>?_;have b2:=b1.alloc b1.size (.cells #[.string s] 9);have l2:=l1.alloc (.cells #[.string s] 9);have r2:=r1.alloc (.cells #[.string s] 9);have Lr:=Blk.new (W0.alloc (.cells #[.slice yA yn yc] 105)) 9 #[.string s];have Do:=Wh.alloc (.cells #[.string s] 9);refine ⟨_,_,exD_boxS ho ((z_a (by decide)).trans ((z_a (by decide)).trans ((z_a (by decide)).trans ((z_a (by decide)).trans ((z_a (by decide)).trans ((z_a (by decide)).trans (z_d (by simp only[z_f,aj];decide)))))))),b2,?_⟩;refine x_o 3 _ _ opsD_3 (by kernel_rfl) fun o ho=>?_;refine v_o ho underlying38 info9 rfl (by decide) ((z_a (by decide)).trans ((z_a (by decide)).trans ((z_a (by decide)).trans ((z_a (by decide)).trans ((z_a (by decide)).trans ((z_a (by decide)).trans ((z_a (by decide)).trans ((z_a (by decide)).trans (z_d (by simp only[z_f,aj];decide)))))))))) (z_d (by simp only[z_f,aj];decide)) rfl l2 Lr b2.size hl fun kE W3 l3 eW=>?_;have b3:=b2.grown eW b2.size fun k hk=>(l2.lt k hk).1;have r3:=r2.keep eW (r2.ne_ l2 neMS);have Dn:=Do.grown eW (Do.own_no l2 neMS);refine ⟨b3,?_⟩;refine x_o 10 _ _ opsD_10 (by kernel_rfl) fun o ho=>?_;refine v_o ho underlying251 infoB rfl (by decide) ((z_a (by decide)).trans ((z_a (by decide)).trans ((z_a (by decide)).trans ((z_a (by decide)).trans ((z_a (by decide)).trans ((z_a (by decide)).trans ((z_a (by decide)).trans (z_d (by simp only[z_f,aj];decide))))))))) ((z_a (by decide)).trans ((z_a (by decide)).trans (z_d (by simp only[z_f,aj];decide)))) rfl r3 Dn b3.size hr fun uX W4 r4 ln=>?_;have b4:=b3.grown ln b3.size fun k hk=>(r3.lt k hk).1;have l4:=l3.keep ln (l3.ne_ r3 neSM);refine ⟨b4,?_⟩;refine x_o 11 _ _ opsD_11 (by kernel_rfl) fun o ho=>⟨_,_,x_U ho ((z_a (by decide)).trans (z_d (by simp only[z_f,aj];decide))),b4,?_⟩;refine x_o 12 _ _ opsD_12 (by kernel_rfl) fun o ho=>⟨_,_,x_U ho ((z_a (by decide)).trans (z_d (by simp only[z_f,aj];decide))),b4,?_⟩;rw[pc_ _ 54 47 _ _ (by decide)];rw[pc_ _ 54 48 _ _ (by decide)];exact wpAnyH_done (by kernel_rfl) (aO _ _ _ _ _ _ _ _ _ _ _ _ _ _ l4 r4 b4) _
end
section
variable {P:Program} {ah:Array Oper} {R:Act->World->Prop} {H:Held} {fuel:Nat} {listed:Array Bool} {a:Act} {w:World}
theorem y_L (i:Nat) {o:Oper} (ho:ah[i]?=some o) (hg:o.guard=none) (hr:Region.ready .any ah listed=[i])
  (h:∃v w1,(execOp a.eval o).run P w=.ok (.value v) w1/\(ObH .any ah H i w w1/\Fr P ah R H fuel (listed.setIfInBounds i true) (a.put o.dst v) w1)):Fr P ah R H (fuel+1) listed a w:=by
 obtain ⟨v,w1,h1,h2,h3⟩:=h;refine fr_do i ho hr fun K Qx hK=>?_;rw[if_pos (by unfold Region.wanted;rw[hg])];unfold Oper.wp;rw[h1];exact hK _ _ h2 h3
end
section
variable {P:Program} {ρ:Operand->Value} {w:World} {o:Oper}
theorem x_S {s x:Operand} {t e:TypeId} {z:Value} {bytes base m c:Nat} {A:Option Addr} {v:Value} {xs ys:List Value} {R:Value->World->Prop} (h:o.op=.call { callee:=.builtin .append,args:=#[s,x],argTypes:=#[t,t] })
  (ht:P.underlying t=some (.slice e)) (b5:(P.info? e).map (fun i=>(i.zero,i.size,i.bytes))=some (some z,1,bytes)) (hz:z.cells.size=1) (iy:0<bytes)
  (hs:ρ s=v) (hx:ρ x=.slice A m c) (h1:∀u∈ys,u.oneCell'=true) (HO:Own w base e v xs) (hy:z_g w (.slice A m c) ys) (nX:0<ys.length) (aP:base<=w.heap.size) (hl:(xs.length+ys.length)*bytes<=140737488355328)
  (hR:∀v1 w1,Own w1 base e v1 (xs++ys)->w.grownBy w1 v.ownBlock->R v1 w1):∃v1 w1,(execOp ρ o).run P w=.ok (.value v1) w1/\R v1 w1:=by
 obtain ⟨i0,hi,dB,dv,cX⟩:=info_parts b5;have aq:xs.length+ys.length<=140737488355328:=q_g (Nat.le_mul_of_pos_right _ iy) hl;obtain ⟨A',c',he,aK,bf,aa⟩:=hy;cases he;obtain ⟨b,off,rfl,lW⟩:=aa nX
 obtain ⟨v1,w1,nf,h2,hg,_⟩:=run_append_own_at (P:=P) w base t o.type e i0 z 1 bytes ht hi dB dv cX hz (by omega) v xs.length xs HO ⟨b,off,none⟩ ys.length c ys (by simp)
  (fun j u hu=>by
   have hj:j<ys.length:=(q_J.1 hu).1
   rw[y_M];exact (lW j hj).trans hu) h1 (by simp only[maxLen];omega) hl aP
 refine ⟨v1,w1,?_,hR v1 w1 (by unfold Own;simpa using h2) hg⟩;unfold execOp;simp only[h,resolve,invoke,builtin,Sem.run_bind,Sem.run_pure,Result.andThen_ok,List.map_toArray,List.map_cons,List.map_nil,hs,hx,nf]
theorem ex_copy {d s:Operand} {dT sT elem:TypeId} {g off dLen dCap sLen sCap:Nat} {A:Option Addr} {aQ:Array Value} {t:TypeId} {ys:List Value} {R:Value->World->Prop}
  (h:o.op=.call { callee:=.builtin .copy,args:=#[d,s],argTypes:=#[dT,sT] }) (hu:P.underlying dT=some (.slice elem)) (aj:(P.info? elem).map (·.size)=some 1)
  (hd:ρ d=.slice (some ⟨g,off,none⟩) dLen dCap) (hs:ρ s=.slice A sLen sCap) (hg:Blk w g t aQ) (hy:z_g w (.slice A sLen sCap) ys) (nX:0<ys.length) (hn:ys.length<=dLen) (gX:off+ys.length<=aQ.size) (h1:∀u∈ys,u.oneCell'=true)
  (hR:R (goInt ys.length) (w.setRow g (aQ.toList.take off++ys++aQ.toList.drop (off+ys.length)).toArray)):∃v1 w1,(execOp ρ o).run P w=.ok (.value v1) w1/\R v1 w1:=by
 obtain ⟨A',c',he,aK,bf,aa⟩:=hy;cases he;obtain ⟨b,gz,rfl,lW⟩:=aa nX
 have iU:=run_copy_row (P:=P) w dT sT o.type elem g off dLen dCap ⟨b,gz,none⟩ ys.length sCap aQ t ys hu aj hg (Nat.min_eq_left hn).symm (fun j u hu=>by
   have hj:j<ys.length:=(q_J.1 hu).1
   rw[y_M];exact (lW j hj).trans hu) gX h1
 refine ⟨_,_,?_,hR⟩;unfold execOp;simp only[h,resolve,invoke,builtin,Sem.run_bind,Sem.run_pure,Result.andThen_ok,List.map_toArray,List.map_cons,List.map_nil,hd,hs,iU]
end
section
variable {P:Program} {fn:Func} {tmps:Array Value} {w:World}
theorem blk_rangeAt {g t:Nat} {cs:Array Value} (h:Blk w g t cs):w.rangeAt g 0 cs.toList:=by
 intro j v hj;rw[q_D,h.cell];simpa using hj
theorem v_R {g t:Nat} {cs:Array Value} {ty:TypeId} {d:TypeDesc} (h:Blk w g t cs) (hu:P.underlying ty=some d) (hd:d.isRow=true) (hi:(P.info? ty).map (·.size)=some cs.size) :
  (loadVar ty ⟨g,0,none⟩).run P w=.ok (.agg cs) w:=by
 have:=run_loadVar_mid (P:=P) w g 0 ty cs.toList d (blk_rangeAt h) hu hd (by simpa using hi);simpa using this
theorem run_loadAt_blk {g t:Nat} {cs:Array Value} {ty:TypeId} {d:TypeDesc} (h:Blk w g t cs) (hu:P.underlying ty=some d) (hd:d.isRow=true) (hi:(P.info? ty).map (·.size)=some cs.size) :
  (Instr.loadAt ty (.pointer (some ⟨g,0,none⟩))).run P w=.ok (.agg cs) w:=by
 have:=run_loadAt_mid (P:=P) w g 0 ty cs.toList d (blk_rangeAt h) hu hd (by simpa using hi);simpa using this
theorem x_f {a:Tmp} {ty t g:Nat} {cs:Array Value} {d:TypeDesc} (h:fn.results=#[.cell a ty]) (ha:tmps.getD a undef=.pointer (some ⟨g,0,none⟩)) (hg:Blk w g t cs)
  (hu:P.underlying ty=some d) (hd:d.isRow=true) (hi:(P.info? ty).map (·.size)=some cs.size):(results fn tmps).run P w=.ok (.agg cs) w:=by
 have hl:=v_R hg hu hd hi
 have Ls:tmps[a]?.getD undef=.pointer (some ⟨g,0,none⟩):=by simpa using ha
 simp[results,h,Ls,asAddr,Sem.run_bind,hl]
theorem w_t {a u:Tmp} {ty t g:Nat} {cs:Array Value} {d:TypeDesc} (h:fn.results=#[.cell a ty,.tmp u]) (ha:tmps.getD a undef=.pointer (some ⟨g,0,none⟩)) (hg:Blk w g t cs)
  (hu:P.underlying ty=some d) (hd:d.isRow=true) (hi:(P.info? ty).map (·.size)=some cs.size):(results fn tmps).run P w=.ok (.tuple #[.agg cs,tmps.getD u undef]) w:=by
 have hl:=v_R hg hu hd hi
 have Ls:tmps[a]?.getD undef=.pointer (some ⟨g,0,none⟩):=by simpa using ha
 simp[results,h,Ls,asAddr,Sem.run_bind,hl]
end
end Go.Proofs.YtdkheklakfbeeaaGreatDoor
