/- Part 10 of the proof. -/
import Derived.Deep.RegionHeld3
import Derived.Test.YtdkheklakfbeeaaGreatDoorM09
set_option linter.all false
set_option maxRecDepth 100000
set_option maxHeartbeats 16000000
namespace Go.Proofs.YtdkheklakfbeeaaGreatDoor
open Go.RowKit Tryz
variable {A X:List (List UInt8)}{B:List Bool}{C D T:List B_}{c i k n:Nat}{e:Int}{p:Addr}{u v:Value}{x y:Operand}
section
open GfM
def opsA_0:ce ((Tryz.f158.body.bind (dF 15)).getD #[]) 0 (.move (.tmp 6)) (some 57):=by unfold ce;kernel_rfl
def opsA_1:ce ((Tryz.f158.body.bind (dF 15)).getD #[]) 1 (.move (.tmp 7)) (some 58):=by unfold ce;kernel_rfl
def opsA_2:ce ((Tryz.f158.body.bind (dF 15)).getD #[]) 2 (.move (.tmp 6)) (some 59):=by unfold ce;kernel_rfl
def opsA_3:ce ((Tryz.f158.body.bind (dF 15)).getD #[]) 3 (.move (.tmp 7)) (some 60):=by unfold ce;kernel_rfl
def opsA_4:ce ((Tryz.f158.body.bind (dF 15)).getD #[]) 4 (.indexAddr 38 (.tmp 59) (.tmp 60)) (some 61):=by unfold ce;kernel_rfl
def ZR:ce ((Tryz.f158.body.bind (dF 15)).getD #[]) 5 (.load 9 (.tmp 61)) (some 62):=by unfold ce;kernel_rfl
def opsA_6:ce ((Tryz.f158.body.bind (dF 15)).getD #[]) 6 (.move (.tmp 0)) (some 63):=by unfold ce;kernel_rfl
def opsA_7:ce ((Tryz.f158.body.bind (dF 15)).getD #[]) 7 (.move (.tmp 7)) (some 64):=by unfold ce;kernel_rfl
def opsA_8:ce ((Tryz.f158.body.bind (dF 15)).getD #[]) 8 (.indexAddr 251 (.tmp 63) (.tmp 64)) (some 65):=by unfold ce;kernel_rfl
def opsA_9:ce ((Tryz.f158.body.bind (dF 15)).getD #[]) 9 (.load 105 (.tmp 65)) (some 66):=by unfold ce;kernel_rfl
def opsA_10:ce ((Tryz.f158.body.bind (dF 15)).getD #[]) 10 (.move (.tmp 8)) (some 67):=by unfold ce;kernel_rfl
def opsA_11:ce ((Tryz.f158.body.bind (dF 15)).getD #[]) 11 (.indexAddr 105 (.tmp 66) (.tmp 67)) (some 68):=by unfold ce;kernel_rfl
def opsA_12:ce ((Tryz.f158.body.bind (dF 15)).getD #[]) 12 (.load 5 (.tmp 68)) (some 69):=by unfold ce;kernel_rfl
def opsA_13:ce ((Tryz.f158.body.bind (dF 15)).getD #[]) 13 (.move (.tmp 9)) (some 70):=by unfold ce;kernel_rfl
def LV:ce ((Tryz.f158.body.bind (dF 15)).getD #[]) 14 (.call { callee:=.value (.func 161),args:=#[.tmp 69,.tmp 70],argTypes:=#[5,9] }) (some 71):=by unfold ce;kernel_rfl
def M5:ce ((Tryz.f158.body.bind (dF 15)).getD #[]) 15 (.call { callee:=.value (.func 160),args:=#[.tmp 62,.tmp 71],argTypes:=#[9,9] }) (some 72):=by unfold ce;kernel_rfl
def No:ce ((Tryz.f158.body.bind (dF 15)).getD #[]) 16 (.indexAddr 38 (.tmp 57) (.tmp 58)) (some 73):=by unfold ce;kernel_rfl
def NR:ce ((Tryz.f158.body.bind (dF 15)).getD #[]) 17 (.store 9 (.tmp 73) (.tmp 72)) none:=by unfold ce;kernel_rfl
section
variable {ρ:Operand->Value} {w:W_} {o:Oper}
def xC (h:o.op=.load 9 x) (e:ρ x=.pointer (some p)) (g:w.cell? p=some v):(execOp ρ o).run prog w=.ok (.value v) w:=by
 unfold execOp;rw[h];simp only[e];go_simp
def Rz (h:o.op=.load 5 x) (e:ρ x=.pointer (some p)) (g:w.cell? p=some v):(execOp ρ o).run prog w=.ok (.value v) w:=by
 unfold execOp;rw[h];simp only[e];go_simp
def R0 (h:o.op=.load 105 x) (e:ρ x=.pointer (some p)) (g:w.cell? p=some v):(execOp ρ o).run prog w=.ok (.value v) w:=by
 unfold execOp;rw[h];simp only[e];go_simp
def zS (h:o.op=.indexAddr 38 x y) {G:Nat} (e:ρ x=.slice (some ⟨G,0,none⟩) n k) (g:ρ y=.int .i64 c) (i:(c:Int)<(n:Int)):(execOp ρ o).run prog w=.ok (.value (.pointer (some ⟨G,c,none⟩))) w:=by
 unfold execOp;rw[h];simp only[e,g];go_simp
def SK (h:o.op=.indexAddr 251 x y) {b f:Nat} (e:ρ x=.slice (some ⟨b,f,none⟩) n k) (g:ρ y=.int .i64 c) (i:(c:Int)<(n:Int)):(execOp ρ o).run prog w=.ok (.value (.pointer (some ⟨b,f+c,none⟩))) w:=by
 unfold execOp;rw[h];simp only[e,g];go_simp
def RP (h:o.op=.indexAddr 105 x y) {b f:Nat} (e:ρ x=.slice (some ⟨b,f,none⟩) n k) (g:ρ y=.int .i64 c) (i:(c:Int)<(n:Int)):(execOp ρ o).run prog w=.ok (.value (.pointer (some ⟨b,f+c,none⟩))) w:=by
 unfold execOp;rw[h];simp only[e,g];go_simp
def tE (h:o.op=.store 9 x y) {s:B_} (e:ρ x=.pointer (some p)) (g:ρ y=.string s) (i:w.cell? p=some u) (j:w.frozen? p=false):(execOp ρ o).run prog w=.ok .skip (w.setCell p (.string s)):=by
 unfold execOp;rw[h];simp only[e,g];go_simp
def xL (h:o.op=.call { callee:=.value (.func 161),args:=#[x,y],argTypes:=#[5,9] }) (e:ρ (.func 161)=.func (.func 161) #[] #[]) (g:ρ x=u) (i:ρ y=v):(execOp ρ o).run prog w=.ok (.enter 161 #[u,v]) w:=by
 unfold execOp;rw[h];simp only[resolve,e];go_simp
def ND (h:o.op=.call { callee:=.value (.func 160),args:=#[x,y],argTypes:=#[9,9] }) (e:ρ (.func 160)=.func (.func 160) #[] #[]) (g:ρ x=u) (i:ρ y=v):(execOp ρ o).run prog w=.ok (.enter 160 #[u,v]) w:=by
 unfold execOp;rw[h];simp only[resolve,e];go_simp
end
def frA1 (a:Act) (s k l m n o t u p At q r h e i g j:Value):Act:=(((((((((((((((((a.put (some 57) s).put (some 58) k).put (some 59) l).put (some 60) m).put (some 61) n).put (some 63) t).put (some 64) u).put (some 65) p).put (some 66) At).put (some 67) q).put (some 68) r).put (some 69) h).put (some 70) e).put (some 62) o).put (some 71) i).put (some 72) g).put (some 73) j)
def frA2 (a:Act) (s k l m n o t u p At q r h e i g j:Value):Act:=(((((((((((((((((a.put (some 57) s).put (some 58) k).put (some 59) l).put (some 60) m).put (some 61) n).put (some 63) t).put (some 64) u).put (some 65) p).put (some 66) At).put (some 67) q).put (some 68) r).put (some 69) h).put (some 70) e).put (some 71) i).put (some 62) o).put (some 72) g).put (some 73) j)
def zd {H0:Array Oper} (H8:H0=((Tryz.f158.body.bind (dF 15)).getD #[])) (Q:Exit->Act->W_->Prop) (l:∀c (a:Act) d v w,Q (.panic c) (a.put d v) w->Q (.panic c) a w) (a:Act) (W:W_) (h:a.tmps.size=77)
  (G n r I J H H1 p q kk O c:Nat) (f:Int) (s x y z:B_) (L:(r:Int)<(n:Int)) (H5:(r:Int)<(H:Int)) (H6:(c:Int)<(kk:Int))
  (h6:a.eval (.tmp 6)=(.slice (some ⟨G,0,none⟩) n n)) (F:a.eval (.tmp 7)=.int .i64 r) (h0:a.eval (.tmp 0)=(.slice (some ⟨I,J,none⟩) H H1)) (h8:a.eval (.tmp 8)=.int .i64 c) (h9:a.eval (.tmp 9)=.string s)
  (K:W_->Prop) (P:K W.drew) (t:∀w,K w->w.cell? ⟨I,J+r,none⟩=some (.slice (some ⟨p,q,none⟩) kk O)/\w.cell? ⟨p,q+c,none⟩=some (.int .u8 f))
  (N:∀w,K w->w.cell? ⟨G,r,none⟩=some (.string x)) (h4:∀w,K w->w.frozen? ⟨G,r,none⟩=false)
  (h5:∀w,K w->(w.setCell ⟨G,r,none⟩ (.string z)).cell? ⟨I,J+r,none⟩=some (.slice (some ⟨p,q,none⟩) kk O)/\(w.setCell ⟨G,r,none⟩ (.string z)).cell? ⟨p,q+c,none⟩=some (.int .u8 f))
  (H2:∀w,K w->Cl 161 #[.int .u8 f,.string s] w fun e w'=>e=.returned (.string y)/\K w')
  (h7:∀w,K w->Cl 160 #[.string x,.string y] w fun e w'=>e=.returned (.string z)/\K w')
  (H3:∀h1 V X Y Z A h2 h3 B At C D R b T E U w',K w'->Q .normal (frA1 a h1 V X Y Z A h2 h3 B At C D R b T E U) (w'.setCell ⟨G,r,none⟩ (.string z)))
  (H4:∀h1 V X Y Z A h2 h3 B At C D R b T E U w',K w'->Q .normal (frA2 a h1 V X Y Z A h2 h3 B At C D R b T E U) (w'.setCell ⟨G,r,none⟩ (.string z))) :
  (Code.region 15 H0 true).wp prog Q a W:=by
 subst H8;have k:Region.noSelect ((Tryz.f158.body.bind (dF 15)).getD #[])=true:=k_;have H7:((Tryz.f158.body.bind (dF 15)).getD #[]).size=18:=k_;refine wp_region_held (S:=fun w'=>w'.cell? ⟨I,J+r,none⟩=some (.slice (some ⟨p,q,none⟩) kk O)/\w'.cell? ⟨p,q+c,none⟩=some (.int .u8 f)) k_ ?_;rw[H7];have i:=t _ P;show wpAnyH _ _ _ _ _ _ _ _ W.drew;refine da 0 _ _ (.slice (some ⟨G,0,none⟩) n n) opsA_0 k k_ k_ l (fun w o j g=>A4 g h6) i ?_;refine da 1 _ _ (.int .i64 r) opsA_1 k k_ k_ l (fun w o j g=>A4 g ((a6 d_).trans F)) i ?_;refine da 2 _ _ (.slice (some ⟨G,0,none⟩) n n) opsA_2 k k_ k_ l (fun w o j g=>A4 g ((a6 d_).trans ((a6 d_).trans h6))) i ?_;refine da 3 _ _ (.int .i64 r) opsA_3 k k_ k_ l (fun w o j g=>A4 g ((a6 d_).trans ((a6 d_).trans ((a6 d_).trans F)))) i ?_;refine da 4 _ _ (.pointer (some ⟨G,r,none⟩)) opsA_4 k k_ k_ l (fun w o j g=>zS g ((a6 d_).trans (cV (by simp only[cY,h];decide))) (cV (by simp only[cY,h];decide)) L) i ?_;refine da 6 _ _ (.slice (some ⟨I,J,none⟩) H H1) opsA_6 k k_ k_ l (fun w o j g=>A4 g ((a6 d_).trans ((a6 d_).trans ((a6 d_).trans ((a6 d_).trans ((a6 d_).trans h0)))))) i ?_;refine da 7 _ _ (.int .i64 r) opsA_7 k k_ k_ l (fun w o j g=>A4 g ((a6 d_).trans ((a6 d_).trans ((a6 d_).trans ((a6 d_).trans ((a6 d_).trans ((a6 d_).trans F))))))) i ?_;refine da 8 _ _ (.pointer (some ⟨I,J+r,none⟩)) opsA_8 k k_ k_ l (fun w o j g=>SK g ((a6 d_).trans (cV (by simp only[cY,h];decide))) (cV (by simp only[cY,h];decide)) H5) i ?_;refine da 9 _ _ (.slice (some ⟨p,q,none⟩) kk O) opsA_9 k k_ k_ l (fun w o j g=>R0 g (cV (by simp only[cY,h];decide)) j.1) i ?_;refine da 10 _ _ (.int .i64 c) opsA_10 k k_ k_ l (fun w o j g=>A4 g ((a6 d_).trans ((a6 d_).trans ((a6 d_).trans ((a6 d_).trans ((a6 d_).trans ((a6 d_).trans ((a6 d_).trans ((a6 d_).trans ((a6 d_).trans h8)))))))))) i ?_;refine da 11 _ _ (.pointer (some ⟨p,q+c,none⟩)) opsA_11 k k_ k_ l (fun w o j g=>RP g ((a6 d_).trans (cV (by simp only[cY,h];decide))) (cV (by simp only[cY,h];decide)) H6) i ?_;refine da 12 _ _ (.int .u8 f) opsA_12 k k_ k_ l (fun w o j g=>Rz g (cV (by simp only[cY,h];decide)) j.2) i ?_;refine da 13 _ _ (.string s) opsA_13 k k_ k_ l (fun w o j g=>A4 g ((a6 d_).trans ((a6 d_).trans ((a6 d_).trans ((a6 d_).trans ((a6 d_).trans ((a6 d_).trans ((a6 d_).trans ((a6 d_).trans ((a6 d_).trans ((a6 d_).trans ((a6 d_).trans ((a6 d_).trans h9))))))))))))) i ?_;refine qc 5 14 _ _ _ _ (.string x) _ _ ZR LV k_ (fun o g=>xC g ((a6 d_).trans ((a6 d_).trans ((a6 d_).trans ((a6 d_).trans ((a6 d_).trans ((a6 d_).trans ((a6 d_).trans ((a6 d_).trans (cV (by simp only[cY,h];decide)))))))))) (N _ P)) (fun o g=>xL g rfl ((a6 d_).trans (cV (by simp only[cY,h];decide))) (cV (by simp only[cY,h];decide))) i ?_ ?_
 ·refine qJ 14 _ _ _ _ LV k_ (fun o g=>xL g rfl ((a6 d_).trans ((a6 d_).trans (cV (by simp only[cY,h];decide)))) ((a6 d_).trans (cV (by simp only[cY,h];decide)))) ?_
  refine (H2 _ P).mono ?_;rintro e w3 ⟨rfl,u⟩;refine ⟨_,rfl,t _ u,?_⟩;refine qJ 15 _ _ _ _ M5 k_ (fun o g=>ND g rfl ((a6 d_).trans (cV (by simp only[cY,h];decide))) (cV (by simp only[cY,h];decide))) ?_;refine (h7 _ u).mono ?_;rintro e M ⟨rfl,m⟩;refine ⟨_,rfl,t _ m,?_⟩;refine w_3 16 _ _ (.pointer (some ⟨G,r,none⟩)) M No k_ (fun o g=>zS g ((a6 d_).trans ((a6 d_).trans ((a6 d_).trans ((a6 d_).trans ((a6 d_).trans ((a6 d_).trans ((a6 d_).trans ((a6 d_).trans ((a6 d_).trans ((a6 d_).trans ((a6 d_).trans ((a6 d_).trans ((a6 d_).trans ((a6 d_).trans ((a6 d_).trans (cV (by simp only[cY,h];decide))))))))))))))))) ((a6 d_).trans ((a6 d_).trans ((a6 d_).trans ((a6 d_).trans ((a6 d_).trans ((a6 d_).trans ((a6 d_).trans ((a6 d_).trans ((a6 d_).trans ((a6 d_).trans ((a6 d_).trans ((a6 d_).trans ((a6 d_).trans ((a6 d_).trans (cV (by simp only[cY,h];decide)))))))))))))))) L) (t _ m) ?_;refine rC 17 _ (M.setCell ⟨G,r,none⟩ (.string z)) NR k_ (fun o g=>tE g (cV (by simp only[cY,h];decide)) ((a6 d_).trans (cV (by simp only[cY,h];decide))) (N _ m) (h4 _ m)) (h5 _ m) ?_;exact wpAnyH_done k_ (H3 _ _ _ _ _ _ _ _ _ _ _ _ _ _ _ _ _ _ m) _
 refine (H2 _ P).mono ?_;rintro e w3 ⟨rfl,u⟩;refine ⟨_,rfl,t _ u,?_⟩;refine w_3 5 _ _ (.string x) w3 ZR k_ (fun o g=>xC g ((a6 d_).trans ((a6 d_).trans ((a6 d_).trans ((a6 d_).trans ((a6 d_).trans ((a6 d_).trans ((a6 d_).trans ((a6 d_).trans ((a6 d_).trans (cV (by simp only[cY,h];decide))))))))))) (N _ u)) (t _ u) ?_;refine qJ 15 _ _ _ _ M5 k_ (fun o g=>ND g rfl (cV (by simp only[cY,h];decide)) ((a6 d_).trans (cV (by simp only[cY,h];decide)))) ?_;refine (h7 _ u).mono ?_;rintro e M ⟨rfl,m⟩;refine ⟨_,rfl,t _ m,?_⟩;refine w_3 16 _ _ (.pointer (some ⟨G,r,none⟩)) M No k_ (fun o g=>zS g ((a6 d_).trans ((a6 d_).trans ((a6 d_).trans ((a6 d_).trans ((a6 d_).trans ((a6 d_).trans ((a6 d_).trans ((a6 d_).trans ((a6 d_).trans ((a6 d_).trans ((a6 d_).trans ((a6 d_).trans ((a6 d_).trans ((a6 d_).trans ((a6 d_).trans (cV (by simp only[cY,h];decide))))))))))))))))) ((a6 d_).trans ((a6 d_).trans ((a6 d_).trans ((a6 d_).trans ((a6 d_).trans ((a6 d_).trans ((a6 d_).trans ((a6 d_).trans ((a6 d_).trans ((a6 d_).trans ((a6 d_).trans ((a6 d_).trans ((a6 d_).trans ((a6 d_).trans (cV (by simp only[cY,h];decide)))))))))))))))) L) (t _ m) ?_;refine rC 17 _ (M.setCell ⟨G,r,none⟩ (.string z)) NR k_ (fun o g=>tE g (cV (by simp only[cY,h];decide)) ((a6 d_).trans (cV (by simp only[cY,h];decide))) (N _ m) (h4 _ m)) (h5 _ m) ?_;exact wpAnyH_done k_ (H4 _ _ _ _ _ _ _ _ _ _ _ _ _ _ _ _ _ _ m) _
end
section
open GfM
def info9':(prog.info? 9).map (fun i=>(i.zero,i.size,i.bytes))=some (some (.string ⟨#[]⟩),1,16):=k_
def Hs (m:Nat) (hm:m<=1000):∀W:W_,(Instr.makeSlice 38 (.int .i64 m) (.int .i64 m)).run prog W=.ok (.slice (some ⟨W.heap.size,0,none⟩) m m) (W.alloc (.cells (madeCells #[.string ⟨#[]⟩] m) 9)):=by
 intro W;exact run_make_row' 38 9 (.string ⟨#[]⟩) 16 underlying38 info9' rfl .i64 .i64 m o_ o_ W
def aH.made_texts (W:W_) (base n:Nat) (hb:base<=W.heap.size) (hn:n<=1000):aH (W.alloc (.cells (madeCells #[.string ⟨#[]⟩] n) 9)) base 9 (.slice (some ⟨W.heap.size,0,none⟩) n n) (sv (List.replicate n ByteArray.empty)):=by
 have h:=aH.lit_ W base 9 (madeCells #[.string ⟨#[]⟩] n) hb (by simp[size_madeCells,maxLen];omega)
 have e:(madeCells #[Value.string ⟨#[]⟩] n).size=n:=by simp[size_madeCells]
 have g:(madeCells #[Value.string ⟨#[]⟩] n).toList=sv (List.replicate n ByteArray.empty):=by rw[toList_madeCells_one];simp only[sv,List.map_replicate];rfl
 rwa [e,g] at h
def vH (A:List (List UInt8)) (T:List B_) (r:Nat):List B_:=(List.range A.length).map fun s=>if s<r then bs (i6 A T (nn T) s T.length) else ByteArray.empty
def CJ (A:List (List UInt8)) (T:List B_) (r:Nat):(vH A T r).length=A.length:=by simp[vH]
def OK (A:List (List UInt8)) (T:List B_):vH A T 0=List.replicate A.length ByteArray.empty:=by
 unfold vH;apply i2 s_;intro i e g;simp
def W8 (A:List (List UInt8)) (T:List B_):vH A T A.length=Kd A T:=by
 unfold vH Kd;apply List.map_congr_left;intro s hs;rw[if_pos (by simpa using hs)]
def O3 (A:List (List UInt8)) (T:List B_) (r:Nat) (j:r<A.length):(vH A T r).set r (bs (i6 A T (nn T) r T.length))=vH A T (r+1):=by
 unfold vH;apply C8;intro i;rw[BA];by_cases e:r=i
 ·subst e
  rw[if_pos rfl,if_pos (by simpa using j),gq,pB j];simp
 rw[if_neg e,gq,gq];by_cases h:i<A.length
 ·rw[pB h]
  simp only[Option.map_some];congr 1;by_cases g:i<r
  ·rw[if_pos g,if_pos o_]
  rw[if_neg g,if_neg o_]
 rw[pD (by simpa using h)];rfl
def convN (W:W_) (n:Nat) (hn:n<=70000):(convert 105 9 (.slice (some ⟨W.heap.size,0,none⟩) n n)).run prog (W.alloc (.cells (madeCells #[.int .u8 0] n) 5))=.ok (.string (bs (List.replicate n 0))) (W.alloc (.cells (madeCells #[.int .u8 0] n) 5)):=by
 have e:=(ev.made_zero W n o_).reads;rw[Aa] at e;exact UG (P:=prog) (src:=105) (dst:=9) underlying105 underlying5 underlying9 e
def mkB0 (m:Nat) (hm:m<=140737488355328):∀W:W_,(Instr.makeSlice 105 (.int .i64 m) (.int .i64 m)).run prog W=.ok (.slice (some ⟨W.heap.size,0,none⟩) m m) (W.alloc (.cells (madeCells #[.int .u8 0] m) 5)):=sA m hm
def set_set (C:List B_) (r:Nat) (x y:B_):(C.set r x).set r y=C.set r y:=s_
def xI (w:W_) (va:Value) (A:List (List UInt8)) (J:lN w va A) (vl:Value) (T:List B_) (R:b_ w vl (sv T)) :
  Cl 158 #[va,vl] w fun e w'=>∃v,e=.returned (.tuple #[v,.int .i64 (Gc A T)])/\aH w' w.heap.size 9 v (sv (Ax A T))/\Below w.heap.size w w':=by
 have Z:=R;obtain ⟨x6,s,rfl,jz,cD,V⟩:=R.texts2;have y:=ab.new w 38 #[Value.slice x6 T.length s];have u:Below w.heap.size w (w.alloc (.cells #[.slice x6 T.length s] 38)):=(Below.refl _ _).alloc (bS _) _;obtain ⟨y8,SY⟩:∃y8,w.alloc (.cells #[.slice x6 T.length s] 38)=y8:=⟨_,rfl⟩;rw[SY] at y u;have hg:=Ds y8 va A (J.below u);have H5:∀W:W_,aH W w.heap.size 9 (.slice none 0 0) (sv []):=fun W=>aH.nil_ W w.heap.size 9;by_cases f:qW A=true
 ·obtain ⟨a1,a2,y9,a4,H⟩:=(v_a A).1 f
  obtain ⟨K,h6,ca,rfl,NY,SP⟩:=J.at_ o_;obtain ⟨x5,H4,z,_,_⟩:=J.rowAt 0 o_;rw[Nat.add_zero] at z;rw[f] at hg;have P:=Zz hg;clear hg;have h4:=Zz H5;clear H5;have hp:=y.lt;by_cases hl:T.length=(A.getD 0 []).length
  ·obtain ⟨x,b,rfl,C⟩:=V o_
   have a:=C 0 o_;rw[Nat.add_zero] at a;rw[<-hl] at z;have H8:=fun W (h2:Below w.heap.size w W) (h3:W.cell? ⟨w.heap.size,0,none⟩=some (.slice (some ⟨x,b,none⟩) T.length s))=>odd_any W T (.slice (some ⟨x,b,none⟩) T.length s) ⟨w.heap.size,0,none⟩ (Z.below h2) h3 o_;by_cases E:Sw T
   ·have D:=fun W h2 h3=>(H8 W h2 h3).1 E
    have h9:=Zz D;clear D H8;by_cases xO:65536<(tl T 0).size
    ·have m:Gc A T=5:=by unfold Gc;rw[if_neg (by rw[f];decide),if_neg (by rintro (h|h);exact h hl;exact h E),if_pos xO]
     have t:Ax A T=[]:=by unfold Ax;rw[if_neg (by rw[m];decide)]
     rw[m,t];have bj:0<T.length:=o_;clear m t C V J R Z H E hl y9 a4;generalize tl T 0=s0 at *;generalize A.length=n at *;generalize T.length=k at *;have D8:(0:Int)<(n:Int):=o_;have jE:0<n:=o_;go_enter func158,ntmps158;go_wp2_with fail;refine (P.o).mono ?_;rintro e x4 ⟨rfl,o⟩;have g:=rz u u.size o;have Q:=(g.cell (fV w _ z)).trans z;have i:=y.below o hp;have l:=i.cell 0;have O:=(g.cell (fV w _ a)).trans a
     go_upto_region 3 with fail
     go_cut [14] (fun mK h8=>mK=.bool false/\Below w.heap.size w h8/\ab h8 w.heap.size 38 #[.slice (some ⟨x,b,none⟩) k s])
     case first =>
      go_region_held3 (fun w'=>w'.cell? ⟨w.heap.size,0,none⟩=some (.slice (some ⟨x,b,none⟩) k s)/\w'.cell? ⟨K,h6,none⟩=some (.slice x5 k H4)) (first|assumption|go_keep|exact ⟨l,Q⟩) (first|(go_at_call 102;refine (h9.o _ g.drew l).mono ?_;rintro e w' ⟨rfl,rfl⟩))
      all_goals
       go_wp2_with fail
       go_meet
       exact ⟨rfl,g.drew,i.drew⟩
     case rest =>
      clear l i g O;obtain ⟨rfl,g,i⟩:=hcut;have l:=i.cell 0;have O:=(g.cell (fV w _ a)).trans a;go_wp2;go_ret2;exact ⟨_,rfl,h4.o _,g⟩
    have y1:Gc A T=0:=JP f hl E (by unfold nn;omega)
    have t:Ax A T=Kd A T:=by unfold Ax;rw[if_pos y1]
    rw[y1,t];have bj:0<T.length:=o_;have hN:∀j,j<T.length->(tl T j).size=nn T:=E
    have FK:nn T<=65536:=by unfold nn;omega
    have XP:(tl T 0).size=nn T:=rfl
    have uh:∀r c,r<A.length->c<T.length->(∀W,Cl 161 #[.int .u8 ((en A r c).toNat:Int),.string (tl T c)] W fun e w'=>e=.returned (.string (bs ((tb T c).map (cb (en A r c)))))/\Below W.heap.size W w') /\
      (∀W,Cl 160 #[.string (bs (i6 A T (nn T) r c)),.string (bs ((tb T c).map (cb (en A r c))))] W fun e w'=>e=.returned (.string (bs (i6 A T (nn T) r (c+1))))/\Below W.heap.size W w'):=by
     intro r c H7 H6;have h1:=hN c H6;refine ⟨fun W=>sC _ _ rfl _ _ rfl (by rw[h1];omega) W,fun W=>AO _ _ _ _ (AT _).symm (AT _).symm (by rw[cG,cG,fW,x_E,h1];omega) W⟩
    have rO:∀r c,r<A.length->c<T.length->∃U Y H0,w.cell? ⟨K,h6+r,none⟩=some (.slice (some ⟨U,Y,none⟩) T.length H0)/\w.cell? ⟨U,Y+c,none⟩=some (.int .u8 ((en A r c).toNat:Int)):=by
     intro r c H7 H6
     have rN:(A.getD r []).length=T.length:=by rw[H.2 r H7,hl]
     obtain ⟨U,Y,H0,f1,f2,f3⟩:=J.el r c H7 (by rw[rN];exact H6);rw[rN] at f1;exact ⟨U,Y,H0,f1,f3⟩
    have FL:∀r,bs (i6 A T (nn T) r 0)=bs (List.replicate (nn T) 0):=fun r=>rfl;have fK:=Zz uh;clear uh;have y4:=Zz rO;clear rO;have Oa:=Zz FL;clear FL;have AF:=Zz C;have cQ:=OK A T;have y5:=W8 A T;have H1:=O3 A T;have y6:=CJ A T;clear y1 t C V J R Z H E hl y9 a4 xO;have Oe:=convN;generalize nK:tl T 0=s0 at *;generalize nn T=N at *;obtain ⟨n,H2⟩:∃n,A.length=n:=⟨_,rfl⟩;obtain ⟨k,x7⟩:∃k,T.length=k:=⟨_,rfl⟩;rw[H2] at cQ y5 H1 fK y4 NY P a1 a2 ⊢;simp only[H2] at y6;rw[x7] at z fK y4 AF h9 jz SY y hN bj H1 ⊢;have iS:=Hs n o_;have lU:=mkB0 N o_;have dw:=fun W=>convN W N o_;have gR:=Zz cQ;clear cQ;have cz:=Zz y5;clear y5;have pK:=Zz H1;clear H1;have h5:=Zz y6;clear y6;have XQ:=Zz H2;clear H2;have Fk:=Zz x7;clear x7 nK hN Oe;have D8:(0:Int)<(n:Int):=o_;have jE:0<n:=o_;have XR:¬(65536<(s0.size:Int)):=o_;go_enter func158,ntmps158;go_wp2_with fail;refine (P.o).mono ?_;rintro e x4 ⟨rfl,o⟩;have g:=rz u u.size o;have Q:=(g.cell (fV w _ z)).trans z;have i:=y.below o hp;have l:=i.cell 0;have O:=(g.cell (fV w _ a)).trans a
    go_upto_region 3 with fail
    go_cut [14] (fun mK h8=>mK=.bool false/\Below w.heap.size w h8/\ab h8 w.heap.size 38 #[.slice (some ⟨x,b,none⟩) k s])
    case first =>
     go_region_held3 (fun w'=>w'.cell? ⟨w.heap.size,0,none⟩=some (.slice (some ⟨x,b,none⟩) k s)/\w'.cell? ⟨K,h6,none⟩=some (.slice x5 k H4)) (first|assumption|go_keep|exact ⟨l,Q⟩) (first|(go_at_call 102;refine (h9.o _ g.drew l).mono ?_;rintro e w' ⟨rfl,rfl⟩))
     all_goals
      go_wp2_with fail
      go_meet
      exact ⟨rfl,g.drew,i.drew⟩
    case rest =>
     clear l i g O Q o;obtain ⟨rfl,g,i⟩:=hcut;have l:=i.cell 0;have O:=(g.cell (fV w _ a)).trans a;have H3:=aH.made_texts wc w.heap.size n g.size o_;have L:=g.alloc g.size (.cells (madeCells #[.string ⟨#[]⟩] n) 9);have X:=i.alloc (.cells (madeCells #[.string ⟨#[]⟩] n) 9);have x1:w.heap.size≠wc.heap.size:=lI i.lt;rw[<-gR.o] at H3;obtain ⟨G,hG⟩:∃G,wc.heap.size=G:=⟨_,rfl⟩
     have h7:w.heap.size<=G:=by rw[<-hG];exact g.size
     rw[hG] at H3 x1;go_wp2;clear iS l O g i hG
     go_loopw [7,8,9,38,52] (fun _ _ _ zF _ wr=>∃r:Nat,r<=n/\zF=.int .i64 r/\aH wr w.heap.size 9 (.slice (some ⟨G,0,none⟩) n n) (sv (vH A T r))/\ab wr w.heap.size 38 #[.slice (some ⟨x,b,none⟩) k s]/\Below w.heap.size w wr) (fun _ _ _ zF _ _=>n-(intOf zF).toNat)
     case atStart=>exact ⟨0,o_,rfl,H3,X,L⟩
     case round =>
      clear H3 X L;obtain ⟨r,H7,rfl,hO,y,M⟩:=hrel;by_cases I:r<n
      ·have l:=y.cell 0
       have O:=(M.cell (fV w _ a)).trans a
       have d:(sv (vH A T r)).length=n:=by rw[cN,h5.o]
       have F:aH wr w.heap.size 9 (.slice (some ⟨G,0,none⟩) (sv (vH A T r)).length n) (sv (vH A T r)):=by rw[d];exact hO
       have SZ:=F.cell r (by rw[d];exact I);rw[iQ _ r (by rw[h5.o];exact I)] at SZ;have XS:=F.frozen r;have zJ:G<wr.heap.size:=(F.lt G rfl).2;have FN:=dw wr;obtain ⟨B,du⟩:∃B,bs (List.replicate N 0)=B:=⟨_,rfl⟩;rw[du] at FN;have mA:=(F.set_ r (.string B)).alloc (.cells (madeCells #[.int .u8 0] N) 5);rw[w_M,d] at mA;have X:=(y.far (p:=⟨G,r,none⟩) x1 (.string B)).alloc (.cells (madeCells #[.int .u8 0] N) 5);have x8:=M.setCell (p:=⟨G,r,none⟩) h7 (.string B);have L:=x8.alloc x8.size (.cells (madeCells #[.int .u8 0] N) 5);have Of:((wr.setCell ⟨G,r,none⟩ (.string B)).alloc (.cells (madeCells #[.int .u8 0] N) 5)).cell? ⟨w.heap.size,0,none⟩=some (.slice (some ⟨x,b,none⟩) k s):=X.cell 0;clear x8 dw;have zP:=Zz du;clear du;have iH:=Zz mA;have lS:=Zz X;have ak:=Zz L;clear hO F mA X L d;generalize tl (vH A T r) r=XT at *;go_wp2;clear FN SZ XS Of
       go_loopw [8,9,52] (fun _ _ zL wk=>∃c:Nat,c<=k/\zL=.int .i64 c/\Hid (aH wk w.heap.size 9 (.slice (some ⟨G,0,none⟩) n n) (sv ((vH A T r).set r (bs (i6 A T N r c)))))/\Hid (ab wk w.heap.size 38 #[.slice (some ⟨x,b,none⟩) k s])/\Hid (Below w.heap.size w wk)) (fun _ _ zL _=>k-(intOf zL).toNat)
       case atStart=>exact ⟨0,o_,rfl,by rw[Oa.o r,zP.o];exact iH,lS,ak⟩
       case round =>
        clear iH lS ak l O y M zJ zP;obtain ⟨c,H6,rfl,HO,y3,HB⟩:=hrel;have M:=HB.o;have l:=y3.o.cell 0;by_cases S:c<k
        ·have x9:=AF.o c S
         have cH:=(M.cell (fV w _ x9)).trans x9;obtain ⟨U,Y,H0,f1,f2⟩:=y4.o r c I S;obtain ⟨q1,q2⟩:=fK.o r c I S
         have d:(sv ((vH A T r).set r (bs (i6 A T N r c)))).length=n:=by rw[cN,iO,h5.o]
         have AE:∀W,aH W w.heap.size 9 (.slice (some ⟨G,0,none⟩) n n) (sv ((vH A T r).set r (bs (i6 A T N r c))))->W.cell? ⟨G,r,none⟩=some (.string (bs (i6 A T N r c)))/\W.frozen? ⟨G,r,none⟩=false /\
           aH (W.setCell ⟨G,r,none⟩ (.string (bs (i6 A T N r (c+1))))) w.heap.size 9 (.slice (some ⟨G,0,none⟩) n n) (sv ((vH A T r).set r (bs (i6 A T N r (c+1))))):=by
          intro W h
          have h':aH W w.heap.size 9 (.slice (some ⟨G,0,none⟩) (sv ((vH A T r).set r (bs (i6 A T N r c)))).length n) (sv ((vH A T r).set r (bs (i6 A T N r c)))):=by rw[d];exact h
          refine ⟨?_,h'.frozen r,?_⟩
          ·rw[h'.cell r (by rw[d];exact I),iQ _ r (by rw[iO,h5.o];exact I),yW _ _ _ _ (by rw[h5.o];exact I),if_pos rfl]
          have:=h'.set_ r (.string (bs (i6 A T N r (c+1))));rw[w_M,d,set_set] at this;exact this
         have x2:=Zz AE;clear AE d;have x3:=Zz f1;have H9:=Zz f2;have EU:=Zz q1;have FO:=Zz q2;clear x9 f1 f2 q1 q2;generalize eV:tl T c=s1 at *;clear eV;have Kw:(r:Int)<(n:Int):=o_;have nN:(c:Int)<(k:Int):=o_
         go_upto_region 15 with fail
         refine zd k_ _ ?hQ _ _ rfl G n r K h6 n ca U Y k H0 c ((en A r c).toNat:Int) s1 (bs (i6 A T N r c)) (bs ((tb T c).map (cb (en A r c)))) (bs (i6 A T N r (c+1))) Kw Kw nN rfl rfl rfl rfl rfl
           (fun W=>aH W w.heap.size 9 (.slice (some ⟨G,0,none⟩) n n) (sv ((vH A T r).set r (bs (i6 A T N r c))))/\ab W w.heap.size 38 #[.slice (some ⟨x,b,none⟩) k s]/\Below w.heap.size w W) ?k0 ?kS ?kc ?kf ?ks ?sc ?xr ?f1 ?f2
         case hQ =>
          intro H4 a0 d0 v0 x0 h;simp only[Exit.then,Exit.inBlock] at h ⊢
          first
           | exact h
           | (simp +zetaDelta only[Exit.then,Exit.inBlock,bodyPost] at h ⊢;exact h)
           | (simp +zetaDelta [Exit.then,Exit.inBlock,bodyPost] at h)
         case k0=>exact ⟨HO.o.drew,y3.o.drew,M.drew⟩
         case kS=>exact fun W h=>⟨(h.2.2.cell (fV w _ x3.o)).trans x3.o,(h.2.2.cell (fV w _ H9.o)).trans H9.o⟩
         case kc=>exact fun W h=>(x2.o W h.1).1
         case kf=>exact fun W h=>(x2.o W h.1).2.1
         case ks=>exact fun W h=>⟨((h.2.2.setCell (p:=⟨G,r,none⟩) h7 _).cell (fV w _ x3.o)).trans x3.o,((h.2.2.setCell (p:=⟨G,r,none⟩) h7 _).cell (fV w _ H9.o)).trans H9.o⟩
         case sc=>exact fun W h=>(EU.o W).mono fun e w' q=>⟨q.1,h.1.below q.2,h.2.1.below q.2 h.2.1.lt,rz h.2.2 h.2.2.size q.2⟩
         case xr=>exact fun W h=>(FO.o W).mono fun e w' q=>⟨q.1,h.1.below q.2,h.2.1.below q.2 h.2.1.lt,rz h.2.2 h.2.2.size q.2⟩
         case f1 =>
          intro _ _ _ _ _ _ _ _ _ _ _ _ _ _ _ _ _ w' h;simp only[frA1,Act.put,F6,List.set_cons_zero,List.set_cons_succ];have y0:=Zz (x2.o w' h.1).2.2;have y2:=Zz (h.2.1.far (p:=⟨G,r,none⟩) x1 (.string (bs (i6 A T N r (c+1)))));have y7:=Zz (h.2.2.setCell (p:=⟨G,r,none⟩) h7 (.string (bs (i6 A T N r (c+1)))));clear h;go_wp2;go_roundw
          case rel=>exact ⟨c+1,o_,by go_num,y0,y2,y7⟩
          case measure=>simp[intOf];omega
         case f2 =>
          intro _ _ _ _ _ _ _ _ _ _ _ _ _ _ _ _ _ w' h;simp only[frA2,Act.put,F6,List.set_cons_zero,List.set_cons_succ];have y0:=Zz (x2.o w' h.1).2.2;have y2:=Zz (h.2.1.far (p:=⟨G,r,none⟩) x1 (.string (bs (i6 A T N r (c+1)))));have y7:=Zz (h.2.2.setCell (p:=⟨G,r,none⟩) h7 (.string (bs (i6 A T N r (c+1)))));clear h;go_wp2;go_roundw
          case rel=>exact ⟨c+1,o_,by go_num,y0,y2,y7⟩
          case measure=>simp[intOf];omega
        obtain rfl:c=k:=o_;have bt:=HO.o;rw[pK.o r (by rw[XQ.o] at *;exact I)] at bt;have bq:=Zz bt;clear bt;go_wp2;go_roundw
        case rel=>exact ⟨r+1,o_,by go_num,bq.o,y3.o,M⟩
        case measure=>simp[intOf];omega
      obtain rfl:r=n:=o_;have hR:=hO;rw[cz.o] at hR;go_wp2;go_ret2;exact ⟨_,rfl,hR,M⟩
   have m:Gc A T=7:=by unfold Gc;rw[if_neg (by rw[f];decide),if_pos (.inr E)]
   have t:Ax A T=[]:=by unfold Ax;rw[if_neg (by rw[m];decide)]
   rw[m,t];have D:=fun W h2 h3=>(H8 W h2 h3).2 E;have h9:=Zz D;clear D H8;clear m t C V J R Z H E hl y9 a4;generalize tl T 0=s0 at *;generalize A.length=n at *;generalize T.length=k at *;have D8:(0:Int)<(n:Int):=o_;have jE:0<n:=o_;go_enter func158,ntmps158;go_wp2_with fail;refine (P.o).mono ?_;rintro e x4 ⟨rfl,o⟩;have g:=rz u u.size o;have Q:=(g.cell (fV w _ z)).trans z;have i:=y.below o hp;have l:=i.cell 0;go_wp2
   go_region_held3 (fun w'=>w'.cell? ⟨w.heap.size,0,none⟩=some (.slice (some ⟨x,b,none⟩) k s)/\w'.cell? ⟨K,h6,none⟩=some (.slice x5 k H4)) (first|assumption|go_keep|exact ⟨l,Q⟩) (first|(go_at_call 102;refine (h9.o _ g.drew l).mono ?_;rintro e w' ⟨rfl,rfl⟩))
   all_goals
    go_wp2;go_ret2;exact ⟨_,rfl,h4.o _,g.drew⟩
  have m:Gc A T=7:=by unfold Gc;rw[if_neg (by rw[f];decide),if_pos (.inl hl)]
  have t:Ax A T=[]:=by unfold Ax;rw[if_neg (by rw[m];decide)]
  rw[m,t]
  have hb:(((T.length:Nat):Int) != (((A.getD 0 []).length:Nat):Int))=true:=by rw[bne_iff_ne];omega
  clear m t V J R Z H hl;generalize (A.getD 0 []).length=q at *;generalize A.length=n at *;generalize T.length=k at *;go_enter func158,ntmps158;go_wp2_with fail;refine (P.o).mono ?_;rintro e x4 ⟨rfl,o⟩;have g:=rz u u.size o;have Q:=(g.cell (fV w _ z)).trans z;have i:=(y.below o hp).cell 0;go_wp2
  go_region
  go_wp2;go_ret2;exact ⟨_,rfl,h4.o _,g.drew⟩
 have m:Gc A T=4:=by unfold Gc;rw[if_pos (by simpa using f)]
 have t:Ax A T=[]:=by unfold Ax;rw[if_neg (by rw[m];decide)]
 rw[m,t]
 have h0:qW A=false:=by simpa using f
 rw[h0] at hg;have P:=Zz hg;clear hg f h0 m t V R Z;generalize T.length=k at *;have h4:=Zz H5;clear H5;go_enter func158,ntmps158;go_wp2_with fail;refine (P.o).mono ?_;rintro e x4 ⟨rfl,o⟩;go_wp2;go_ret2;exact ⟨_,rfl,h4.o _,rz u u.size o⟩
def Rq (w:W_) (g:Value) (A:List (List UInt8)) (l:lN w g A) (h:Value) (T:List B_) (m:b_ w h (sv T)) :
  Cl 158 #[g,h] w fun e w'=>∃v,e=.returned (.tuple #[v,.int .i64 (Gc A T)])/\b_ w' v (sv (Ax A T))/\Below w.heap.size w w':=by
 refine (xI w g A l h T m).mono ?_;rintro e w' ⟨v,i,j,k⟩;exact ⟨v,i,j.reads,k⟩
end
section
open GfM
def tv (B:List Bool):List Value:=B.map Value.bool
def OI (B:List Bool):(tv B).length=B.length:=by simp[tv]
def tv_at (B:List Bool) (i:Nat) (h:i<B.length):(tv B)[i]?=some (.bool (B.getD i false)):=by
 simp[tv,h]
def b_.bools {w:W_} (h:b_ w v (tv B)) :
  ∃A c,v=.slice A B.length c/\B.length<=c/\c<=9223372036854775807/\(0<B.length->∃b off,A=some ⟨b,off,none⟩/\∀j,j<B.length->w.cell? ⟨b,off+j,none⟩=some (.bool (B.getD j false))):=by
 obtain ⟨A,c,rfl,g,i,k⟩:=h;rw[OI] at *;refine ⟨A,c,rfl,g,i,fun hp=>?_⟩;obtain ⟨b,off,rfl,l⟩:=k hp;exact ⟨b,off,rfl,fun j e=>by rw[l j e,tv_at B j e]⟩
def pk (B:List Bool):Nat->List Nat
 | 0=>[]
 | i+1=>if B.getD i false=true then pk B i++[i] else pk B i
def I4 (h:B.getD i false=true):pk B (i+1)=pk B i++[i]:=by
 show (if _ then _ else _)=_;rw[if_pos h]
def jN (h:B.getD i false=false):pk B (i+1)=pk B i:=by
 show (if _ then _ else _)=_;rw[if_neg (by rw[h];decide)]
def yu (B:List Bool) (i:Nat):(pk B i).length<=i:=by
 induction i with
 | zero=>simp[pk]
 | succ i e =>
  by_cases h:B.getD i false=true
  ·rw[I4 h,cd,A_];omega
  rw[jN (by simpa using h)];omega
def LC (B:List Bool) (i:Nat):∀r∈pk B i,r<i/\B.getD r false=true:=by
 induction i with
 | zero=>intro r e;cases e
 | succ i g =>
  intro r e;by_cases h:B.getD i false=true
  ·rw[I4 h,List.mem_append,List.mem_singleton] at e
   rcases e with e|rfl
   ·exact ⟨by have:=(g r e).1;omega,(g r e).2⟩
   exact ⟨o_,h⟩
  rw[jN (by simpa using h)] at e;exact ⟨by have:=(g r e).1;omega,(g r e).2⟩
def zc (B:List Bool) (k:Nat):List (List UInt8):=((pk B (k+2)).take k).map fun r=>(ih k).getD r []
def Gm (B:List Bool) (C:List B_) (k:Nat):List B_:=((pk B (k+2)).take k).map (tl C)
inductive DecR (C:List B_) (B:List Bool):List B_->Int->Prop
 | arg (h:¬(3<=C.length/\C.length<=10/\B.length=C.length)):DecR C B [] 2
 | lost (h1:3<=C.length) (h2:C.length<=10) (h3:B.length=C.length) (h4:(pk B C.length).length<C.length-2):DecR C B [] 24
 | shape (h1:3<=C.length) (h2:C.length<=10) (h3:B.length=C.length) (h4:C.length-2<=(pk B C.length).length) (h5:uU ((pk B C.length).map (tl C))≠0):DecR C B [] (uU ((pk B C.length).map (tl C)))
 | done (k:Nat) (h0:C.length=k+2) (h1:1<=k) (h2:k<=8) (h3:B.length=C.length) (h4:k<=(pk B C.length).length) (h5:uU ((pk B C.length).map (tl C))=0) (X:List (List UInt8)) (e:Int) (h6:InvR (zc B k) X e):DecR C B (Ax (ih k) (Ax X (Gm B C k))) 0
def K2 (w:W_) (vc vb:Value) (C:List B_) (B:List Bool) (hC:b_ w vc (sv C)) (q:b_ w vb (tv B)) :
  Cl 101 #[vc,vb] w fun e w'=>∃v T y9,e=.returned (.tuple #[v,.int .i64 y9])/\aH w' w.heap.size 9 v (sv T)/\DecR C B T y9/\Below w.heap.size w w':=by
 obtain ⟨A,c,rfl,aP,bk,I⟩:=hC.texts;obtain ⟨A2,c2,rfl,jz,cD,P⟩:=q.bools;have eX:∀W:W_,aH W w.heap.size 9 (.slice none 0 0) (sv []):=fun W=>aH.nil_ W w.heap.size 9;have O:=Zz eX;clear eX hC q;by_cases hn:C.length<3
 ·have b:decide (1<=(C.length:Int)-2/\(C.length:Int)-2<=8)=false:=by simp;omega
  have HR:=Zz (DecR.arg (C:=C) (B:=B) o_);clear I P;generalize C.length=n at *;generalize B.length=m at *;go_enter func101,ntmps101;go_wp2_with fail;refine (w_w _ _).mono ?_;rw[b];rintro e w' ⟨rfl,rfl⟩;go_wp2;go_ret2;exact ⟨_,_,_,rfl,O.o _,HR.o,Below.refl _ _⟩
 obtain ⟨k,hk⟩:∃k:Nat,C.length=k+2:=⟨C.length-2,o_⟩;have y6:1<=k:=o_;have kG:(k:Int)<=9223372036854775805:=o_;by_cases aN:8<k
 ·have b:decide (1<=(k:Int)/\(k:Int)<=8)=false:=by simp;omega
  have HR:=Zz (DecR.arg (C:=C) (B:=B) o_);clear I P;rw[hk] at *;generalize B.length=m at *;go_enter func101,ntmps101;go_wp2_with fail;refine (w_w _ _).mono ?_;rw[b];rintro e w' ⟨rfl,rfl⟩;go_wp2;go_ret2;exact ⟨_,_,_,rfl,O.o _,HR.o,Below.refl _ _⟩
 have b:decide (1<=(k:Int)/\(k:Int)<=8)=true:=by simp;omega
 by_cases p:B.length=C.length
 ·have x3:=vt k y6 o_ w
  have Oh:=Zz x3;clear x3;obtain ⟨bc,oc,rfl,eU⟩:=I o_;obtain ⟨bb,ob,rfl,ns⟩:=P o_;clear I P;have jF:=Zz eU;clear eU;have jy:=Zz ns;clear ns;have h8:=fun N=>DecR.lost (C:=C) (B:=B) o_ o_ p N;have h4:=fun N h5=>DecR.shape (C:=C) (B:=B) o_ o_ p N h5;have H0:=fun N h5 X e h6=>DecR.done (C:=C) (B:=B) k hk y6 o_ p N h5 X e h6;rw[hk] at h8 h4 H0;have xQ:=Zz h8;clear h8;have sn:=Zz h4;clear h4;have xR:=Zz H0;clear H0;have aD:=w_O p;rw[p] at *;rw[hk] at *;clear p;have R:=Zz (Ry k);go_enter func101,ntmps101;go_wp2_with fail;refine (w_w _ _).mono ?_;rw[b];rintro e w' ⟨rfl,rfl⟩;go_wp2_with fail;refine (Oh.o).mono ?_;rintro e g ⟨vg,rfl,⟨ys,S,Eg,y0⟩,y⟩;obtain ⟨Ag,h2,rfl,y7,bC,sq⟩:=Eg;rw[R.o] at S;obtain ⟨h1,H2,rfl,V⟩:=sq o_;have f:=Zz S;rw[S] at y7 V ⊢;have Z:=Zz y0;clear y0;have y1:=Zz V;clear V sq S;obtain ⟨o,y2⟩:∃o:Nat->Value,o=fun r=>ys.getD r undef:=⟨_,rfl⟩;have D:=Zz y2;clear y2;have x1:=Zz (aH.nil_ g g.heap.size 9);have x2:=Zz (aH.nil_ g g.heap.size 105);go_wp2
  go_loopw [7,8,10,11,36] (fun s7 s8 _ _ H3 wr=>∃i:Nat,i<=k+2/\H3=.int .i64 i/\Hid (aH wr g.heap.size 9 s8 (sv ((pk B i).map (tl C))))/\Hid (aH wr g.heap.size 105 s7 ((pk B i).map o))/\Below g.heap.size g wr) (fun _ _ _ _ H3 _=>k+2-(intOf H3).toNat)
  case atStart=>exact ⟨0,o_,rfl,x1,x2,Below.refl _ _⟩
  case round =>
   clear x1 x2;obtain ⟨i,hi,rfl,s,HR,q⟩:=hrel;by_cases J:i<k+2
   ·have G:=jF.o i J
    have M:=jy.o i J;have cH:=(q.cell (fV g _ ((y.cell (fV w _ G)).trans G))).trans ((y.cell (fV w _ G)).trans G);have p:=(q.cell (fV g _ ((y.cell (fV w _ M)).trans M))).trans ((y.cell (fV w _ M)).trans M);clear G M;have AL:(i:Int)<((k+2:Nat):Int):=o_;by_cases z:B.getD i false=true
    ·rw[z] at p
     have hg:=y1.o i J;obtain ⟨H7,H8,hy,_⟩:=(Z.o i (by rw[R.o];exact J)).shape
     have x7:ys[i]?=some (o i):=by
      rw[D.o];show ys[i]?=some (ys.getD i undef);rw[be,cr (by rw[f.o];exact J)];rfl
     have U:o i=.slice H7 ((ih k).getD i []).length H8:=by rw[D.o];exact hy
     rw[x7,U] at hg;have XU:=yu B i
     have y3:((sv ((pk B i).map (tl C))).length+1)*16<=140737488355328:=by rw[cN,fW];omega
     have t:(((pk B i).map o).length+1)*24<=140737488355328:=by rw[fW];omega
     have XV:=Zz y3;clear y3;have XW:=Zz t;clear t XU x7 hy
     have h3:sv ((pk B i).map (tl C))++[.string (tl C i)]=sv ((pk B (i+1)).map (tl C)):=by rw[I4 z,List.map_append,x_q];rfl
     have vy:(pk B i).map o++[.slice H7 ((ih k).getD i []).length H8]=(pk B (i+1)).map o:=by rw[I4 z,List.map_append,<-U];rfl
     have mc:=Zz h3;clear h3;have pm:=Zz vy;clear vy;have HG:=Zz hg;clear hg;generalize H1:tl C i=si at *;clear H1 U z
     go_upto_region 11 with fail
     refine vA k_ _ ?hQ _ _ rfl g _ _ _ _ si h1 H2 (k+2) h2 i ((ih k).getD i []).length H8 H7 AL rfl rfl rfl rfl rfl HG.o s.o HR.o q XV.o XW.o ?Ms
     case hQ =>
      intro c0 a0 d0 v0 x0 h;simp only[Exit.then,Exit.inBlock] at h ⊢
      first
       | exact h
       | (simp +zetaDelta only[Exit.then,Exit.inBlock,bodyPost] at h ⊢;exact h)
       | (simp +zetaDelta [Exit.then,Exit.inBlock,bodyPost] at h)
     case Ms =>
      intro _ _ _ _ _ _ _ _ _ _ _ g7 xo w' u h9 gi;simp only[frD,Act.put,F6,List.set_cons_zero,List.set_cons_succ];rw[mc.o] at u;rw[pm.o] at h9;have H4:=Zz u;have F:=Zz h9;clear u h9;go_wp2;go_roundw
      case rel=>exact ⟨i+1,o_,by go_num,H4,F,gi⟩
      case measure=>simp[intOf];omega
    have H9:B.getD i false=false:=by simpa using z
    rw[H9] at p;have H6:=jN H9
    have H4:Hid (aH wr g.heap.size 9 u8 (sv ((pk B (i+1)).map (tl C)))):=by rw[H6];exact s
    have F:Hid (aH wr g.heap.size 105 u7 ((pk B (i+1)).map o)):=by rw[H6];exact HR
    clear s HR H6 z H9;generalize H1:tl C i=si at *;clear H1;go_wp2;go_roundw
    case rel=>exact ⟨i+1,o_,by go_num,H4,F,q⟩
    case measure=>simp[intOf];omega
   obtain rfl:i=k+2:=o_
   have x:(sv ((pk B (k+2)).map (tl C))).length=(pk B (k+2)).length:=by rw[cN,fW]
   have a:((pk B (k+2)).map o).length=(pk B (k+2)).length:=by rw[fW]
   have h3:=yu B (k+2);have Q:=rz y y.size q;by_cases hm:(pk B (k+2)).length<k
   ·have Y:=Zz (xQ.o hm)
    obtain ⟨Al,cl,rfl⟩:=s.o.shape;rw[x] at *;clear x a s HR;generalize (pk B (k+2)).length=m at *;have b6:(m:Int)<(k:Int):=o_;go_wp2;go_ret2;exact ⟨_,_,_,rfl,O.o _,Y.o,Q⟩
   have iS:1<=(pk B (k+2)).length:=o_;obtain ⟨gl,cl,rfl,XX,Ok,Ol⟩:=s.o.form (by rw[x];omega);obtain ⟨gr,y8,rfl,XY,XZ,Om⟩:=HR.o.form (by rw[a];omega);have t:=s.o.reads;have H:=HR.o.reads;rw[x] at t Ol;rw[a] at H Om;have ri:=m_ wr _ _ t;have K:=t.take k (by rw[x];omega);rw[sv_take,<-List.map_take] at K;have L:=H.take k (by rw[a];omega);rw[<-List.map_take] at L
   have x8:lN wr (.slice (some ⟨gr,0,none⟩) k y8) (zc B k):=by
    refine ⟨_,by unfold zc;rw[fW,fW],L,fun r d=>?_⟩;unfold zc at d ⊢;rw[fW] at d
    have X6:=(LC B (k+2) (((pk B (k+2)).take k).getD r 0) (by
     rw[be,cr d]
     exact List.mem_of_mem_take (rY d))).1
    have h7:(((pk B (k+2)).take k).map o).getD r undef=o (((pk B (k+2)).take k).getD r 0):=by
     rw[be,gq,be,cr d];rfl
    have e2:(((pk B (k+2)).take k).map fun r=>(ih k).getD r []).getD r []=(ih k).getD (((pk B (k+2)).take k).getD r 0) []:=by
     rw[be,gq,be (l:=(pk B (k+2)).take k),cr d];rfl
    rw[h7,e2,D.o];exact (Z.o _ (by rw[R.o];exact X6)).below q
   have y4:lN g (.slice (some ⟨h1,H2,none⟩) (k+2) h2) (ih k):=by
    refine ⟨ys,by rw[f.o,R.o],⟨_,h2,by rw[f.o],by rw[f.o];exact y7,bC,fun _=>⟨h1,H2,rfl,fun j hj=>y1.o j (by rw[<-f.o];exact hj)⟩⟩,Z.o⟩
   have x9:=y4.below q;have cH:k<=cl:=o_;have M6:k<=y8:=o_;have b6:¬(((pk B (k+2)).length:Int)<(k:Int)):=o_;have gI:=Zz ri;clear ri;have nY:=Zz K;clear K;have X7:=Zz x8;clear x8;have X8:=Zz x9;clear x9 y4;have xi:=Zz (xR.o o_);have fw:=Zz (sn.o o_);rw[x,a];clear t H L s HR xR sn xQ;generalize hS:uU ((pk B (k+2)).map (tl C))=E at *;clear hS x a;generalize (pk B (k+2)).length=m at *;by_cases hE:E=0
   ·subst hE
    have x4:=IC wr _ _ X7.o;have x5:=Zz x4;clear x4;have x6:=Zz (xi.o rfl);clear xi fw;go_wp2_with fail;refine (gI.o).mono ?_;rintro e w' ⟨rfl,rfl⟩;go_wp2_with fail;refine (x5.o).mono ?_;rintro e w2 ⟨vi,X,h7,rfl,hX,hR,h0⟩;have uR:=Rq w2 vi X hX _ _ (nY.o.below h0);have vB:=Zz (X8.o.below h0);have rG:=Zz (x6.o X h7 hR);have pn:=Zz uR;clear uR x5 x6 hX hR;have mD:=rz Q Q.size h0;go_wp2_with fail;refine (pn.o).mono ?_;rintro e w3 ⟨vd,rfl,hD,y5⟩;have zM:=xI w3 _ _ (vB.o.below y5) _ _ hD;have H5:=rz mD mD.size y5;have Ot:=Zz zM;clear zM pn hD;go_wp2_with fail;refine (Ot.o).mono ?_;rintro e w4 ⟨vo,rfl,hO,gH⟩;have Ej:=rz H5 H5.size gH;have HO:=Zz (hO.more H5.size);clear hO;go_wp2;go_ret2;exact ⟨_,_,_,rfl,HO.o,rG.o,Ej⟩
   have hb:(E != 0)=true:=by rw[bne_iff_ne];exact hE
   have Y:=Zz (fw.o hE);go_wp2_with fail;refine (gI.o).mono ?_;rintro e w' ⟨rfl,rfl⟩;go_wp2;go_ret2;exact ⟨_,_,_,rfl,O.o _,Y.o,Q⟩
 have HR:=Zz (DecR.arg (C:=C) (B:=B) o_);have aD:=MZ p;clear I P;rw[hk] at *;generalize B.length=m at *;go_enter func101,ntmps101;go_wp2_with fail;refine (w_w _ _).mono ?_;rw[b];rintro e w' ⟨rfl,rfl⟩;go_wp2;go_ret2;exact ⟨_,_,_,rfl,O.o _,HR.o,Below.refl _ _⟩
end
section
open GfM
def Sk (l:List UInt8) (n c:Nat):(l.drop n).getD c 0=l.getD (n+c) 0:=by
 simp[be,List.getElem?_drop]
def xZ (n:Nat) (m:List (List UInt8)) (r c:Nat) (e:r<n):en ((List.range n).map fun r=>(m.getD r []).drop n) r c=iv n m r c:=by
 have h:((List.range n).map fun r=>(m.getD r []).drop n).getD r []=(m.getD r []).drop n:=by
  rw[be,gq,pB e];rfl
 unfold iv en;rw[h];exact Sk _ _ _
def Xh (h:InvR A X e) (hg:qW A=true) (hs:A.length=(A.getD 0 []).length) :
  (e=0/\gn X A.length A.length/\Vp A.length (en A) (en X))\/(e=6/\X=[]/\Sing A.length (en A)):=by
 have l:gn A A.length A.length:=⟨rfl,fun r g=>by rw[((v_a A).1 hg).2.2.2.2.2 r g,<-hs]⟩
 cases h with
 | bad h=>rw[hg] at h;cases h
 | shape _ h=>exact absurd hs h
 | done _ _ h =>
  cases h with
  | sing i k q s=>exact .inr ⟨rfl,rfl,i.singular l _ k q s⟩
  | @ok m i k =>
   refine .inl ⟨rfl,⟨s_,fun r g=>?_⟩,?_⟩
   ·rw[be,gq,pB g]
    show ((m.getD r []).drop A.length).length=A.length;rw[List.length_drop,(i.shp (w_G l)).2 r g];omega
   have p:=i.inverse l fun r j g o=>k r j g o;refine ⟨fun r c g n=>?_,fun r c g n=>?_⟩
   ·rw[<-p.1 r c g n]
    exact sE _ (fun j _=>rfl) (fun j o=>xZ _ m j c o)
   rw[<-p.2 r c g n];exact sE _ (fun j _=>xZ _ m r j g) (fun j _=>rfl)
end
section
open GfM
def VL {a b:UInt8} (h:a ^^^ b=0):a=b:=by
 have:(a ^^^ b) ^^^ b=0 ^^^ b:=by rw[h]
 rwa [UInt8.xor_assoc,UInt8.xor_self,UInt8.xor_zero,UInt8.zero_xor] at this
def ex_inj {j:Nat} (e:i<255) (g:j<255) (h:ex i=ex j):i=j:=by rw[<-lo_ex e,<-lo_ex g,h]
end
section
open GfM
def take_pk (B:List Bool) (k:Nat) (n:Nat):k<=(pk B n).length->∃j,j<=n/\(pk B n).take k=pk B j/\(pk B j).length=k:=by
 induction n with
 | zero =>
  intro h
  have:k=0:=by simpa[pk] using h
  subst this
  exact ⟨0,bS _,by simp[pk],rfl⟩
 | succ n i =>
  intro h;by_cases hk:k<=(pk B n).length
  ·obtain ⟨j,l,e,g⟩:=i hk
   refine ⟨j,o_,?_,g⟩;by_cases hb:B.getD n false=true
   ·rw[I4 hb,List.take_append_of_le_length hk,e]
   rw[jN (by simpa using hb),e]
  have hl:(pk B (n+1)).length=k:=by
   by_cases hb:B.getD n false=true
   ·rw[I4 hb,cd,A_] at h ⊢;omega
   rw[jN (by simpa using hb)] at h;omega
  exact ⟨n+1,bS _,kx o_,hl⟩
def WC (B:List Bool) (n:Nat):(pk B n).length=n->∀s,s<n->s∈pk B n:=by
 induction n with
 | zero=>intro _ s hs;omega
 | succ n g =>
  intro h s hs;have hn:=yu B n;by_cases hb:B.getD n false=true
  ·rw[I4 hb] at h ⊢
   rw[cd,A_] at h;by_cases e:s=n
   ·subst e;simp
   exact List.mem_append_left _ (g o_ s o_)
  rw[jN (by simpa using hb)] at h;omega
def WV (B:List Bool) (n:Nat):(pk B n).length+1=n->∃x,x<n/\∀s,s<n->s≠x->s∈pk B n:=by
 induction n with
 | zero=>intro h;omega
 | succ n j =>
  intro h;by_cases hb:B.getD n false=true
  ·rw[I4 hb] at h ⊢
   rw[cd,A_] at h;obtain ⟨x,k,hs⟩:=j o_;refine ⟨x,o_,fun s i g=>?_⟩;by_cases e:s=n
   ·subst e;simp
   exact List.mem_append_left _ (hs s o_ g)
  rw[jN (by simpa using hb)] at h ⊢;exact ⟨n,o_,fun s i g=>WC B n o_ s o_⟩
def pk_two (B:List Bool) (n:Nat):(pk B n).length+2=n->∃x y,x<y/\y<n/\∀s,s<n->s≠x->s≠y->s∈pk B n:=by
 induction n with
 | zero=>intro h;omega
 | succ n l =>
  intro h;by_cases hb:B.getD n false=true
  ·rw[I4 hb] at h ⊢
   rw[cd,A_] at h;obtain ⟨x,y,m,o,hs⟩:=l o_;refine ⟨x,y,m,o_,fun s j g i=>?_⟩;by_cases e:s=n
   ·subst e;simp
   exact List.mem_append_left _ (hs s o_ g i)
  rw[jN (by simpa using hb)] at h ⊢;obtain ⟨x,k,hs⟩:=WV B n o_;exact ⟨x,n,k,o_,fun s j g i=>hs s o_ g⟩
def pk_lack (B:List Bool) (k:Nat) (h:k<=(pk B (k+2)).length):∃x y,x<y/\y<k+2/\∀s,s<k+2->s≠x->s≠y->s∈(pk B (k+2)).take k:=by
 obtain ⟨j,m,e,g⟩:=take_pk B k (k+2) h;rw[e];have n:=yu B j;have i:j=k+2\/j=k+1\/j=k:=o_;rcases i with rfl|rfl|rfl
 ·exact pk_two B (k+2) o_
 ·obtain ⟨x,l,hs⟩:=WV B (k+1) o_
  exact ⟨x,k+1,l,o_,fun s a b c=>hs s o_ b⟩
 exact ⟨j,j+1,o_,o_,fun s a b c=>WC B j g s o_⟩
def ES (k r:Nat) (h:r<k):(ih k).getD r []=Rf k r:=by
 unfold ih;rw[be,A3 (by rw[x_I];exact h),<-be,NK k r h]
def Fj (k j:Nat) (h:j<2):(ih k).getD (k+j) []=(List.range k).map fun c=>ex (j*c):=by
 unfold ih;rw[be,uS (by rw[x_I];omega),x_I,Nat.add_sub_cancel_left,<-be,NZ 2 k j h]
def AG (k:Nat):gn (ih k) (k+2) k:=by
 refine ⟨Ry k,fun r e=>?_⟩;by_cases h:r<k
 ·rw[ES k r h,z_am]
 obtain ⟨j,rfl⟩:∃j,r=k+j:=⟨r-k,o_⟩;rw[Fj k j o_];simp
def MO (k r c:Nat) (h:r<k) (e:c<k):en (ih k) r c=dl r c:=by
 unfold en;rw[ES k r h,uc k r c h e]
def tj (k j c:Nat) (h:j<2) (e:c<k):en (ih k) (k+j) c=ex (j*c):=by
 unfold en;rw[Fj k j h,be,gq,pB e];rfl
def OL (k:Nat) (i:1<=k) (j:k<=8):qW (ih k)=true:=by
 have e:=AG k;have g:=e.2 0 o_;exact (v_a _).2 ⟨by rw[e.1];omega,by rw[e.1];omega,o_,o_,⟨rfl,fun r h=>by rw[e.2 r (by rw[<-e.1];exact h),g]⟩⟩
def sx_two (n a b:Nat) (f:Nat->UInt8) (ha:a<n) (hb:b<n) (i:a≠b) (h:∀j,j<n->j≠a->j≠b->f j=0):sx n f=f a ^^^ f b:=by
 have e:sx n f=sx n (fun j=>(if j=a then f j else 0) ^^^ (if j=a then 0 else f j)):=l6 n fun j _=>by
  by_cases q:j=a
  ·rw[if_pos q,if_pos q,UInt8.xor_zero]
  rw[if_neg q,if_neg q,UInt8.zero_xor]
 rw[e,nr,v_O n a _ ha (fun j _ g=>if_neg g),if_pos rfl]
 rw[v_O n b (fun j=>if j=a then 0 else f j) hb (fun j g k=>by
  by_cases q:j=a
  ·exact if_pos q
  exact (if_neg q).trans (h j g q k))]
 rw[if_neg (Ne.symm i)]
def Rv (k:Nat) (N:k<=8) (x y:Nat) (P:x<y) (O:y<k+2) (v:Nat->UInt8) (hv:∀r,r<k+2->r≠x->r≠y->sx k (fun c=>cb (en (ih k) r c) (v c))=0):∀c,c<k->v c=0:=by
 have l:∀r,r<k->r≠x->r≠y->v r=0:=by
  intro r d o q;have:=hv r o_ o q;rw[l6 k (fun c g=>by rw[MO k r c d g]),w_g k r v d] at this;exact this
 have hp:∀j,j<2->k+j≠x->k+j≠y->sx k (fun c=>cb (ex (j*c)) (v c))=0:=by
  intro j m o q;have:=hv (k+j) o_ o q;rw[l6 k (fun c g=>by rw[tj k j c m g])] at this;exact this
 by_cases f:y<k
 ·have s:=hp 0 o_ o_ o_
  have n:=hp 1 o_ o_ o_;rw[sx_two k x y _ o_ f o_ (fun j m a b=>by rw[l j m a b,yY])] at s n;simp only[Nat.zero_mul,MI,one_mul,Nat.one_mul] at s n;have t:=VL s;rw[t,<-add_mul] at n
  have u:v y=0:=by
   rcases (z_ag _ _).1 n with h|h
   ·have:=ex_inj o_ o_ (VL h)
    omega
   exact h
  intro c g;by_cases i:c=x
  ·rw[i,t,u]
  by_cases z:c=y
  ·rw[z,u]
  exact l c g i z
 by_cases I:x<k
 ·have G:v x=0:=by
   have m:∃j,j<2/\k+j≠y:=by
    by_cases e:y=k
    ·exact ⟨1,o_,o_⟩
    exact ⟨0,o_,o_⟩
   obtain ⟨j,E,M⟩:=m;have p:=hp j E o_ M;rw[v_O k x _ I (fun c g J=>by rw[l c g J o_,yY])] at p;rcases (z_ag _ _).1 p with h|h
   ·exact absurd h (ex_ne _)
   exact h
  intro c g;by_cases i:c=x
  ·rw[i,G]
  exact l c g i o_
 exact fun c g=>l c g o_ o_
def ix (B:List Bool) (k r:Nat):Nat:=((pk B (k+2)).take k).getD r 0
section
def mi (h:k<=(pk B (k+2)).length):((pk B (k+2)).take k).length=k:=by rw[gC];omega
def Wy (h:k<=(pk B (k+2)).length) (r:Nat) (e:r<k):ix B k r∈(pk B (k+2)).take k:=by
 unfold ix;rw[be,cr (by rw[mi h];exact e)];exact rY _
def mem_ix (h:k<=(pk B (k+2)).length) {s:Nat} (hs:s∈(pk B (k+2)).take k):∃r,r<k/\ix B k r=s:=by
 obtain ⟨r,e,g⟩:=List.getElem_of_mem hs;refine ⟨r,by rw[mi h] at e;exact e,?_⟩;unfold ix;rw[be,cr e,g];rfl
def WR (h:k<=(pk B (k+2)).length) (r:Nat) (e:r<k):ix B k r<k+2:=(LC B (k+2) _ (List.mem_of_mem_take (Wy h r e))).1
def NT (h:k<=(pk B (k+2)).length) (r:Nat) (e:r<k):(zc B k).getD r []=(ih k).getD (ix B k r) []:=by
 unfold zc ix;rw[be,gq,be (l:=(pk B (k+2)).take k),cr (by rw[mi h];exact e)];rfl
def pkR_shp (h:k<=(pk B (k+2)).length):gn (zc B k) k k:=by
 refine ⟨by unfold zc;rw[fW,mi h],fun r e=>?_⟩;rw[NT h r e];exact (AG k).2 _ (WR h r e)
def Ws (h:k<=(pk B (k+2)).length) (r c:Nat) (e:r<k):en (zc B k) r c=en (ih k) (ix B k r) c:=by
 unfold en;rw[NT h r e]
def pkC_len (C:List B_) (h:k<=(pk B (k+2)).length):(Gm B C k).length=k:=by unfold Gm;rw[fW,mi h]
def pkC_tl (C:List B_) (h:k<=(pk B (k+2)).length) (r:Nat) (e:r<k):tl (Gm B C k) r=tl C (ix B k r):=by
 unfold Gm ix;show (List.map (tl C) _).getD r _=_;rw[be,gq,be (l:=(pk B (k+2)).take k),cr (by rw[mi h];exact e)];rfl
def pkR_inv (h:k<=(pk B (k+2)).length) (t:1<=k) (u:k<=8) (hR:InvR (zc B k) X e):gn X k k/\Vp k (en (zc B k)) (en X):=by
 have g:=pkR_shp (B:=B) h;have l:=g.2 0 o_;have hg:qW (zc B k)=true:=(v_a _).2 ⟨by rw[g.1];exact t,by rw[g.1];omega,o_,o_,⟨rfl,fun r i=>by rw[g.2 r (by rw[<-g.1];exact i),l]⟩⟩
 have hs:(zc B k).length=((zc B k).getD 0 []).length:=by rw[g.1,l]
 rcases Xh hR hg hs with ⟨_,m,n⟩|⟨_,_,o⟩
 ·rw[g.1] at m n
  exact ⟨m,n⟩
 exfalso;rw[g.1] at o;obtain ⟨v,⟨c,z,p⟩,hz⟩:=o;obtain ⟨x,y,f,d,q⟩:=pk_lack B k h;refine p (Rv k u x y f d v (fun s hs a b=>?_) c z);obtain ⟨r,i,rfl⟩:=mem_ix h (q s hs a b);rw[<-hz r i]
 exact l6 k fun j _=>by rw[Ws h r j i]
end
def UI {A:List B_} (hl:A.length=C.length) (h:∀i,i<A.length->tl A i=tl C i):A=C:=by
 apply i2 hl;intro i e g;have:=h i e;simpa[tl,be,e,g] using this
def j6 {s t:B_} (hs:s.size=n) (e:t.size=n) (h:∀j,j<n->s.data.toList.getD j 0=t.data.toList.getD j 0):s=t:=by
 rw[<-J3 s,<-J3 t];exact congrArg bs (OG (n:=n) hs e h)
def Cu (h:∀j,j<T.length->(tl T j).size=nn T) (r:Nat) (e:r<A.length):(tl (Kd A T) r).size=nn T:=by
 rw[Y5 A T r e,cG,dS A T (nn T) r _ h]
def v_Z (h:∀j,j<T.length->(tl T j).size=nn T) (r:Nat) (g:r<A.length) (j:Nat) (e:j<nn T) :
  (tb (Kd A T) r).getD j 0=sx T.length (fun c=>cb (en A r c) ((tb T c).getD j 0)):=by
 unfold tb;rw[Y5 A T r g,AT,ED A T (nn T) r T.length j h e];rfl
def pb_sx (T:List B_) (j i:Nat):pb T j i=sx i (fun c=>(tb T c).getD j 0):=by
 induction i with
 | zero=>rfl
 | succ i e=>show pb T j i ^^^ _=sx i _ ^^^ _;rw[e]
def qb_sx (T:List B_) (j i:Nat):qb T j i=sx i (fun c=>cb (ex c) ((tb T c).getD j 0)):=by
 induction i with
 | zero=>rfl
 | succ i e =>
  show qb T j i ^^^ cb (wt i) _=sx i _ ^^^ cb (ex i) _;rw[e];unfold wt;rw[TZ]
def MR (h:enE D=0):Kd (ih D.length) D=D++[bs (enP D),bs (enQ D)]:=by
 obtain ⟨q,r,hs,s⟩:=Ao h
 have n:enP D=pp D (nn D) D.length:=by unfold enP;rw[if_pos h]
 have o:enQ D=qq D (nn D) D.length:=by unfold enQ;rw[if_pos h]
 have p:(Kd (ih D.length) D).length=(D++[bs (enP D),bs (enQ D)]).length:=by rw[v_t,Ry,cd];rfl
 refine UI p fun i l=>?_;rw[v_t,Ry] at l;have m:=Cu hs i (A:=ih D.length) (by rw[Ry];exact l);rw[z_ac];by_cases k:i<D.length
 ·rw[if_pos k]
  refine j6 m (hs i k) fun j e=>?_;have:=v_Z hs i (A:=ih D.length) (by rw[Ry];exact l) j e;rw[l6 D.length (fun c g=>by rw[MO D.length i c k g]),w_g D.length i _ k] at this;exact this
 rw[if_neg k];have g:i=D.length+0\/i=D.length+1:=o_;rcases g with rfl|rfl
 ·rw[Nat.add_sub_cancel_left]
  show _=bs (enP D);refine j6 m (by rw[cG,n];exact ms D _ _ (fun j e=>hs j e)) fun j e=>?_;have:=v_Z hs (D.length+0) (A:=ih D.length) (by rw[Ry];exact l) j e;rw[l6 D.length (fun c g=>by rw[tj D.length 0 c o_ g,Nat.zero_mul,MI,one_mul])] at this;rw[AT,n,pp_at D _ _ j hs e,pb_sx];exact this
 rw[Nat.add_sub_cancel_left];show _=bs (enQ D);refine j6 m (by rw[cG,o];exact mP D _ _ (fun j e=>hs j e)) fun j e=>?_;have:=v_Z hs (D.length+1) (A:=ih D.length) (by rw[Ry];exact l) j e;rw[l6 D.length (fun c g=>by rw[tj D.length 1 c o_ g,Nat.one_mul])] at this;rw[AT,o,qq_at D _ _ j hs e,qb_sx];exact this
def dec_of (t:1<=k) (v:k<=8) (hp:k<=(pk B (k+2)).length) (hD:D.length=k) (hE:enE D=0)
  (M:∀s∈(pk B (k+2)).take k,tl C s=tl (Kd (ih k) D) s) (hR:InvR (zc B k) X e) :
  Ax (ih k) (Ax X (Gm B C k))=D++[bs (enP D),bs (enQ D)]:=by
 obtain ⟨h,J⟩:=pkR_inv hp t v hR;obtain ⟨_,_,hs,y⟩:=Ao hE;have l:=pkC_len C hp
 have z:∀r,r<k->tl (Gm B C k) r=tl (Kd (ih k) D) (ix B k r):=fun r g=>by rw[pkC_tl C hp r g,M _ (Wy hp r g)]
 have x:∀r,r<k->(tl (Gm B C k) r).size=nn D:=fun r g=>by
  rw[z r g];exact Cu hs _ (by rw[Ry];exact WR hp r g)
 have p:nn (Gm B C k)=nn D:=x 0 o_
 have q:∀j,j<(Gm B C k).length->(tl (Gm B C k) j).size=nn (Gm B C k):=fun j o=>by rw[p];exact x j (by rw[l] at o;exact o)
 have u:=h.2 0 o_;have a:qW X=true:=(v_a _).2 ⟨by rw[h.1];exact t,by rw[h.1];omega,o_,o_,⟨rfl,fun r g=>by rw[h.2 r (by rw[<-h.1];exact g),u]⟩⟩;have f:Gc X (Gm B C k)=0:=JP a (by rw[l,u]) q (by rw[p];exact y)
 have E:Kd X (Gm B C k)=D:=by
  refine UI (by rw[v_t,h.1,hD]) fun i m=>?_;rw[v_t,h.1] at m;refine j6 (n:=nn D) (by rw[<-p];exact Cu q i (by rw[h.1];exact m)) (hs i (by rw[hD];exact m)) fun j o=>?_;have hb:=v_Z q i (A:=X) (by rw[h.1];exact m) j (by rw[p];exact o)
  have f1:∀r,r<k->(tb (Gm B C k) r).getD j 0=sx k (fun c=>cb (en (zc B k) r c) ((tb D c).getD j 0)):=fun r g=>by
   unfold tb;rw[z r g];have:=v_Z hs (ix B k r) (A:=ih k) (by rw[Ry];exact WR hp r g) j o;rw[hD] at this;refine this.trans (l6 k fun c _=>?_);rw[Ws hp r c g];rfl
  rw[l,l6 k (fun r g=>by rw[f1 r g])] at hb;have f2:sx k (fun r=>cb (en X i r) (sx k (fun c=>cb (en (zc B k) r c) ((tb D c).getD j 0))))=mm k (en X) (mm k (en (zc B k)) (fun c j=>(tb D c).getD j 0)) i j:=rfl;rw[f2,<-Dv] at hb
  have f3:mm k (mm k (en X) (en (zc B k))) (fun c j=>(tb D c).getD j 0) i j=sx k (fun c=>cb (dl i c) ((tb D c).getD j 0)):=l6 k fun c I=>by rw[J.2 i c m I]
  rw[f3,w_g k i _ m] at hb;exact hb
 have d:Ax X (Gm B C k)=D:=by unfold Ax;rw[if_pos f,E]
 have b:=OL k t v;have G:Gc (ih k) D=0:=JP b (by rw[hD,(AG k).2 0 o_]) hs y;rw[d];unfold Ax;rw[if_pos G];have:=MR hE;rw[hD] at this;exact this
end
section
open GfM
end
section
open GfM
end
section
open GfM
def dl (o n:B_):List UInt8:=eW o.data.toList n.data.toList
def ups (p o n:B_) (k:Nat):List UInt8:=(List.range k).map fun j=>p.data.toList.getD j 0 ^^^ (o.data.toList.getD j 0 ^^^ n.data.toList.getD j 0)
end
section
open GfM
def MU (T:List B_) (n:Nat):Prop:=∀j,j<T.length->(tl T j).size=n
def MU.set_ (h:MU T n) (i:Nat) (s:B_) (hs:s.size=n):MU (T.set i s) n:=by
 intro j e;rw[iO] at e;by_cases g:i<T.length
 ·rw[yW T i j s g]
  split
  ·exact hs
  exact h j e
 rw[List.set_eq_of_length_le o_];exact h j e
def MU.nn (h:MU T n) (e:0<T.length):nn T=n:=h 0 e
def MU.enE (h:MU T n) (e:1<=T.length) (g:T.length<=8) (i:n<=65536):enE T=0:=enE_of e g (fun j k=>by rw[h j k,h.nn e]) (by rw[h.nn e];exact i)
def MU.enP (h:MU T n) (e:1<=T.length) (g:T.length<=8) (i:n<=65536):enP T=pp T n T.length:=by
 unfold Go.Proofs.YtdkheklakfbeeaaGreatDoor.enP;rw[if_pos (h.enE e g i),h.nn e]
def MU.enQ (h:MU T n) (e:1<=T.length) (g:T.length<=8) (i:n<=65536):enQ T=qq T n T.length:=by
 unfold Go.Proofs.YtdkheklakfbeeaaGreatDoor.enQ;rw[if_pos (h.enE e g i),h.nn e]
end
section
open GfM
def Va {X:List Int} (h:X.length=2):∃a b,X=[a,b]:=by
 match X,h with
 | [a,b],_=>exact ⟨a,b,rfl⟩
end
section
open GfM
def Zu (h:DecR C B T e) (g:3<=C.length) (i:C.length<=10) (j:B.length=C.length) (m:(pk B C.length).length<C.length-2):T=[]/\e=24:=by
 cases h with
 | arg h=>exact absurd ⟨g,i,j⟩ h
 | lost=>exact ⟨rfl,rfl⟩
 | shape _ _ _ h=>omega
 | done k l _ _ _ h=>omega
def evn_of {L:List B_} {m:Nat} (h:∀s∈L,s.size=m) (hm:m<=65536):uU L=0:=by
 by_cases j:0<L.length
 ·have g:=h _ (K7 L 0 j)
  exact kL (fun i e=>by rw[h _ (K7 L i e),g]) o_
 have:L=[]:=q_I o_;subst this;exact kL (fun i e=>absurd e s_) d_
def RD (h:DecR C B T e) (u:1<=k) (q:k<=8) (n:C.length=k+2) (a:B.length=k+2) (hD:D.length=k) (hE:enE D=0)
  (hp:k<=(pk B (k+2)).length) (o:∀s,s<k+2->B.getD s false=true->tl C s=tl (D++[bs (enP D),bs (enQ D)]) s):T=D++[bs (enP D),bs (enQ D)]/\e=0:=by
 obtain ⟨_,_,hs,v⟩:=Ao hE;have hg:=MR hE;rw[hD] at hg
 have t:∀r,r<k+2->(tl (D++[bs (enP D),bs (enQ D)]) r).size=nn D:=fun r i=>by
  rw[<-hg];exact Cu hs r (by rw[Ry];exact i)
 have x:uU ((pk B C.length).map (tl C))=0:=by
  refine evn_of (m:=nn D) (fun s j=>?_) v;obtain ⟨r,i,rfl⟩:=List.mem_map.1 j;rw[n] at i;obtain ⟨g,l⟩:=LC B (k+2) r i;rw[o r g l,t r g]
 cases h with
 | arg h=>exact absurd ⟨o_,o_,o_⟩ h
 | lost _ _ _ h=>rw[n] at h;omega
 | shape _ _ _ _ h=>exact absurd x h
 | done p z _ _ _ _ _ X y hR =>
  obtain rfl:p=k:=o_;refine ⟨dec_of u q hp hD hE (fun s j=>?_) hR,rfl⟩;obtain ⟨g,l⟩:=LC B (p+2) s (List.mem_of_mem_take j);rw[o s g l,hg]
def tv_set (B:List Bool) (r:Nat) (b:Bool):(tv B).set r (.bool b)=tv (B.set r b):=by simp[tv,List.map_set]
def info4:(prog.info? 4).map (fun i=>(i.zero,i.size,i.bytes))=some (some (.bool false),1,1):=k_
def K3 (m:Nat) (hm:m<=1000):∀W:W_,(Instr.makeSlice 128 (.int .i64 m) (.int .i64 m)).run prog W=.ok (.slice (some ⟨W.heap.size,0,none⟩) m m) (W.alloc (.cells (madeCells #[.bool false] m) 4)):=by
 intro W;exact run_make_row' 128 4 (.bool false) 1 underlying128 info4 rfl .i64 .i64 m o_ o_ W
end
section
open GfM
def gu (C:List B_) (U:List Bool) (p r:Nat):UInt8:=if U.getD r false=true then (tb C r).getD p 0 else 0
def rs:(prog.info? 3).map (fun i=>(i.zero,i.size,i.bytes))=some (some (.int .i64 0),1,8):=k_
end
end Go.Proofs.YtdkheklakfbeeaaGreatDoor
