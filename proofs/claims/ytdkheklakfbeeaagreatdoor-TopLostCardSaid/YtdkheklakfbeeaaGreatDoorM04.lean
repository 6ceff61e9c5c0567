/- Part 4 of the proof. -/
import Derived.OrdersHeld
import Derived.Deep.MidRow
import Derived.Laws.Tables
import Derived.Laws.CopyOwn
import Derived.Test.YtdkheklakfbeeaaGreatDoorM03
set_option linter.all false
set_option maxRecDepth 100000
set_option maxHeartbeats 16000000
namespace Go.Proofs.YtdkheklakfbeeaaGreatDoor
open Go.RowKit Tryz
section
variable {a:Act} {d t:Nat} {v:Value}
theorem z_d (h:d<a.tmps.size):(a.put (some d) v).eval (.tmp d)=v:=by
 show (a.tmps.setIfInBounds d v).getD d undef=v;simp[Array.getD_eq_getD_getElem?,h]
theorem z_a (h:d≠t):(a.put (some d) v).eval (.tmp t)=a.eval (.tmp t):=by
 show (a.tmps.setIfInBounds d v).getD t undef=a.tmps.getD t undef;simp[Array.getD_eq_getD_getElem?,Array.getElem?_setIfInBounds,h]
theorem z_f:(a.put (some d) v).tmps.size=a.tmps.size:=by
 show (a.tmps.setIfInBounds d v).size=a.tmps.size;simp
end
def z_q (n:Nat):Code->Option (Array Oper)
 | .region id ah _=>if id=n then some ah else none
 | .seq a b=>(z_q n a).or (z_q n b)
 | .cond _ a b=>(z_q n a).or (z_q n b)
 | .block _ b=>z_q n b
 | .loop b=>z_q n b
 | .scope b=>z_q n b
 | _=>none
def z_j (ah:Array Oper) (i:Nat) (op:Op) (d:Option Nat):Prop:=(ah[i]?).map (fun o=>(o.op,o.dst,o.guard))=some (op,d,none)
theorem z_j.get {ah:Array Oper} {i:Nat} {op:Op} {d:Option Nat} (h:z_j ah i op d):∃o,ah[i]?=some o/\o.op=op/\o.dst=d/\o.guard=none:=by
 unfold z_j at h;rcases e:ah[i]? with _|o
 ·rw[e] at h;cases h
 ·rw[e] at h
  injection h with h
  injection h with h1 h
  injection h with h2 h3
  exact ⟨o,rfl,h1,h2,h3⟩
section
variable {P:Program} {ah:Array Oper} {Q:Exit->Act->World->Prop} {md:Region.Mode} {S:World->Prop} {fuel:Nat} {listed:Array Bool} {a:Act} {w:World}
theorem z_K (i:Nat) (op:Op) (d:Nat) (v:Value) (ho:z_j ah i op (some d)) (hs:Region.noSelect ah=true) (hf:Region.free md ah listed i=true) (hr:(Region.ready md ah listed).contains i=true)
  (hQ:∀c (a:Act) d v w,Q (.panic c) (a.put d v) w->Q (.panic c) a w) (hy:∀(w:World) (o:Oper),S w->o.op=op->(execOp a.eval o).run P w=.ok (.value v) w) (hS:S w)
  (h:wpAnyH P md ah Q S fuel (listed.setIfInBounds i true) (a.put (some d) v) w):wpAnyH P md ah Q S (fuel+1) listed a w:=by
 obtain ⟨o,h1,h2,h3,h4⟩:=ho.get;refine wpAnyH_take h1 hs hf hr (fun c a w=>hQ c a _ _ w) (.inl ⟨by unfold Region.wanted;rw[h4],fun w hS=>hy w o hS h2⟩) hS ?_;rw[h3];exact h
theorem w_F (i:Nat) (op:Op) (d:Nat) (v:Value) (w':World) (ho:z_j ah i op (some d)) (hr:Region.ready md ah listed=[i]) (hy:∀o:Oper,o.op=op->(execOp a.eval o).run P w=.ok (.value v) w') (hS:S w')
  (h:wpAnyH P md ah Q S fuel (listed.setIfInBounds i true) (a.put (some d) v) w'):wpAnyH P md ah Q S (fuel+1) listed a w:=by
 obtain ⟨o,h1,h2,h3,h4⟩:=ho.get;refine wpAnyH_all hr (by simp) fun j hj=>?_
 obtain rfl:j=i:=by simpa using hj
 unfold wpOp;simp only[h1];rw[if_pos (by unfold Region.wanted;rw[h4])];refine .inl ?_;unfold Oper.wp;rw[hy o h2];show _/\_;rw[h3];exact ⟨hS,h⟩
theorem rg_store (i:Nat) (op:Op) (w':World) (ho:z_j ah i op none) (hr:Region.ready md ah listed=[i]) (hy:∀o:Oper,o.op=op->(execOp a.eval o).run P w=.ok .skip w') (hS:S w')
  (h:wpAnyH P md ah Q S fuel (listed.setIfInBounds i true) a w'):wpAnyH P md ah Q S (fuel+1) listed a w:=by
 obtain ⟨o,h1,h2,h3,h4⟩:=ho.get;refine wpAnyH_all hr (by simp) fun j hj=>?_
 obtain rfl:j=i:=by simpa using hj
 unfold wpOp;simp only[h1];rw[if_pos (by unfold Region.wanted;rw[h4])];refine .inl ?_;unfold Oper.wp;rw[hy o h2];show _/\_;rw[h3];exact ⟨hS,h⟩
theorem rg_call (i:Nat) (op:Op) (d:Nat) (f:FuncId) (args:Array Value) (ho:z_j ah i op (some d)) (hr:Region.ready md ah listed=[i]) (hy:∀o:Oper,o.op=op->(execOp a.eval o).run P w=.ok (.enter f args) w)
  (h:Calls P f args w fun e w'=>∃v,e=.returned v/\S w'/\wpAnyH P md ah Q S fuel (listed.setIfInBounds i true) (a.put (some d) v) w'):wpAnyH P md ah Q S (fuel+1) listed a w:=by
 obtain ⟨o,h1,h2,h3,h4⟩:=ho.get;refine wpAnyH_all hr (by simp) fun j hj=>?_
 obtain rfl:j=i:=by simpa using hj
 unfold wpOp;simp only[h1];rw[if_pos (by unfold Region.wanted;rw[h4])];refine .inl ?_;unfold Oper.wp;rw[hy o h2];refine Calls.mono h ?_;rintro e w' ⟨v,rfl,h5,h6⟩;show _/\_;rw[h3];exact ⟨h5,h6⟩
theorem rg_step_or_call (i k:Nat) (Cu Cv:Op) (d1 d2:Nat) (v1:Value) (f:FuncId) (args:Array Value) (sK:z_j ah i Cu (some d1)) (pE:z_j ah k Cv (some d2)) (hr:Region.ready md ah listed=[i,k])
  (nj:∀o:Oper,o.op=Cu->(execOp a.eval o).run P w=.ok (.value v1) w) (Cw:∀o:Oper,o.op=Cv->(execOp a.eval o).run P w=.ok (.enter f args) w) (hS:S w)
  (h1:wpAnyH P md ah Q S fuel (listed.setIfInBounds i true) (a.put (some d1) v1) w)
  (h2:Calls P f args w fun e w'=>∃v,e=.returned v/\S w'/\wpAnyH P md ah Q S fuel (listed.setIfInBounds k true) (a.put (some d2) v) w'):wpAnyH P md ah Q S (fuel+1) listed a w:=by
 obtain ⟨o1,g1,g2,g3,g4⟩:=sK.get;obtain ⟨o2,q1,q2,q3,q4⟩:=pE.get;refine wpAnyH_all hr (by simp) fun j hj=>?_
 have iQ:j=i\/j=k:=by simpa using hj
 unfold wpOp;rcases iQ with rfl|rfl
 ·simp only[g1]
  rw[if_pos (by unfold Region.wanted;rw[g4])];refine .inl ?_;unfold Oper.wp;rw[nj o1 g2];show _/\_;rw[g3];exact ⟨hS,h1⟩
 ·simp only[q1]
  rw[if_pos (by unfold Region.wanted;rw[q4])];refine .inl ?_;unfold Oper.wp;rw[Cw o2 q2];refine Calls.mono h2 ?_;rintro e w' ⟨v,rfl,h5,h6⟩;show _/\_;rw[q3];exact ⟨h5,h6⟩
end
section
variable {P:Program} {ρ:Operand->Value} {w:World} {o:Oper}
theorem y_i {x:Operand} (h:o.op=.move x) {v:Value} (hv:ρ x=v):(execOp ρ o).run P w=.ok (.value v) w:=by
 subst hv;unfold execOp;rw[h];rfl
end
section
variable {P:Program} {ah:Array Oper} {Q:Exit->Act->World->Prop} {md:Region.Mode} {S:World->Prop} {fuel:Nat} {listed:Array Bool} {a:Act} {w:World}
def Nx (P:Program) (ah:Array Oper) (Q:Exit->Act->World->Prop) (md:Region.Mode) (S:World->Prop) (fuel:Nat) (listed:Array Bool) (a:Act) (w:World) (i:Nat):Prop :=
 wpOp P ah Q i (fun a' w'=>S w'/\wpAnyH P md ah Q S fuel (listed.setIfInBounds i true) a' w') a w
theorem rg_nil (hr:Region.ready md ah listed=[]) (h:Q .normal a w):wpAnyH P md ah Q S fuel listed a w:=wpAnyH_done hr h _
theorem x_H {i:Nat} (hr:Region.ready md ah listed=[i]) (h:Nx P ah Q md S fuel listed a w i):wpAnyH P md ah Q S (fuel+1) listed a w :=
 wpAnyH_all hr (by simp) fun j hj=>by
  obtain rfl:j=i:=by simpa using hj
  exact h
theorem rg_2 {i k:Nat} (hr:Region.ready md ah listed=[i,k]) (h1:Nx P ah Q md S fuel listed a w i) (h2:Nx P ah Q md S fuel listed a w k):wpAnyH P md ah Q S (fuel+1) listed a w :=
 wpAnyH_all hr (by simp) fun j hj=>by
  have iQ:j=i\/j=k:=by simpa using hj
  rcases iQ with rfl|rfl
  ·exact h1
  ·exact h2
theorem rg_3 {i k m:Nat} (hr:Region.ready md ah listed=[i,k,m]) (h1:Nx P ah Q md S fuel listed a w i) (h2:Nx P ah Q md S fuel listed a w k) (h3:Nx P ah Q md S fuel listed a w m):wpAnyH P md ah Q S (fuel+1) listed a w :=
 wpAnyH_all hr (by simp) fun j hj=>by
  have iQ:j=i\/j=k\/j=m:=by simpa using hj
  rcases iQ with rfl|rfl|rfl
  ·exact h1
  ·exact h2
  ·exact h3
theorem x_3 {i:Nat} {op:Op} {d:Nat} (ho:z_j ah i op (some d)) (v:Value) (w':World) (hy:∀o:Oper,o.op=op->(execOp a.eval o).run P w=.ok (.value v) w') (hS:S w')
  (h:wpAnyH P md ah Q S fuel (listed.setIfInBounds i true) (a.put (some d) v) w'):Nx P ah Q md S fuel listed a w i:=by
 obtain ⟨o,h1,h2,h3,h4⟩:=ho.get;unfold Nx wpOp;simp only[h1];rw[if_pos (by unfold Region.wanted;rw[h4])];refine .inl ?_;unfold Oper.wp;rw[hy o h2];show _/\_;rw[h3];exact ⟨hS,h⟩
theorem y_S {i:Nat} {op:Op} (ho:z_j ah i op none) (w':World) (hy:∀o:Oper,o.op=op->(execOp a.eval o).run P w=.ok .skip w') (hS:S w')
  (h:wpAnyH P md ah Q S fuel (listed.setIfInBounds i true) a w'):Nx P ah Q md S fuel listed a w i:=by
 obtain ⟨o,h1,h2,h3,h4⟩:=ho.get;unfold Nx wpOp;simp only[h1];rw[if_pos (by unfold Region.wanted;rw[h4])];refine .inl ?_;unfold Oper.wp;rw[hy o h2];show _/\_;rw[h3];exact ⟨hS,h⟩
theorem nx_call {i:Nat} {op:Op} {d:Nat} {f:FuncId} {args:Array Value} (ho:z_j ah i op (some d)) (hy:∀o:Oper,o.op=op->(execOp a.eval o).run P w=.ok (.enter f args) w)
  (h:Calls P f args w fun e w'=>∃v,e=.returned v/\S w'/\wpAnyH P md ah Q S fuel (listed.setIfInBounds i true) (a.put (some d) v) w'):Nx P ah Q md S fuel listed a w i:=by
 obtain ⟨o,h1,h2,h3,h4⟩:=ho.get;unfold Nx wpOp;simp only[h1];rw[if_pos (by unfold Region.wanted;rw[h4])];refine .inl ?_;unfold Oper.wp;rw[hy o h2];refine Calls.mono h ?_;rintro e w' ⟨v,rfl,h5,h6⟩;show _/\_;rw[h3];exact ⟨h5,h6⟩
end
theorem opsT_0:z_j ((Tryz.f177.body.bind (z_q 0)).getD #[]) 0 (.move (.tmp 1)) (some 16):=by unfold z_j;kernel_rfl
theorem opsT_1:z_j ((Tryz.f177.body.bind (z_q 0)).getD #[]) 1 (.call { callee:=.value (.func 227),args:=#[.tmp 16],argTypes:=#[9] }) (some 17):=by unfold z_j;kernel_rfl
theorem opsT_2:z_j ((Tryz.f177.body.bind (z_q 0)).getD #[]) 2 (.move (.tmp 0)) (some 18):=by unfold z_j;kernel_rfl
theorem opsT_3:z_j ((Tryz.f177.body.bind (z_q 0)).getD #[]) 3 (.nilCheck (.tmp 18)) (some 19):=by unfold z_j;kernel_rfl
theorem opsT_4:z_j ((Tryz.f177.body.bind (z_q 0)).getD #[]) 4 (.fieldAddr 273 (.tmp 19) 0) (some 20):=by unfold z_j;kernel_rfl
theorem opsT_5:z_j ((Tryz.f177.body.bind (z_q 0)).getD #[]) 5 (.load 271 (.tmp 20)) (some 21):=by unfold z_j;kernel_rfl
theorem opsT_6:z_j ((Tryz.f177.body.bind (z_q 0)).getD #[]) 6 (.alloc 313) (some 4):=by unfold z_j;kernel_rfl
theorem opsT_7:z_j ((Tryz.f177.body.bind (z_q 0)).getD #[]) 7 (.alloc 271) (some 5):=by unfold z_j;kernel_rfl
theorem opsT_8:z_j ((Tryz.f177.body.bind (z_q 0)).getD #[]) 8 (.store 313 (.tmp 4) (.tmp 17)) none:=by unfold z_j;kernel_rfl
theorem opsT_9:z_j ((Tryz.f177.body.bind (z_q 0)).getD #[]) 9 (.store 271 (.tmp 5) (.tmp 21)) none:=by unfold z_j;kernel_rfl
theorem w_C:(prog.info? 271).map (·.size)=some 8:=by kernel_rfl
theorem zerosU8:(#[.int .u32 0,.int .u32 0,.int .u32 0,.int .u32 0,.int .u32 0,.int .u32 0,.int .u32 0,.int .u32 0]:Array Value)=(uv (List.replicate 8 0)).toArray:=by rfl
theorem all_uv (L:List Nat):(uv L).toArray.all (·.oneCell')=true:=all_oneCell_toArray (w_u L)
section
variable {ρ:Operand->Value} {w:World} {o:Oper}
theorem exT_nil {x:Operand} (h:o.op=.nilCheck x) {p:Addr} (hx:ρ x=.pointer (some p)):(execOp ρ o).run prog w=.ok (.value (.pointer (some p))) w:=by
 unfold execOp;rw[h];simp only[hx];go_simp
theorem exT_field {x:Operand} (h:o.op=.fieldAddr 273 x 0) {p:Nat} (hx:ρ x=.pointer (some ⟨p,0,none⟩)):(execOp ρ o).run prog w=.ok (.value (.pointer (some ⟨p,0,none⟩))) w:=by
 unfold execOp;rw[h];simp only[hx];go_simp
theorem exT_load8 {x:Operand} (h:o.op=.load 271 x) {p:Nat} {V:List Nat} (hV:V.length=8) (hx:ρ x=.pointer (some ⟨p,0,none⟩)) (hc:w.rangeAt p 0 (uv V)):(execOp ρ o).run prog w=.ok (.value (.agg (uv V).toArray)) w:=by
 unfold execOp;simp only[h,hx,Instr.loadAt,Instr.sureAddr,Sem.run_bind,Sem.run_pure,Result.andThen_ok,run_loadVar_mid w p 0 271 (uv V) _ hc underlying271 rfl (by rw[z_l,hV];exact w_C)]
theorem x_2 (h:o.op=.alloc 313):(execOp ρ o).run prog w=.ok (.value (.pointer (some ⟨w.heap.size,0,none⟩))) (w.alloc (.cells (uv (List.replicate 64 0)).toArray 313)):=by
 rw[<-zeros64];unfold execOp;rw[h];go_simp
theorem w_w (h:o.op=.alloc 271):(execOp ρ o).run prog w=.ok (.value (.pointer (some ⟨w.heap.size,0,none⟩))) (w.alloc (.cells (uv (List.replicate 8 0)).toArray 271)):=by
 rw[<-zerosU8];unfold execOp;rw[h];go_simp
theorem y_B {t:TypeId} {n:Nat} (hn:(prog.info? t).map (·.size)=some n) {x y:Operand} (h:o.op=.store t x y) {g:Nat} {L M:List Nat} (hL:L.length=n) (hM:M.length=n) (hx:ρ x=.pointer (some ⟨g,0,none⟩)) (hy:ρ y=.agg (uv L).toArray) (hg:Blk w g t (uv M).toArray) :
  (execOp ρ o).run prog w=.ok .skip (w.setRow g (uv L).toArray):=by
 unfold execOp;simp only[h,hx,hy,Instr.storeAt,Instr.sureAddr,Sem.run_bind,Sem.run_pure,Result.andThen_ok,run_storeVar_row w g t t (uv M).toArray (uv L).toArray hg (by rw[q_y,z_l,hL];exact hn) (by rw[q_y,q_y,z_l,z_l,hL,hM]) (all_uv L)]
theorem v_D {x:Operand} (h:o.op=.call { callee:=.value (.func 227),args:=#[x],argTypes:=#[9] }) {v:Value} (hf:ρ (.func 227)=.func (.func 227) #[] #[]) (hx:ρ x=v):(execOp ρ o).run prog w=.ok (.enter 227 #[v]) w:=by
 unfold execOp;rw[h];simp only[resolve,hf];go_simp
end
theorem Blk.setRow {w:World} {g t:Nat} {cs cs':Array Value} (h:Blk w g t cs):Blk (w.setRow g cs') g t cs':=setRow_heap w g cs cs' t (0,0) h
theorem Blk.farRow {w:World} {g k t:Nat} {cs cs':Array Value} (h:Blk w k t cs) (aA:k≠g):Blk (w.setRow g cs') k t cs:=(setRow_other w g k cs' aA).trans h
theorem sched_len (s:ByteArray) (hs:s.size=64):(x_a s.data.toList).length=64:=by
 unfold x_a y_V;rw[scI_len,q_b,q_i,q_H,z_n,hs];simp
theorem pcT {a:Act} {v u:Value} (x y:Nat) (h:x≠y):(a.put (some x) v).put (some y) u=(a.put (some y) u).put (some x) v:=Act.put_comm a v u (fun d hd he=>h (by injection hd with hd;injection he with he;omega))
def frT (a:Act) (JZ J0 J1 v20 J2 J3 v4 v5:Value):Act:=((((((((a.put (some 16) JZ).put (some 18) J0).put (some 19) J1).put (some 20) v20).put (some 21) J2).put (some 17) J3).put (some 4) v4).put (some 5) v5)
theorem region_take {ah:Array Oper} (mq:ah=((Tryz.f177.body.bind (z_q 0)).getD #[])) (Q:Exit->Act->World->Prop) (hQ:∀c (a:Act) d v w,Q (.panic c) (a.put d v) w->Q (.panic c) a w) (a:Act) (W:World) (aj:a.tmps.size=115)
  (p:Nat) (V:List Nat) (hV:V.length=8) (tl:List Value) (s:ByteArray) (hs:s.size=64) (h0:a.eval (.tmp 0)=.pointer (some ⟨p,0,none⟩)) (h1:a.eval (.tmp 1)=.string s)
  (HP:Blk W p 273 (uv V++tl).toArray)
  (aO:∀JZ J0 J1 v20 J2 J3 G4 G5 W',Blk W' p 273 (uv V++tl).toArray->Blk W' G4 313 (uv (x_a s.data.toList)).toArray->Blk W' G5 271 (uv V).toArray->G4≠G5->p<G4->p<G5->W.heap.size<=G4->W.heap.size<=G5->Below W.heap.size W W'->Q .normal (frT a JZ J0 J1 v20 J2 J3 (.pointer (some ⟨G4,0,none⟩)) (.pointer (some ⟨G5,0,none⟩))) W') :
  (Code.region 0 ah true).wp prog Q a W:=by
 subst mq
 have ev:Region.noSelect ((Tryz.f177.body.bind (z_q 0)).getD #[])=true:=by kernel_rfl
 have ft:((Tryz.f177.body.bind (z_q 0)).getD #[]).size=10:=by kernel_rfl
 refine wp_region_held (S:=fun w'=>w'.rangeAt p 0 (uv V)) (by kernel_rfl) ?_;rw[ft]
 have aF:∀w':World,Blk w' p 273 (uv V++tl).toArray->w'.rangeAt p 0 (uv V):=fun w' h j v hj=>by
  have iQ:j<(uv V).length:=(q_J.1 hj).1;rw[q_D,h.cell,q_p,q_F iQ];exact hj
 have hp:Blk W.drew p 273 (uv V++tl).toArray:=HP.drew;have hB:Below W.heap.size W W.drew:=(Below.refl _ _).drew;have cY:W.heap.size<=W.drew.heap.size:=q_e _;have bQ:p<W.heap.size:=HP.lt;have fv:=aF _ hp;have pM:=fun W1=>schedule_any W1 s hs;have nO:=sched_len s hs;have lT:=hV;show wpAnyH _ _ _ _ _ _ _ _ W.drew;generalize W.drew=W0 at *;generalize x_a s.data.toList=S at *;refine z_K 0 _ _ (.string s) opsT_0 ev (by kernel_rfl) (by kernel_rfl) hQ (fun w o hS ho=>y_i ho h1) fv ?_;refine z_K 2 _ _ (.pointer (some ⟨p,0,none⟩)) opsT_2 ev (by kernel_rfl) (by kernel_rfl) hQ (fun w o hS ho=>y_i ho ((z_a (by decide)).trans h0)) fv ?_;refine z_K 3 _ _ (.pointer (some ⟨p,0,none⟩)) opsT_3 ev (by kernel_rfl) (by kernel_rfl) hQ (fun w o hS ho=>exT_nil ho (z_d (by simp only[z_f,aj];decide))) fv ?_;refine z_K 4 _ _ (.pointer (some ⟨p,0,none⟩)) opsT_4 ev (by kernel_rfl) (by kernel_rfl) hQ (fun w o hS ho=>exT_field ho (z_d (by simp only[z_f,aj];decide))) fv ?_;refine z_K 5 _ _ (.agg (uv V).toArray) opsT_5 ev (by kernel_rfl) (by kernel_rfl) hQ (fun w o hS ho=>exT_load8 ho hV (z_d (by simp only[z_f,aj];decide)) hS) fv ?_;refine rg_3 (i:=1) (k:=6) (m:=7) (by kernel_rfl) ?_ ?_ ?_
 ·skip
  refine nx_call opsT_1 (fun o ho=>v_D ho rfl ((z_a (by decide)).trans ((z_a (by decide)).trans ((z_a (by decide)).trans ((z_a (by decide)).trans (z_d (by simp only[z_f,aj];decide))))))) ?_;refine (pM _).mono ?_;rintro e W1 ⟨rfl,ay⟩;have sL:=hp.below ay hp.lt;have bT:=z_G hB cY ay;have li:=q_g cY ay.size;refine ⟨_,rfl,aF _ sL,?_⟩;refine rg_2 (i:=6) (k:=7) (by kernel_rfl) ?_ ?_
  ·skip
   have Cx:=sL.alloc (.cells (uv (List.replicate 64 0)).toArray 313);have dO:=bT.alloc li (.cells (uv (List.replicate 64 0)).toArray 313);have g4x2:=Blk.new W1 313 (uv (List.replicate 64 0)).toArray;have uN:W.heap.size<=(W1.alloc (.cells (uv (List.replicate 64 0)).toArray 313)).heap.size:=q_g li (by simp);refine x_3 opsT_6 _ _ (fun o ho=>x_2 ho) (aF _ Cx) ?_;refine x_H (i:=7) (by kernel_rfl) ?_;have sM:=Cx.alloc (.cells (uv (List.replicate 8 0)).toArray 271);have lj:=dO.alloc uN (.cells (uv (List.replicate 8 0)).toArray 271);have g5x3:=Blk.new (W1.alloc (.cells (uv (List.replicate 64 0)).toArray 313)) 271 (uv (List.replicate 8 0)).toArray;have g4x3:=g4x2.alloc (.cells (uv (List.replicate 8 0)).toArray 271);have J4:=q_E g4x2.lt;have hL3:W.heap.size<=((W1.alloc (.cells (uv (List.replicate 64 0)).toArray 313)).alloc (.cells (uv (List.replicate 8 0)).toArray 271)).heap.size:=q_g uN (by simp);refine x_3 opsT_7 _ _ (fun o ho=>w_w ho) (aF _ sM) ?_;have J5:W1.heap.size≠(W1.alloc (.cells (uv (List.replicate 64 0)).toArray 313)).heap.size:=J4;have Qo:=sM.farRow (cs':=(uv S).toArray) (q_E (q_f bQ li));have Uz:=g4x3.setRow (cs':=(uv S).toArray);have Qp:=g5x3.farRow (cs':=(uv S).toArray) J5.symm;have UA:=below_setRow lj li (uv S).toArray;refine x_H (i:=8) (by kernel_rfl) (y_S opsT_8 _ (fun o ho=>y_B x_C ho nO (by simp) ((z_a (by decide)).trans (z_d (by simp only[z_f,aj];decide))) ((z_a (by decide)).trans ((z_a (by decide)).trans (z_d (by simp only[z_f,aj];decide)))) g4x3) (aF _ Qo) ?_);have Qq:=Qo.farRow (cs':=(uv V).toArray) (q_E (q_f bQ uN));have UB:=Uz.farRow (cs':=(uv V).toArray) J5;have UC:=Qp.setRow (cs':=(uv V).toArray);have UD:=below_setRow UA uN (uv V).toArray;refine x_H (i:=9) (by kernel_rfl) (y_S opsT_9 _ (fun o ho=>y_B w_C ho lT (by simp) (z_d (by simp only[z_f,aj];decide)) ((z_a (by decide)).trans ((z_a (by decide)).trans ((z_a (by decide)).trans (z_d (by simp only[z_f,aj];decide))))) Qp) (aF _ Qq) ?_);exact rg_nil (by kernel_rfl) (aO _ _ _ _ _ _ _ _ _ Qq UB UC J5 (q_f bQ li) (q_f bQ uN) li uN UD)
  ·skip
   have Cy:=sL.alloc (.cells (uv (List.replicate 8 0)).toArray 271);have Cz:=bT.alloc li (.cells (uv (List.replicate 8 0)).toArray 271);have g5x5:=Blk.new W1 271 (uv (List.replicate 8 0)).toArray;have AV:W.heap.size<=(W1.alloc (.cells (uv (List.replicate 8 0)).toArray 271)).heap.size:=q_g li (by simp);refine x_3 opsT_7 _ _ (fun o ho=>w_w ho) (aF _ Cy) ?_;refine x_H (i:=6) (by kernel_rfl) ?_;have ju:=Cy.alloc (.cells (uv (List.replicate 64 0)).toArray 313);have UE:=Cz.alloc AV (.cells (uv (List.replicate 64 0)).toArray 313);have g4x6:=Blk.new (W1.alloc (.cells (uv (List.replicate 8 0)).toArray 271)) 313 (uv (List.replicate 64 0)).toArray;have g5x6:=g5x5.alloc (.cells (uv (List.replicate 64 0)).toArray 313);have J6:=q_E g5x5.lt;have hL6:W.heap.size<=((W1.alloc (.cells (uv (List.replicate 8 0)).toArray 271)).alloc (.cells (uv (List.replicate 64 0)).toArray 313)).heap.size:=q_g AV (by simp);refine x_3 opsT_6 _ _ (fun o ho=>x_2 ho) (aF _ ju) ?_;have J7:(W1.alloc (.cells (uv (List.replicate 8 0)).toArray 271)).heap.size≠W1.heap.size:=J6.symm;have Qr:=ju.farRow (cs':=(uv S).toArray) (q_E (q_f bQ AV));have UF:=g4x6.setRow (cs':=(uv S).toArray);have Qs:=g5x6.farRow (cs':=(uv S).toArray) J7.symm;have UG:=below_setRow UE AV (uv S).toArray;refine x_H (i:=8) (by kernel_rfl) (y_S opsT_8 _ (fun o ho=>y_B x_C ho nO (by simp) (z_d (by simp only[z_f,aj];decide)) ((z_a (by decide)).trans ((z_a (by decide)).trans (z_d (by simp only[z_f,aj];decide)))) g4x6) (aF _ Qr) ?_);have Qt:=Qr.farRow (cs':=(uv V).toArray) (q_E (q_f bQ li));have UH:=UF.farRow (cs':=(uv V).toArray) J7;have UI:=Qs.setRow (cs':=(uv V).toArray);have UJ:=below_setRow UG li (uv V).toArray;refine x_H (i:=9) (by kernel_rfl) (y_S opsT_9 _ (fun o ho=>y_B w_C ho lT (by simp) ((z_a (by decide)).trans (z_d (by simp only[z_f,aj];decide))) ((z_a (by decide)).trans ((z_a (by decide)).trans ((z_a (by decide)).trans (z_d (by simp only[z_f,aj];decide))))) Qs) (aF _ Qt) ?_);rw[pcT 5 4 (by decide)];exact rg_nil (by kernel_rfl) (aO _ _ _ _ _ _ _ _ _ Qt UH UI J7 (q_f bQ AV) (q_f bQ li) AV li UJ)
 ·skip
  have jL:=hp.alloc (.cells (uv (List.replicate 64 0)).toArray 313);have Is:=hB.alloc cY (.cells (uv (List.replicate 64 0)).toArray 313);have g4x8:=Blk.new W0 313 (uv (List.replicate 64 0)).toArray;have uO:W.heap.size<=(W0.alloc (.cells (uv (List.replicate 64 0)).toArray 313)).heap.size:=q_g cY (by simp);refine x_3 opsT_6 _ _ (fun o ho=>x_2 ho) (aF _ jL) ?_;refine rg_2 (i:=1) (k:=7) (by kernel_rfl) ?_ ?_
  ·skip
   refine nx_call opsT_1 (fun o ho=>v_D ho rfl ((z_a (by decide)).trans ((z_a (by decide)).trans ((z_a (by decide)).trans ((z_a (by decide)).trans ((z_a (by decide)).trans (z_d (by simp only[z_f,aj];decide)))))))) ?_;refine (pM _).mono ?_;rintro e W9 ⟨rfl,It⟩;have Qu:=jL.below It jL.lt;have pN:=z_G Is uO It;have AW:=q_g uO It.size;have g4x9:=g4x8.below It g4x8.lt;refine ⟨_,rfl,aF _ Qu,?_⟩;refine x_H (i:=7) (by kernel_rfl) ?_;have nP:=Qu.alloc (.cells (uv (List.replicate 8 0)).toArray 271);have J8:=pN.alloc AW (.cells (uv (List.replicate 8 0)).toArray 271);have g5x10:=Blk.new W9 271 (uv (List.replicate 8 0)).toArray;have g4x10:=g4x9.alloc (.cells (uv (List.replicate 8 0)).toArray 271);have CA:=q_E g4x9.lt;have UK:W.heap.size<=(W9.alloc (.cells (uv (List.replicate 8 0)).toArray 271)).heap.size:=q_g AW (by simp);refine x_3 opsT_7 _ _ (fun o ho=>w_w ho) (aF _ nP) ?_;have xv:W0.heap.size≠W9.heap.size:=CA;have CB:=nP.farRow (cs':=(uv S).toArray) (q_E (q_f bQ cY));have J9:=g4x10.setRow (cs':=(uv S).toArray);have CD:=g5x10.farRow (cs':=(uv S).toArray) xv.symm;have Ka:=below_setRow J8 cY (uv S).toArray;refine x_H (i:=8) (by kernel_rfl) (y_S opsT_8 _ (fun o ho=>y_B x_C ho nO (by simp) ((z_a (by decide)).trans ((z_a (by decide)).trans (z_d (by simp only[z_f,aj];decide)))) ((z_a (by decide)).trans (z_d (by simp only[z_f,aj];decide))) g4x10) (aF _ CB) ?_);have CE:=CB.farRow (cs':=(uv V).toArray) (q_E (q_f bQ AW));have Kb:=J9.farRow (cs':=(uv V).toArray) xv;have Kc:=CD.setRow (cs':=(uv V).toArray);have Kd:=below_setRow Ka AW (uv V).toArray;refine x_H (i:=9) (by kernel_rfl) (y_S opsT_9 _ (fun o ho=>y_B w_C ho lT (by simp) (z_d (by simp only[z_f,aj];decide)) ((z_a (by decide)).trans ((z_a (by decide)).trans ((z_a (by decide)).trans (z_d (by simp only[z_f,aj];decide))))) CD) (aF _ CE) ?_);rw[pcT 4 17 (by decide)];exact rg_nil (by kernel_rfl) (aO _ _ _ _ _ _ _ _ _ CE Kb Kc xv (q_f bQ cY) (q_f bQ AW) cY AW Kd)
  ·skip
   have nQ:=jL.alloc (.cells (uv (List.replicate 8 0)).toArray 271);have Ke:=Is.alloc uO (.cells (uv (List.replicate 8 0)).toArray 271);have g5x12:=Blk.new (W0.alloc (.cells (uv (List.replicate 64 0)).toArray 313)) 271 (uv (List.replicate 8 0)).toArray;have g4x12:=g4x8.alloc (.cells (uv (List.replicate 8 0)).toArray 271);have CF:=q_E g4x8.lt;have CG:W.heap.size<=((W0.alloc (.cells (uv (List.replicate 64 0)).toArray 313)).alloc (.cells (uv (List.replicate 8 0)).toArray 271)).heap.size:=q_g uO (by simp);refine x_3 opsT_7 _ _ (fun o ho=>w_w ho) (aF _ nQ) ?_;refine x_H (i:=1) (by kernel_rfl) ?_;refine nx_call opsT_1 (fun o ho=>v_D ho rfl ((z_a (by decide)).trans ((z_a (by decide)).trans ((z_a (by decide)).trans ((z_a (by decide)).trans ((z_a (by decide)).trans ((z_a (by decide)).trans (z_d (by simp only[z_f,aj];decide))))))))) ?_;refine (pM _).mono ?_;rintro e W13 ⟨rfl,pO⟩;have CH:=nQ.below pO nQ.lt;have Kf:=z_G Ke CG pO;have UM:=q_g CG pO.size;have g4x13:=g4x12.below pO g4x12.lt;have g5x13:=g5x12.below pO g5x12.lt;refine ⟨_,rfl,aF _ CH,?_⟩;have xw:W0.heap.size≠(W0.alloc (.cells (uv (List.replicate 64 0)).toArray 313)).heap.size:=CF;have CI:=CH.farRow (cs':=(uv S).toArray) (q_E (q_f bQ cY));have Kg:=g4x13.setRow (cs':=(uv S).toArray);have CJ:=g5x13.farRow (cs':=(uv S).toArray) xw.symm;have Kh:=below_setRow Kf cY (uv S).toArray;refine x_H (i:=8) (by kernel_rfl) (y_S opsT_8 _ (fun o ho=>y_B x_C ho nO (by simp) ((z_a (by decide)).trans ((z_a (by decide)).trans (z_d (by simp only[z_f,aj];decide)))) (z_d (by simp only[z_f,aj];decide)) g4x13) (aF _ CI) ?_);have CK:=CI.farRow (cs':=(uv V).toArray) (q_E (q_f bQ uO));have Ki:=Kg.farRow (cs':=(uv V).toArray) xw;have Kj:=CJ.setRow (cs':=(uv V).toArray);have Kk:=below_setRow Kh uO (uv V).toArray;refine x_H (i:=9) (by kernel_rfl) (y_S opsT_9 _ (fun o ho=>y_B w_C ho lT (by simp) ((z_a (by decide)).trans (z_d (by simp only[z_f,aj];decide))) ((z_a (by decide)).trans ((z_a (by decide)).trans ((z_a (by decide)).trans (z_d (by simp only[z_f,aj];decide))))) CJ) (aF _ CK) ?_);rw[pcT 5 17 (by decide)];rw[pcT 4 17 (by decide)];exact rg_nil (by kernel_rfl) (aO _ _ _ _ _ _ _ _ _ CK Ki Kj xw (q_f bQ cY) (q_f bQ uO) cY uO Kk)
 ·skip
  have fO:=hp.alloc (.cells (uv (List.replicate 8 0)).toArray 271);have CL:=hB.alloc cY (.cells (uv (List.replicate 8 0)).toArray 271);have g5x15:=Blk.new W0 271 (uv (List.replicate 8 0)).toArray;have lk:W.heap.size<=(W0.alloc (.cells (uv (List.replicate 8 0)).toArray 271)).heap.size:=q_g cY (by simp);refine x_3 opsT_7 _ _ (fun o ho=>w_w ho) (aF _ fO) ?_;refine rg_2 (i:=1) (k:=6) (by kernel_rfl) ?_ ?_
  ·skip
   refine nx_call opsT_1 (fun o ho=>v_D ho rfl ((z_a (by decide)).trans ((z_a (by decide)).trans ((z_a (by decide)).trans ((z_a (by decide)).trans ((z_a (by decide)).trans (z_d (by simp only[z_f,aj];decide)))))))) ?_;refine (pM _).mono ?_;rintro e Kl ⟨rfl,mr⟩;have CM:=fO.below mr fO.lt;have Km:=z_G CL lk mr;have nR:=q_g lk mr.size;have g5x16:=g5x15.below mr g5x15.lt;refine ⟨_,rfl,aF _ CM,?_⟩;refine x_H (i:=6) (by kernel_rfl) ?_;have pP:=CM.alloc (.cells (uv (List.replicate 64 0)).toArray 313);have Kn:=Km.alloc nR (.cells (uv (List.replicate 64 0)).toArray 313);have g4x17:=Blk.new Kl 313 (uv (List.replicate 64 0)).toArray;have g5x17:=g5x16.alloc (.cells (uv (List.replicate 64 0)).toArray 313);have CN:=q_E g5x16.lt;have UN:W.heap.size<=(Kl.alloc (.cells (uv (List.replicate 64 0)).toArray 313)).heap.size:=q_g nR (by simp);refine x_3 opsT_6 _ _ (fun o ho=>x_2 ho) (aF _ pP) ?_;have xz:Kl.heap.size≠W0.heap.size:=CN.symm;have CO:=pP.farRow (cs':=(uv S).toArray) (q_E (q_f bQ nR));have Ko:=g4x17.setRow (cs':=(uv S).toArray);have CP:=g5x17.farRow (cs':=(uv S).toArray) xz.symm;have Kq:=below_setRow Kn nR (uv S).toArray;refine x_H (i:=8) (by kernel_rfl) (y_S opsT_8 _ (fun o ho=>y_B x_C ho nO (by simp) (z_d (by simp only[z_f,aj];decide)) ((z_a (by decide)).trans (z_d (by simp only[z_f,aj];decide))) g4x17) (aF _ CO) ?_);have CQ:=CO.farRow (cs':=(uv V).toArray) (q_E (q_f bQ cY));have Kr:=Ko.farRow (cs':=(uv V).toArray) xz;have Ks:=CP.setRow (cs':=(uv V).toArray);have Kt:=below_setRow Kq cY (uv V).toArray;refine x_H (i:=9) (by kernel_rfl) (y_S opsT_9 _ (fun o ho=>y_B w_C ho lT (by simp) ((z_a (by decide)).trans ((z_a (by decide)).trans (z_d (by simp only[z_f,aj];decide)))) ((z_a (by decide)).trans ((z_a (by decide)).trans ((z_a (by decide)).trans (z_d (by simp only[z_f,aj];decide))))) CP) (aF _ CQ) ?_);rw[pcT 5 17 (by decide)];rw[pcT 5 4 (by decide)];exact rg_nil (by kernel_rfl) (aO _ _ _ _ _ _ _ _ _ CQ Kr Ks xz (q_f bQ nR) (q_f bQ cY) nR cY Kt)
  ·skip
   have xA:=fO.alloc (.cells (uv (List.replicate 64 0)).toArray 313);have Ku:=CL.alloc lk (.cells (uv (List.replicate 64 0)).toArray 313);have g4x19:=Blk.new (W0.alloc (.cells (uv (List.replicate 8 0)).toArray 271)) 313 (uv (List.replicate 64 0)).toArray;have g5x19:=g5x15.alloc (.cells (uv (List.replicate 64 0)).toArray 313);have CR:=q_E g5x15.lt;have CT:W.heap.size<=((W0.alloc (.cells (uv (List.replicate 8 0)).toArray 271)).alloc (.cells (uv (List.replicate 64 0)).toArray 313)).heap.size:=q_g lk (by simp);refine x_3 opsT_6 _ _ (fun o ho=>x_2 ho) (aF _ xA) ?_;refine x_H (i:=1) (by kernel_rfl) ?_;refine nx_call opsT_1 (fun o ho=>v_D ho rfl ((z_a (by decide)).trans ((z_a (by decide)).trans ((z_a (by decide)).trans ((z_a (by decide)).trans ((z_a (by decide)).trans ((z_a (by decide)).trans (z_d (by simp only[z_f,aj];decide))))))))) ?_;refine (pM _).mono ?_;rintro e W20 ⟨rfl,pQ⟩;have fw:=xA.below pQ xA.lt;have Kv:=z_G Ku CT pQ;have UO:=q_g CT pQ.size;have g4x20:=g4x19.below pQ g4x19.lt;have g5x20:=g5x19.below pQ g5x19.lt;refine ⟨_,rfl,aF _ fw,?_⟩;have xB:(W0.alloc (.cells (uv (List.replicate 8 0)).toArray 271)).heap.size≠W0.heap.size:=CR.symm;have CU:=fw.farRow (cs':=(uv S).toArray) (q_E (q_f bQ lk));have Kw:=g4x20.setRow (cs':=(uv S).toArray);have CV:=g5x20.farRow (cs':=(uv S).toArray) xB.symm;have Kx:=below_setRow Kv lk (uv S).toArray;refine x_H (i:=8) (by kernel_rfl) (y_S opsT_8 _ (fun o ho=>y_B x_C ho nO (by simp) ((z_a (by decide)).trans (z_d (by simp only[z_f,aj];decide))) (z_d (by simp only[z_f,aj];decide)) g4x20) (aF _ CU) ?_);have CW:=CU.farRow (cs':=(uv V).toArray) (q_E (q_f bQ cY));have Ky:=Kw.farRow (cs':=(uv V).toArray) xB;have Kz:=CV.setRow (cs':=(uv V).toArray);have KA:=below_setRow Kx cY (uv V).toArray;refine x_H (i:=9) (by kernel_rfl) (y_S opsT_9 _ (fun o ho=>y_B w_C ho lT (by simp) ((z_a (by decide)).trans ((z_a (by decide)).trans (z_d (by simp only[z_f,aj];decide)))) ((z_a (by decide)).trans ((z_a (by decide)).trans ((z_a (by decide)).trans (z_d (by simp only[z_f,aj];decide))))) CV) (aF _ CW) ?_);rw[pcT 5 4 (by decide)];rw[pcT 5 17 (by decide)];rw[pcT 4 17 (by decide)];exact rg_nil (by kernel_rfl) (aO _ _ _ _ _ _ _ _ _ CW Ky Kz xB (q_f bQ lk) (q_f bQ cY) lk cY KA)
structure Kp (S:Nat->Prop) (w w':World):Prop where
 os:w'.os=w.os
 tape:w'.tape=w.tape
 output:w'.output=w.output
 size:w.heap.size<=w'.heap.size
 block:∀k,k<w.heap.size->¬S k->w'.heap[k]?=w.heap[k]?
def NoB:Nat->Prop:=fun _=>False
section
variable {S T:Nat->Prop} {w w' w'':World}
theorem Kp.refl (S:Nat->Prop) (w:World):Kp S w w:=⟨rfl,rfl,rfl,q_e _,fun _ _ _=>rfl⟩
theorem Kp.then (h:Kp S w w') (k:Kp T w' w'') (hT:∀q,q<w.heap.size->T q->S q):Kp S w w'' :=
 ⟨k.os.trans h.os,k.tape.trans h.tape,k.output.trans h.output,q_g h.size k.size,fun q hq hs=>(k.block q (q_f hq h.size) fun ht=>hs (hT q hq ht)).trans (h.block q hq hs)⟩
theorem Kp.trans (h:Kp S w w') (k:Kp S w' w''):Kp S w w'':=h.then k fun _ _ h=>h
theorem Kp.mono (h:Kp T w w') (hT:∀q,q<w.heap.size->T q->S q):Kp S w w':=(Kp.refl S w).then h hT
theorem Kp.drew (h:Kp S w w'):Kp S w w'.drew:=⟨h.os,h.tape,h.output,h.size,h.block⟩
theorem Kp.drewN (h:Kp S w w') (n:Nat):Kp S w (w'.drewN n):=⟨h.os,h.tape,h.output,h.size,h.block⟩
theorem Kp.alloc (h:Kp S w w') (o:Obj):Kp S w (w'.alloc o):=by
 have h0:=(Below.refl w'.heap.size w').alloc (q_e _) o;exact ⟨h0.os.trans h.os,h0.tape.trans h.tape,h0.output.trans h.output,q_g h.size h0.size,fun q hq hs=>(h0.block q (q_f hq h.size)).trans (h.block q hq hs)⟩
theorem Kp.setCell (h:Kp S w w') (p:Addr) (v:Value) (hp:S p.block\/w.heap.size<=p.block):Kp S w (w'.setCell p v) :=
 ⟨h.os,h.tape,h.output,by simpa[World.setCell] using h.size,fun q hq hs=>(Below.heap_setCell w' p v q (by rintro rfl;rcases hp with hp|hp;exact hs hp;omega)).trans (h.block q hq hs)⟩
theorem Kp.setRow (h:Kp S w w') (g:Nat) (cs:Array Value) (hp:S g\/w.heap.size<=g):Kp S w (w'.setRow g cs) :=
 ⟨h.os,h.tape,h.output,by simpa[World.setRow] using h.size,fun q hq hs=>(setRow_other w' g q cs (by rintro rfl;rcases hp with hp|hp;exact hs hp;omega)).trans (h.block q hq hs)⟩
theorem Kp.of_below (h:Below w.heap.size w w') (S:Nat->Prop):Kp S w w':=⟨h.os,h.tape,h.output,h.size,fun q hq _=>h.block q hq⟩
theorem Kp.below (h:Kp S w w') {B:Nat} (hB:B<=w.heap.size) (hS:∀q,q<B->¬S q):Below B w w':=⟨h.os,h.tape,h.output,h.size,fun q hq=>h.block q (q_f hq hB) (hS q hq)⟩
theorem Kp.below0 (h:Kp NoB w w'):Below w.heap.size w w':=h.below (q_e _) fun _ _ h=>h
theorem Kp.of_grown {row:Option Nat} (h:w.grownBy w' row) (hS:∀q,some q=row->S q):Kp S w w':=⟨h.os,h.tape,h.output,h.size,fun q hq hs=>h.block q hq fun e=>hs (hS q e)⟩
theorem Blk.kp {g t:Nat} {cs:Array Value} (h:Blk w g t cs) (k:Kp S w w') (hg:¬S g):Blk w' g t cs:=(k.block g h.lt hg).trans h
theorem z_e {base e size n:Nat} {v:Value} {xs:List Value} (h:w.ownsRow base e size v n xs) (k:Kp S w w') (aA:∀q,v.ownBlock=some q->¬S q):w'.ownsRow base e size v n xs:=by
 refine ⟨h.1,?_⟩;rcases h.2 with hn|⟨g,av,aQ,rfl,hb,gQ,rest⟩
 ·exact .inl hn
 ·exact .inr ⟨g,av,aQ,rfl,hb,(k.block g (q_K.1 gQ).1 (aA g rfl)).trans gQ,rest⟩
theorem Own.kp {base e:Nat} {v:Value} {xs:List Value} (h:Own w base e v xs) (k:Kp S w w') (aA:∀q,v.ownBlock=some q->¬S q):Own w' base e v xs:=z_e h k aA
end
theorem blk_hcell {w:World} {G t:Nat} {L:List Nat} {R:List Value} (h:Blk w G t (uv L++R).toArray) (i:Nat) (hi:i<L.length):w.cell? ⟨G,i,none⟩=some (.int .u32 (L.getD i 0:Nat)):=by
 rw[h.cell,q_p,q_F (by rw[z_l];exact hi),uv_at L i hi]
theorem blk_hset {w:World} {G t:Nat} {L:List Nat} {R:List Value} (h:Blk w G t (uv L++R).toArray) (i x:Nat) (hi:i<L.length):Blk (w.setCell ⟨G,i,none⟩ (.int .u32 x)) G t (uv (L.set i x)++R).toArray:=by
 have:=h.set_ i (.int .u32 x)
 rwa [q_A,List.set_append_left _ _ (by rw[z_l];exact hi),uv_set] at this
end Go.Proofs.YtdkheklakfbeeaaGreatDoor
