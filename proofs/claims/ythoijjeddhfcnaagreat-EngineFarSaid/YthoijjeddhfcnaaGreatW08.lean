import Derived.Test.YthoijjeddhfcnaaGreatW06
import Derived.Test.YthoijjeddhfcnaaGreatW07
set_option maxHeartbeats 4000000
set_option maxRecDepth 100000
set_option linter.unusedSimpArgs false
set_option linter.unusedVariables false
namespace Go.Proofs.YthoijjeddhfcnaaGreat
open Go.RowKit
section
variable {r:Option Nat} {P:Program} {N:Nat} {D:List Deferred} {F:HL} {w0:World} {R:HL} {s:Cfg} {Q:Exit -> Act -> World -> Prop} {hards:List Nat} {Rd:HL}
def dnC (i:Nat) (b:Blk) (s:Cfg):Cfg:=match s with
  | ⟨c,k,L,A,Ts⟩=>⟨c,k,L,match A[i]? with | some x=>setAt A i (x.1,b) | none=>A,Ts⟩
theorem setAt_den {A:HL} {i:Nat} {x:Nat × Blk} {b:Blk} (h:A[i]?=some x) (e:x.2.den=b.den):denL A=denL (setAt A i (x.1,b)):=by
  rw [setAt_eq]
  unfold denL
  rw [List.map_set]
  have h1:(A.map λ x=>(x.1,x.2.den))[i]?=some (x.1,b.den):=by rw [List.getElem?_map,h];simp [e]
  have hlt:i < (A.map λ x=>(x.1,x.2.den)).length:=(List.getElem?_eq_some_iff.1 h1).1
  have h2:(x.1,b.den)=(A.map λ x=>(x.1,x.2.den))[i]:=((List.getElem?_eq_some_iff.1 h1).2).symm
  show _=(A.map λ x=>(x.1,x.2.den)).set i (x.1,b.den)
  rw [h2,List.set_getElem_self]
def dnB (i:Nat) (s:Cfg):Option Obj:=(s.A[i]?).map (·.2.den)
theorem RN.dn (i:Nat) (b:Blk) (hk:RN r P N D F w0 R (dnC i b s) Q) (h:dnB i s=some b.den:=by kernel_rfl):RN r P N D F w0 R s Q:=by
  refine ⟨λ hR a w h1 h2 h3=>hk.h hR a w h1 ?_ h3⟩
  obtain ⟨c,k,L,A,Ts⟩:=s
  unfold dnB at h
  simp only [Option.map_eq_some_iff] at h
  obtain ⟨x,hx,e⟩:=h
  unfold dnC
  simp only [hx]
  exact h2.denA (setAt_den hx e)
theorem RD.dn (i:Nat) (b:Blk) (hk:RD r P N D F w0 R hards Rd (dnC i b s) Q) (h:dnB i s=some b.den:=by kernel_rfl):RD r P N D F w0 R hards Rd s Q:=by
  refine ⟨λ hR hs=>?_⟩
  obtain ⟨c,k,L,A,Ts⟩:=s
  unfold dnB at h
  simp only [Option.map_eq_some_iff] at h
  obtain ⟨x,hx,e⟩:=h
  have h1:=hk.h hR hs
  unfold dnC at h1
  simp only [hx] at h1
  exact TD.den _ (setAt_den hx e) h1
def otC (j:Nat) (x:Nat × Blk) (s:Cfg):Cfg:=match s with
  | ⟨c,k,L,A,Ts⟩=>⟨c,k,L,x :: A,(oth [j] Ts.length).filterMap (Ts[·]?)⟩
theorem RN.ot (j:Nat) {x:Nat × Blk} (hk:RN r P N D F w0 R (otC j x s) Q) (h:(s.Ts[j]?,([j]++oth [j] s.Ts.length).isPerm (List.range s.Ts.length))=(some [x],true):=by kernel_rfl):RN r P N D F w0 R s Q:=by
  simp only [Prod.mk.injEq] at h
  exact ⟨λ hR a w h1 h2 h3=>hk.h hR a w h1 (h2.perm ((openT_perm _ j h.2 h.1 rfl).append_right F)) h3⟩
def jtC (s:Cfg):Cfg:=match s with
  | ⟨c,k,L,A,T1 :: T2 :: Ts⟩=>⟨c,k,L,A,(T1++T2) :: Ts⟩
  | s=>s
def ntC (s:Cfg):Cfg:=match s with
  | ⟨c,k,L,A,Ts⟩=>⟨c,k,L,A,[] :: Ts⟩
theorem RN.nt (hk:RN r P N D F w0 R (ntC s) Q):RN r P N D F w0 R s Q:=⟨λ hR a w h1 h2 h3=>hk.h hR a w h1 h2 h3⟩
def svC (t:Nat) (v:Value) (s:Cfg):Cfg:=match s with
  | ⟨c,k,L,A,Ts⟩=>⟨c,k,(t,v) :: L,A,Ts⟩
theorem RN.sv (t:Nat) {u v:Value} (e:u=v) (hk:RN r P N D F w0 R (svC t v s) Q) (h:s.L.lookup t=some u:=by kernel_rfl):RN r P N D F w0 R s Q:=by
  subst e
  exact ⟨λ hR a w h1 h2 h3=>hk.h hR a w (h1.fix h) h2 h3⟩
def bvC (i:Nat) (b:Blk) (s:Cfg):Cfg:=match s with
  | ⟨c,k,L,A,Ts⟩=>⟨c,k,L,match A[i]? with | some x=>setAt A i (x.1,b) | none=>A,Ts⟩
theorem RN.bv (i:Nat) {b b':Blk} (e:b=b') (hk:RN r P N D F w0 R (bvC i b' s) Q) (h:(s.A[i]?).map (·.2)=some b:=by kernel_rfl):RN r P N D F w0 R s Q:=by
  subst e
  refine ⟨λ hR a w h1 h2 h3=>hk.h hR a w h1 ?_ h3⟩
  obtain ⟨c,k,L,A,Ts⟩:=s
  simp only [Option.map_eq_some_iff] at h
  obtain ⟨x,hx,e⟩:=h
  unfold bvC
  simp only [hx]
  refine h2.denA (setAt_den hx (by rw [e]))
variable {α:Type} {e:Enc α} {T:TypeId} {inf:TypeInfo} {z:Value}
def appV (P:Program) (o:Oper) (L:FL):Option (Option Addr × Nat × Nat × TypeId × Option Addr × Nat × Nat × TypeId):=match o.guard,o.op with
  | none,.call c=>match c.callee,c.args.toList,c.argTypes.toList with
    | .builtin .append,[a1,a2],[t,tx]=>match inL L a1 && inL L a2,rho L a1,rho L a2 with
      | true,.slice A n cap,.slice B m c'=>match P.underlying t,P.underlying tx with
        | some (.slice T),some (.slice _)=>some (A,n,cap,T,B,m,c',tx)
        | _,_=>none
      | _,_,_=>none
    | _,_,_=>none
  | _,_=>none
theorem appV_spec {o:Oper} {L:FL} {A:Option Addr} {n cap:Nat} {B:Option Addr} {m c':Nat} {tx:TypeId} (h:appV P o L=some (A,n,cap,T,B,m,c',tx)) :
    ∃ a1 a2 t e',o.guard=none /\ o.op=.call { callee:=.builtin .append,args:=#[a1,a2],argTypes:=#[t,tx] } /\ (inL L a1 && inL L a2)=true /\ rho L a1=.slice A n cap /\ rho L a2=.slice B m c' /\ P.underlying t=some (.slice T) /\ P.underlying tx=some (.slice e'):=by
  unfold appV at h
  split at h
  case h_2=>cases h
  rename_i c hg hop
  split at h
  case h_2=>cases h
  rename_i a1 a2 t tx' h1 h2 h3
  split at h
  case h_2=>cases h
  rename_i A' n' cap' B' m' c2 h4 h5 h6
  split at h
  case h_2=>cases h
  rename_i T' e' h7 h8
  simp only [Option.some.injEq,Prod.mk.injEq] at h
  obtain ⟨e1,e2,e3,e4,e5,e6,e7,e8⟩:=h
  subst e1;subst e2;subst e3;subst e4;subst e5;subst e6;subst e7;subst e8
  refine ⟨a1,a2,t,e',hg,?_,h4,h5,h6,h7,h8⟩
  obtain ⟨cal,args,ats⟩:=c
  simp only at h1 h2 h3
  subst h1
  have:args=#[a1,a2]:=by cases args;simp_all
  subst this
  have:ats=#[t,tx']:=by cases ats;simp_all
  subst this
  exact hop
def opAt (s:Cfg):Option Oper:=match s.c with
  | .ops ops i=>ops.toList[i]?
  | _=>none
def opAtD (i:Nat) (s:Cfg):Option Oper:=match s.c with
  | .drw ops _=>ops.toList[i]?
  | _=>none
def srcB (p:Nat) (s:Cfg):Option (Nat × List Value):=match s.A[p]? with
  | some (b,.lit cs _ _)=>some (b,cs)
  | _=>none
def appK (P:Program) (N j p:Nat) (oo:Option Oper) (s:Cfg):Option (Option Addr × Nat × Nat × TypeId × Nat × List Value × HL × Nat):=match oo with
  | some o=>match appV P o s.L,srcB p s,s.Ts[j]?,([j]++oth [j] s.Ts.length).isPerm (List.range s.Ts.length) && (putL N o.dst undef s.L).isSome with
    | some (A,n,cap,T,some ⟨b,0,none⟩,m,_,_),some (_,cs),some Hl,true=>some (A,n,cap,T,m,cs,Hl,b)
    | _,_,_,_=>none
  | none=>none
def appX (p:Nat) (s:Cfg):Nat:=match srcB p s with
  | some (b,_)=>b
  | none=>0
theorem appK_spec {j p:Nat} {oo:Option Oper} {A:Option Addr} {n cap m:Nat} {cs:List Value} {Hl:HL} (h:appK P N j p oo s=some (A,n,cap,T,m,cs,Hl,appX p s)) :
    ∃ o a1 a2 t tx e' c' b ty fz,oo=some o /\ o.guard=none /\ o.op=.call { callee:=.builtin .append,args:=#[a1,a2],argTypes:=#[t,tx] } /\ (inL s.L a1 && inL s.L a2)=true /\ rho s.L a1=.slice A n cap /\ rho s.L a2=.slice (some ⟨b,0,none⟩) m c' /\ P.underlying t=some (.slice T) /\ P.underlying tx=some (.slice e') /\
      s.A[p]?=some (b,.lit cs ty fz) /\ s.Ts[j]?=some Hl /\ ([j]++oth [j] s.Ts.length).isPerm (List.range s.Ts.length)=true /\ (putL N o.dst undef s.L).isSome=true:=by
  unfold appK at h
  split at h
  case h_2=>cases h
  rename_i o
  split at h
  case h_2=>cases h
  rename_i A' n' cap' T' b m' c' tx b' cs' Hl' h1 h2 h3 h4
  simp only [Option.some.injEq,Prod.mk.injEq] at h
  obtain ⟨e1,e2,e3,e4,e5,e6,e7,e8⟩:=h
  subst e1;subst e2;subst e3;subst e4;subst e5;subst e6;subst e7
  obtain ⟨a1,a2,t,e',q1,q2,q3,q4,q5,q6,q7⟩:=appV_spec h1
  rw [Bool.and_eq_true] at h4
  unfold appX at e8
  rw [h2] at e8
  simp only at e8
  subst e8
  unfold srcB at h2
  split at h2
  case h_2=>cases h2
  rename_i b2 cs2 ty fz h5
  simp only [Option.some.injEq,Prod.mk.injEq] at h2
  obtain ⟨e1,e2⟩:=h2
  subst e1;subst e2
  exact ⟨o,a1,a2,t,tx,e',c',_,ty,fz,rfl,q1,q2,q3,q4,q5,q6,q7,h5,h3,h4.1,h4.2⟩
def rpC (j:Nat) (Hl:HL) (s:Cfg):Cfg:=match s with
  | ⟨c,k,L,A,Ts⟩=>⟨c,k,L,A,Hl :: (oth [j] Ts.length).filterMap (Ts[·]?)⟩
theorem tail_perm {A:HL} {Ts:List HL} {Hl:HL} {j:Nat} (hj:Ts[j]?=some Hl) (hp:([j]++oth [j] Ts.length).isPerm (List.range Ts.length)=true):(Hl++(A++((oth [j] Ts.length).filterMap (Ts[·]?)).flatten)).Perm (ap A Ts):=by
  have h3:=pick_perm Ts [j] _ hp
  simp only [List.filterMap_cons,hj,List.filterMap_nil] at h3
  have h4:=h3.flatten
  simp only [List.cons_append,List.nil_append,List.flatten_cons] at h4
  refine List.Perm.trans ?_ (List.Perm.append_left A h4)
  rw [<- List.append_assoc,<- List.append_assoc]
  exact List.Perm.append_right _ List.perm_append_comm
theorem RN.app (ok:EncOk e P T inf z) (l src:List α) (j p:Nat) {A:Option Addr} {n cap:Nat} {Hl:HL} (hn:n=l.length) (hsl:SlIs e T l A cap Hl) (hb:l.length+src.length <= 100000000)
    (hk:∀ (A':Option Addr) (cap':Nat) (Hl':HL),(SlIs e T (l++src) A' cap' Hl' /\ (zeroOff A -> zeroOff A')) -> RN r P N D F w0 R (rpC j Hl' (putC N (.slice A' (n+src.length) cap') s)) Q)
    (h:appK P N j p (opAt s) s=some (A,n,cap,T,src.length,cellsE e src,Hl,appX p s):=by kernel_rfl):RN r P N D F w0 R s Q:=by
  obtain ⟨o,a1,a2,t,tx,e',c',b,ty,fz,q0,q1,q2,q3,q4,q5,q6,q7,q8,q9,q10,q11⟩:=appK_spec h
  refine ⟨λ hR a w hF hRel hB=>?_⟩
  obtain ⟨c,k,L,B,Ts⟩:=s
  unfold opAt at q0
  cases c with
  | code c=>cases q0
  | ex c=>cases q0
  | drw _ _=>cases q0
  | ops ops i =>
    simp only at q0 q3 q4 q5 q8 q9 q10 q11 hF hRel
    have hdrop:ops.toList.drop i=o :: ops.toList.drop (i+1):=by
      have hlt:i < ops.toList.length:=(List.getElem?_eq_some_iff.1 q0).1
      rw [List.drop_eq_getElem_cons hlt,(List.getElem?_eq_some_iff.1 q0).2]
    show wpListIn _ _ _ _ _ _ _ _
    rw [hdrop,wpListIn,if_pos (by simp [Region.wanted,q1])]
    refine ⟨λ _ _=>trivial,?_⟩
    have hperm:=tail_perm (A:=B) q9 q10
    refine gives_upon (by rw [q2];intro c hc;cases hc) (app_gives (x:=vS b 0 src.length c') (src:=src) (G:=B++((oth [j] Ts.length).filterMap (Ts[·]?)).flatten) ok q2 q6 q3 q4 hn q5 hperm hsl (λ w hw=>src_lit ok q7 p (by rw [List.getElem?_append_left (List.getElem?_eq_some_iff.1 q8).1];exact q8) hw) hb a hF w hRel) ?_
    rintro u w' ⟨⟨A',cap',Hl'⟩,⟨rfl,hsl'⟩,hR',hB'⟩
    obtain ⟨L',p1⟩:=putL_some q11 (.slice A' (n+src.length) cap')
    have hh:=(hk A' cap' Hl' hsl').h hR
    have hpc:putC N (.slice A' (n+src.length) cap') ⟨.ops ops i,k,L,B,Ts⟩=⟨.ops ops (i+1),k,L',B,Ts⟩:=by
      unfold putC
      simp only [q0,p1]
    rw [hpc] at hh
    refine hh _ w' (hF.put p1) (hR'.perm (List.Perm.append_right F ?_)) (hB.trans hB')
    show (B++(Hl' :: (oth [j] Ts.length).filterMap (Ts[·]?)).flatten).Perm _
    rw [List.flatten_cons,<- List.append_assoc,<- List.append_assoc]
    exact List.Perm.append_right _ List.perm_append_comm
theorem RDO.app {i:Nat} (ix:List Nat) (ok:EncOk e P T inf z) (l src:List α) (j p:Nat) {A:Option Addr} {n cap:Nat} {Hl:HL} (hn:n=l.length) (hsl:SlIs e T l A cap Hl) (hb:l.length+src.length <= 100000000)
    (hk:∀ (A':Option Addr) (cap':Nat) (Hl':HL),(SlIs e T (l++src) A' cap' Hl' /\ (zeroOff A -> zeroOff A')) -> RD r P N D F w0 R hards Rd (rpC j Hl' (dpC N i (.slice A' (n+src.length) cap') s)) Q)
    (h:appK P N j p (opAtD i s) s=some (A,n,cap,T,src.length,cellsE e src,Hl,appX p s):=by kernel_rfl) (hx:(hards.contains i,rdOf ix s)=(true,Rd):=by kernel_rfl):RDO r P N D F w0 R hards Rd i s Q:=by
  obtain ⟨o,a1,a2,t,tx,e',c',b,ty,fz,q0,q1,q2,q3,q4,q5,q6,q7,q8,q9,q10,q11⟩:=appK_spec h
  obtain ⟨c,k,L,B,Ts⟩:=s
  unfold opAtD at q0
  simp only [Prod.mk.injEq] at hx
  cases c with
  | code c=>cases q0
  | ex c=>cases q0
  | ops _ _=>cases q0
  | drw ops li =>
    refine ⟨λ hR=>?_⟩
    simp only at q0 q3 q4 q5 q8 q9 q10 q11
    have hperm:=tail_perm (A:=B) q9 q10
    have hpc:∀ v L',putL N o.dst v L=some L' -> dpC N i v ⟨.drw ops li,k,L,B,Ts⟩=⟨.drw ops (setAt li i true),k,L',B,Ts⟩:=by
      intro v L' hl
      unfold dpC
      simp only [q0,hl]
    refine (RDO.give (Q:=Q) (by simpa using q0) (σ:=Option Addr × Nat × HL) (λ u y=>u=.slice y.1 (n+src.length) y.2.1 /\ (SlIs e T (l++src) y.1 y.2.1 y.2.2 /\ (zeroOff A -> zeroOff y.1))) (λ y=>ap B (y.2.2 :: (oth [j] Ts.length).filterMap (Ts[·]?))) q11 (λ a hF=>⟨by simp [Region.wanted,q1],λ w hRel hB=>?_⟩) (λ y=>⟨λ hi=>?_,λ hi x hm=>List.mem_append_left _ (rd_in ix hx.2 x hm)⟩) ?_:RDO r P N D F w0 R hards Rd i ⟨.drw ops li,k,L,B,Ts⟩ Q).h hR
    · refine gives_mono (app_gives (x:=vS b 0 src.length c') (src:=src) (G:=B++((oth [j] Ts.length).filterMap (Ts[·]?)).flatten) ok q2 q6 q3 q4 hn q5 hperm hsl (λ w hw=>src_lit ok q7 p (by rw [List.getElem?_append_left (List.getElem?_eq_some_iff.1 q8).1];exact q8) hw) hb a hF w hRel) ?_
      rintro u w' ⟨y,h3,hR',hB'⟩
      refine ⟨y,h3,hR'.perm (List.Perm.append_right F ?_),hB'⟩
      show (B++(y.2.2 :: (oth [j] Ts.length).filterMap (Ts[·]?)).flatten).Perm _
      rw [List.flatten_cons,<- List.append_assoc,<- List.append_assoc]
      exact List.Perm.append_right _ List.perm_append_comm
    · exact absurd (List.contains_iff_mem.1 hx.1) hi
    · rintro u ⟨A',cap',Hl'⟩ ⟨rfl,h3⟩ L' hl hs
      have h1:=(hk A' cap' Hl' h3).h hR
      rw [hpc _ L' hl] at h1
      exact h1 hs
end
structure MemS where
 cs:List Int
 lg:List (Int × Int)
 base:Int
def MemS.get (M:MemS) (i:Int):Int:=if 0 <= i /\ i < M.cs.length then M.cs.getD i.toNat 0 else 0
def MemS.set (M:MemS) (i v:Int):MemS:=if 0 <= i /\ i < M.cs.length then ⟨M.cs.set i.toNat v,M.lg++[(i,M.cs.getD i.toNat 0)],M.base⟩ else M
def irow (cs:List Int):Nat -> Nat -> Value:=λ i k=>match k with | 0=>vI (cs.getD i 0) | _=>default
theorem irow_set {cs:List Int} {i:Nat} (h:i < cs.length) (v:Int):updG (irow cs) i 0 (vI v)=irow (cs.set i v):=by
 funext i' k'
 unfold updG irow
 by_cases h1:i'=i
 ·subst h1
  rcases k' with _ | k'
  ·simp [h]
  ·simp
 ·rcases k' with _ | k'
  ·have:¬ i=i':=λ e=>h1 e.symm
   simp [h1,List.getElem?_set,this]
  ·simp
def entE:Enc (Int × Int):=⟨2,λ p k=>match k with | 0=>vI p.1 | _=>vI p.2,(0,0)⟩
noncomputable def entEI:TypeInfo:=match Tryz.prog.info? 86 with | some i=>i | none=>⟨.bool,"",0,0,false,0,0,none,false,#[]⟩
noncomputable def entEZ:Value:=match entEI.zero with | some z=>z | none=>.bool false
theorem entEOk:EncOk entE Tryz.prog 86 entEI entEZ where
 info:=by kernel_rfl
 zero:=by kernel_rfl
 size:=by kernel_rfl
 zsize:=by kernel_rfl
 zcell:=λ k hk=>by
  have h:∀ k < 2,entEZ.cells[k]?=some (entE.cell entE.dflt k):=by intro k hk;(iterate 2 (rcases k with _ | k;· kernel_rfl));omega
  exact h k hk
 one:=λ x k=>by unfold entE;dsimp only;split <;> rfl
 bytes:=Nat.le_of_ble_eq_true (by kernel_rfl)
inductive MemH (mb:Nat) (M:MemS) (k:Nat):HL -> Prop
 | mk (cb:Nat) (A:Option Addr) (cap:Nat) (Hl:HL) (hs:SlIs entE 86 M.lg A cap Hl) (hc:M.cs.length <= 1000000) (hl:M.lg.length+k <= 100000000):MemH mb M k (ap [(mb,.lit [vS cb 0 M.cs.length M.cs.length,.slice A M.lg.length cap,vI M.base] 64 (0,0)),(cb,.rows 1 M.cs.length (irow M.cs) 3 (0,0))] [Hl])
theorem MemH.weak {mb:Nat} {M:MemS} {k k':Nat} {T:HL} (h:MemH mb M k T) (hk:k' <= k):MemH mb M k' T:=by
 cases h with
 | mk cb A cap Hl hs hc hl=>exact .mk cb A cap Hl hs hc (by omega)
theorem MemH.cast {mb:Nat} {M M':MemS} {k k':Nat} {T:HL} (h:MemH mb M k T) (e:M'=M) (hk:k' <= k):MemH mb M' k' T:=e ▸ h.weak hk
theorem MemH.put {mb:Nat} {M:MemS} {k:Nat} {i v:Int} {cb:Nat} {A:Option Addr} {cap:Nat} {Hl:HL} (h:0 <= i /\ i < M.cs.length) (hc:M.cs.length <= 1000000) (hl:M.lg.length+(k+1) <= 100000000) (hs:SlIs entE 86 (M.lg++[(i,M.cs.getD i.toNat 0)]) A cap Hl) :
  MemH mb (M.set i v) k (ap [(mb,.lit [vS cb 0 M.cs.length M.cs.length,.slice A (M.lg.length+[(i,M.cs.getD i.toNat 0)].length) cap,vI M.base] 64 (0,0)),(cb,.rows 1 M.cs.length (updG (irow M.cs) i.toNat 0 (vI v)) 3 (0,0))] [Hl]):=by
 have e:M.set i v=⟨M.cs.set i.toNat v,M.lg++[(i,M.cs.getD i.toNat 0)],M.base⟩:=by unfold MemS.set;rw [if_pos h]
 rw [e,irow_set (by omega)]
 have:=MemH.mk (M:=⟨M.cs.set i.toNat v,M.lg++[(i,M.cs.getD i.toNat 0)],M.base⟩) (k:=k) cb A cap Hl hs (by simpa using hc) (by simp;omega) (mb:=mb)
 simpa using this
theorem has_mem (mb cb n:Nat) (A:Option Addr) (m cap:Nat) (base i:Int) (F:HL) (hm:(mb,.lit [vS cb 0 n n,.slice A m cap,vI base] 64 (0,0)) ∈ F):Sp Tryz.prog 22 #[vP mb 0,vI i] [] F (λ u H'=>u=.bool (decide (0 <= i /\ i < n)) /\ H'=[]):=by
 refine Sp.run Tryz.func22 rfl (mc hm mn) (A:=[]) (Ts:=[]) rfl λ w0=>?_
 refine RN.go 10 [] λ _=>RN.em (0 <= i) 7 (λ h1=>?_) λ h1=>?_
 ·refine RN.go 11 [.ro 0] λ _=>RN.ret [] [] [] (v:=.bool (decide (i < (n:Int)))) (H':=[]) ?_
  exact ⟨by simp [*],rfl⟩
 ·refine RN.go 11 [] λ _=>RN.ret [] [] [] (v:=.bool false) (H':=[]) ?_
  exact ⟨by simp [*],rfl⟩
theorem get_mem (mb cb:Nat) (cs:List Int) (A:Option Addr) (m cap:Nat) (base i:Int) (lg:List (Int × Int)) (F:HL) (hm:(mb,.lit [vS cb 0 cs.length cs.length,.slice A m cap,vI base] 64 (0,0)) ∈ F) (hc:(cb,.rows 1 cs.length (irow cs) 3 (0,0)) ∈ F) (hn:cs.length <= 1000000):Sp Tryz.prog 11 #[vP mb 0,vI i] [] F (λ u H'=>u=vI (MemS.get ⟨cs,lg,base⟩ i) /\ H'=[]):=by
 refine Sp.run Tryz.func11 rfl (mc hm (mc hc mn)) (A:=[]) (Ts:=[]) rfl λ w0=>?_
 refine RN.go 10 [] λ _=>RN.cp (has_mem mb cb cs.length A m cap base i _ (ro_ap hm))<|RN.go 3 [] λ _=>RN.en (0 <= i /\ i < cs.length) 8 (λ h1=>?_) λ h1=>?_
 ·refine RN.goP 15 [.ro 0,.ix ((i).toNat),.rorow 1 ((i).toNat) 0] [(0+((i).toNat) * 1)=((i).toNat) * 1+0 /\ ((i).toNat) < cs.length,i=(((i).toNat:Nat):Int) /\ (i).toNat < cs.length] λ _=>RN.ret [] [] [] (v:=vI (cs.getD ((i).toNat) 0)) (H':=[]) ?_
  exact ⟨by simp [MemS.get, *],rfl⟩
 ·refine RN.go 6 [] λ _=>RN.ret [] [] [] (v:=vI 0) (H':=[]) ?_
  exact ⟨by simp [MemS.get, *],rfl⟩
theorem get_any {mb:Nat} {M:MemS} {k:Nat} {T:HL} (i:Int) {F:HL} (h:MemH mb M k T) (hs:∀ x ∈ T,x ∈ F):Sp Tryz.prog 11 #[vP mb 0,vI i] [] F (λ u H'=>u=vI (M.get i) /\ H'=[]):=by
 cases h with
 | mk cb A cap Hl hsl hc hl=>exact get_mem mb cb M.cs A M.lg.length cap M.base i M.lg F (hs _ (by simp)) (hs _ (by simp)) hc
theorem get_lit {mb:Nat} {M:MemS} {k:Nat} {T:HL} (i:Int) {c:Int} (e:M.get i=c) {F:HL} (h:MemH mb M k T) (hs:∀ x ∈ T,x ∈ F):Sp Tryz.prog 11 #[vP mb 0,vI i] [] F (λ u H'=>u=vI c /\ H'=[]):=e ▸ get_any i h hs
theorem set_mem (mb cb:Nat) (M:MemS) (k:Nat) (A:Option Addr) (cap:Nat) (i v:Int) (Hl:HL) (F:HL) (hs:SlIs entE 86 M.lg A cap Hl) (hc:M.cs.length <= 1000000) (hl:M.lg.length+(k+1) <= 100000000):Sp Tryz.prog 46 #[vP mb 0,vI i,vI v] (ap [(mb,.lit [vS cb 0 M.cs.length M.cs.length,.slice A M.lg.length cap,vI M.base] 64 (0,0)),(cb,.rows 1 M.cs.length (irow M.cs) 3 (0,0))] [Hl]) F (λ u H'=>MemH mb (M.set i v) k H'):=by
 refine Sp.run Tryz.func46 rfl mn (A:=[(mb,.lit [vS cb 0 M.cs.length M.cs.length,.slice A M.lg.length cap,vI M.base] 64 (0,0)),(cb,.rows 1 M.cs.length (irow M.cs) 3 (0,0))]) (Ts:=[Hl]) rfl λ w0=>?_
 refine RN.go 5 [] λ _=>RN.cp (has_mem mb cb M.cs.length A M.lg.length cap M.base i _ (in_ap 0))<|RN.go 3 [] λ _=>RN.en (0 <= i /\ i < M.cs.length) 9 (λ h1=>?_) λ h1=>?_
 ·refine RN.go 4 [] λ _=>RN.draw [15,18] []<|RD.goP [] [0,1,5,6,10,2,7,3,8,4,9,11,12,13] [.own 0,.own 0,.ix ((i).toNat),.row 1 ((i).toNat) 0] [(0+((i).toNat) * 1)=((i).toNat) * 1+0 /\ ((i).toNat) < M.cs.length,i=(((i).toNat:Nat):Int) /\ (i).toNat < M.cs.length]<|RD.one 14 (RDO.ev [] [] λ n3=>?_)
  refine RD.one 15 (RDO.app [] entEOk M.lg [(i,M.cs.getD i.toNat 0)] 0 0 rfl hs (by simp;omega) ?_)
  rintro A4 c5 T6 ⟨hs7,hz8⟩
  refine RD.go [] [16,17] []<|RD.one 18 (RDO.ev [] [.own 1] λ _=>?_)
  refine RD.fin<|RN.goP 11 [.own 1,.ix ((i).toNat),.row 2 ((i).toNat) 0] [(0+((i).toNat) * 1)=((i).toNat) * 1+0 /\ ((i).toNat) < M.cs.length,i=(((i).toNat:Nat):Int) /\ (i).toNat < M.cs.length] λ _=>RN.ret [] [1,2] [0] (v:=.tuple #[]) (H':=(ap [(mb,.lit [vS cb 0 M.cs.length M.cs.length,.slice A4 (M.lg.length+([(i,M.cs.getD i.toNat 0)]).length) c5,vI M.base] 64 (0,0)),(cb,.rows 1 M.cs.length (updG (irow M.cs) ((i).toNat) 0 (vI v)) 3 (0,0))] [T6])) ?_
  exact MemH.put (by omega) hc (by omega) hs7
 ·refine RN.go 1 [] λ _=>RN.ret [] [0,1] [0] (v:=.tuple #[]) (H':=(ap [(mb,.lit [vS cb 0 M.cs.length M.cs.length,.slice A M.lg.length cap,vI M.base] 64 (0,0)),(cb,.rows 1 M.cs.length (irow M.cs) 3 (0,0))] [Hl])) ?_
  have e:M.set i v=M:=by unfold MemS.set;rw [if_neg (by assumption)]
  rw [e]
  exact .mk cb A cap Hl hs hc (by omega)
theorem set_any {mb:Nat} {M:MemS} {k:Nat} {T:HL} (i v:Int) {F:HL} (h:MemH mb M (k+1) T):Sp Tryz.prog 46 #[vP mb 0,vI i,vI v] (ap [] [T]) F (λ u H'=>∃ x,H'=ap ((λ _=>[]) x) ((λ x=>[x]) x) /\ MemH mb (M.set i v) k x):=by
 cases h with
 | mk cb A cap Hl hsl hc hl =>
  have e:∀ T:HL,ap [] [T]=T:=λ T=>by simp
  have:=set_mem mb cb M k A cap i v Hl F hsl hc hl
  rw [e]
  exact this.mono λ u H' h=>⟨H',(e H').symm,h⟩
structure Bod where (sh:Shp) (mot:Mot) (a b:Int)
abbrev dB:Bod:=⟨⟨0,[],none,0⟩,⟨0,0,0,0,0⟩,0,0⟩
def bodE:Enc Bod:=⟨9,λ p k=>match k with | 0=>vI p.sh.r | 1=>.slice p.sh.A p.sh.poly.length p.sh.cap | 2=>vI p.mot.px | 3=>vI p.mot.py | 4=>vI p.mot.vx | 5=>vI p.mot.vy | 6=>vI p.mot.inv | 7=>vI p.a | _=>vI p.b,dB⟩
noncomputable def bodEI:TypeInfo:=match Tryz.prog.info? 39 with | some i=>i | none=>⟨.bool,"",0,0,false,0,0,none,false,#[]⟩
noncomputable def bodEZ:Value:=match bodEI.zero with | some z=>z | none=>.bool false
theorem bodEOk:EncOk bodE Tryz.prog 39 bodEI bodEZ where
 info:=by kernel_rfl
 zero:=by kernel_rfl
 size:=by kernel_rfl
 zsize:=by kernel_rfl
 zcell:=λ k hk=>by
  have h:∀ k < 9,bodEZ.cells[k]?=some (bodE.cell bodE.dflt k):=by intro k hk;(iterate 9 (rcases k with _ | k;· kernel_rfl));omega
  exact h k hk
 one:=λ x k=>by unfold bodE;dsimp only;split <;> rfl
 bytes:=Nat.le_of_ble_eq_true (by kernel_rfl)
abbrev brow (l:List Bod):Nat -> Nat -> Value:=rowE bodE l
structure Setup where
 players:Int
 bb:Nat
 bo:Nat
 nb:Nat
 bc:Nat
 bR:Nat
 bods:List Bod
 box:Bx
 rA:Option Addr
 rn:Nat
 rc:Nat
 dA:Option Addr
 dn:Nat
 dc:Nat
 fog:Int
 g:V2
 push:Int
 drag:Int
 rest:Int
 rounds:Int
 fuel:Int
def Setup.body (S:Setup) (k:Nat):Bod:=S.bods.getD (S.bo+k) dB
structure SetN (S:Setup):Prop where
 pl:0 <= S.players /\ S.players <= 1000000
 nb:S.nb <= 1000000
structure SetIn (F:HL) (S:Setup):Prop extends SetN S where
 blk:(S.bb,.rows 9 S.bR (brow S.bods) 39 (0,0)) ∈ F
 room:S.bo+S.nb <= S.bR
 shp:∀ k,k < S.nb -> ShIn F (S.body k).sh
theorem SetIn.up {F X:HL} {S:Setup} (h:SetIn F S):SetIn (X++F) S :=
 ⟨h.toSetN,List.mem_append_right _ h.blk,h.room,λ k hk=>(h.shp k hk).mono λ x hx=>List.mem_append_right _ hx⟩
def playerAt (S:Setup) (k:Int):Int:=if k < 0 then -1 else if k >= S.players then -1 else 48+4 * k
def bodyAt (S:Setup) (k:Int):Int:=if k < 0 then -1 else if k >= S.nb then -1 else 48+4 * S.players+8 * k
def sizeOf (S:Setup):Int:=48+4 * S.players+8 * S.nb
theorem playerAt_bd {S:Setup} (h:SetN S) (k:Int):(-1 <= playerAt S k /\ playerAt S k <= 1000000000) /\ (playerAt S k < 0 \/ (0 <= k /\ k < S.players)):=by
 have:=h.pl
 unfold playerAt;split
 ·omega
 ·split <;> omega
theorem bodyAt_bd {S:Setup} (h:SetN S) (k:Int):(-1 <= bodyAt S k /\ bodyAt S k <= 1000000000) /\ (bodyAt S k < 0 \/ (0 <= k /\ k < S.nb)):=by
 have:=h.pl
 have:=h.nb
 unfold bodyAt;split
 ·omega
 ·split <;> omega
abbrev Setup.v (S:Setup):Value:=.agg #[vI S.players,vS S.bb (S.bo * 9) S.nb S.bc,vI S.box.x0,vI S.box.y0,vI S.box.x1,vI S.box.y1,.slice S.rA S.rn S.rc,.slice S.dA S.dn S.dc,vI S.fog,vI S.g.x,vI S.g.y,vI S.push,vI S.drag,vI S.rest,vI S.rounds,vI S.fuel]
abbrev Setup.l (S:Setup):List Value:=[vI S.players,vS S.bb (S.bo * 9) S.nb S.bc,vI S.box.x0,vI S.box.y0,vI S.box.x1,vI S.box.y1,.slice S.rA S.rn S.rc,.slice S.dA S.dn S.dc,vI S.fog,vI S.g.x,vI S.g.y,vI S.push,vI S.drag,vI S.rest,vI S.rounds,vI S.fuel]
theorem lplayer_any (S:Setup) (k:Int) (F:HL) (hn:SetN S):Sp Tryz.prog 163 #[(Setup.v S),vI k] [] F (λ u H'=>u=vI (playerAt S k) /\ H'=[]):=by
 have h1:=hn.pl
 have h2:=hn.nb
 refine Sp.run Tryz.func163 rfl mn (A:=[]) (Ts:=[]) rfl λ w0=>?_
 refine RN.go 12 [] λ n1=>RN.em (k < 0) 7 (λ h2=>?_) λ h2=>?_
 ·refine RN.go 13 [] λ _=>RN.ret [] [] [] (v:=vI (-1)) (H':=[]) ?_
  refine ⟨?_,rfl⟩
  simp only [playerAt,if_pos h2]
 ·refine RN.go 7 [.own 0] λ _=>RN.em (k >= S.players) 12 (λ h3=>?_) λ h3=>?_
  ·refine RN.go 6 [] λ _=>RN.ret [] [] [] (v:=vI (-1)) (H':=[]) ?_
   refine ⟨?_,rfl⟩
   simp only [playerAt,if_neg h2,if_pos h3]
  ·refine RN.goP 11 [.nw,.nw] [I64 (48+(4 * k)),I64 (4 * k)] λ _=>RN.ret [] [] [] (v:=vI (48+(4 * k))) (H':=[]) ?_
   refine ⟨?_,rfl⟩
   simp only [playerAt,if_neg h2,if_neg h3]
theorem lbody_any (S:Setup) (k:Int) (F:HL) (hn:SetN S):Sp Tryz.prog 10 #[(Setup.v S),vI k] [] F (λ u H'=>u=vI (bodyAt S k) /\ H'=[]):=by
 have h1:=hn.pl
 have h2:=hn.nb
 refine Sp.run Tryz.func10 rfl mn (A:=[]) (Ts:=[]) rfl λ w0=>?_
 refine RN.go 12 [] λ n1=>RN.em (k < 0) 7 (λ h2=>?_) λ h2=>?_
 ·refine RN.go 14 [] λ _=>RN.ret [] [] [] (v:=vI (-1)) (H':=[]) ?_
  refine ⟨?_,rfl⟩
  simp only [bodyAt,if_pos h2]
 ·refine RN.go 8 [.own 0] λ _=>RN.em (k >= (S.nb:Int)) 13 (λ h3=>?_) λ h3=>?_
  ·refine RN.go 6 [] λ _=>RN.ret [] [] [] (v:=vI (-1)) (H':=[]) ?_
   refine ⟨?_,rfl⟩
   simp only [bodyAt,if_neg h2,if_pos h3]
  ·refine RN.goP 15 [.own 0,.nw,.nw,.nw,.nw] [I64 ((48+(4 * S.players))+(8 * k)),I64 (8 * k),I64 (48+(4 * S.players)),I64 (4 * S.players)] λ _=>RN.ret [] [] [] (v:=vI ((48+(4 * S.players))+(8 * k))) (H':=[]) ?_
   refine ⟨?_,rfl⟩
   simp only [bodyAt,if_neg h2,if_neg h3]
theorem lsize_any (S:Setup) (F:HL) (hn:SetN S):Sp Tryz.prog 13 #[(Setup.v S)] [] F (λ u H'=>u=vI (sizeOf S) /\ H'=[]):=by
 have h1:=hn.pl
 have h2:=hn.nb
 refine Sp.run Tryz.func13 rfl mn (A:=[]) (Ts:=[]) rfl λ w0=>?_
 refine RN.goP 20 [.own 0,.nw,.nw,.own 0,.nw,.nw] [I64 ((48+(4 * S.players))+(8 * (S.nb:Int))),I64 (8 * (S.nb:Int)),I64 (48+(4 * S.players)),I64 (4 * S.players)] λ n1=>?_
 exact RN.ret [] [] [] ⟨rfl,rfl⟩
end Go.Proofs.YthoijjeddhfcnaaGreat
