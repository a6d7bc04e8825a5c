import Derived.Test.YtobflkidpfkcaaaGreatDoorY03
set_option maxHeartbeats 4000000
set_option maxRecDepth 100000
set_option linter.unusedSimpArgs false
set_option linter.unusedVariables false
namespace Go.Proofs.YtobflkidpfkcaaaGreatDoor
open Go.RowKit
section
variable {r:Option Nat} {P:Program} {N:Nat} {D:List Deferred} {F:HL} {w0:World} {R:HL} {s:Cfg} {Q:Exit -> Act -> World -> Prop} {hards:List Nat} {Rd:HL}
def NY (i:Nat) (b:Blk) (s:Cfg):Cfg:=match s with
 | ⟨c,k,L,A,Ts⟩=>⟨c,k,L,match A[i]? with | some x=>br A i (x.1,b) | none=>A,Ts⟩
theorem nN {A:HL} {i:Nat} {x:Nat × Blk} {b:Blk} (h:A[i]?=some x) (e:x.2.den=b.den):du A=du (br A i (x.1,b)):=by
 rw [ig]
 unfold du
 rw [List.map_set]
 have h1:(A.map λ x=>(x.1,x.2.den))[i]?=some (x.1,b.den):=by rw [List.getElem?_map,h];simp [e]
 have hlt:i < (A.map λ x=>(x.1,x.2.den)).length:=(List.getElem?_eq_some_iff.1 h1).1
 have h2:(x.1,b.den)=(A.map λ x=>(x.1,x.2.den))[i]:=((List.getElem?_eq_some_iff.1 h1).2).symm
 show _=(A.map λ x=>(x.1,x.2.den)).set i (x.1,b.den)
 rw [h2,List.set_getElem_self]
def NZ (i:Nat) (s:Cfg):Option Obj:=(s.A[i]?).map (·.2.den)
theorem RN.dn (i:Nat) (b:Blk) (hk:RN r P N D F w0 R (NY i b s) Q) (h:NZ i s=some b.den:=by kernel_rfl):RN r P N D F w0 R s Q:=by
 refine ⟨λ hR a w h1 h2 h3=>hk.h hR a w h1 ?_ h3⟩
 obtain ⟨c,k,L,A,Ts⟩:=s
 unfold NZ at h
 simp only [Option.map_eq_some_iff] at h
 obtain ⟨x,hx,e⟩:=h
 unfold NY
 simp only [hx]
 exact h2.denA (nN hx e)
theorem RD.dn (i:Nat) (b:Blk) (hk:RD r P N D F w0 R hards Rd (NY i b s) Q) (h:NZ i s=some b.den:=by kernel_rfl):RD r P N D F w0 R hards Rd s Q:=by
 refine ⟨λ hR hs=>?_⟩
 obtain ⟨c,k,L,A,Ts⟩:=s
 unfold NZ at h
 simp only [Option.map_eq_some_iff] at h
 obtain ⟨x,hx,e⟩:=h
 have h1:=hk.h hR hs
 unfold NY at h1
 simp only [hx] at h1
 exact TD.den _ (nN hx e) h1
def ptC (jp:List Nat) (s:Cfg):Cfg:=match s with
 | ⟨c,k,L,A,Ts⟩=>⟨c,k,L,A,jp.filterMap (Ts[·]?)⟩
theorem mZ (jp:List Nat) (hk:RN r P N D F w0 R (ptC jp s) Q) (h:jp.isPerm (List.range s.Ts.length)=true:=by kernel_rfl):RN r P N D F w0 R s Q :=
 ⟨λ hR a w h1 h2 h3=>hk.h hR a w h1 (h2.perm ((DF jp h rfl).append_right F)) h3⟩
def otC (j:Nat) (x:Nat × Blk) (s:Cfg):Cfg:=match s with
 | ⟨c,k,L,A,Ts⟩=>⟨c,k,L,x :: A,(oth [j] Ts.length).filterMap (Ts[·]?)⟩
theorem zI (j:Nat) {x:Nat × Blk} (hk:RN r P N D F w0 R (otC j x s) Q) (h:(s.Ts[j]?,([j]++oth [j] s.Ts.length).isPerm (List.range s.Ts.length))=(some [x],true):=by kernel_rfl):RN r P N D F w0 R s Q:=by
 simp only [Prod.mk.injEq] at h
 exact ⟨λ hR a w h1 h2 h3=>hk.h hR a w h1 (h2.perm ((xK _ j h.2 h.1 rfl).append_right F)) h3⟩
def jtC (s:Cfg):Cfg:=match s with
 | ⟨c,k,L,A,T1 :: T2 :: Ts⟩=>⟨c,k,L,A,(T1++T2) :: Ts⟩
 | s=>s
theorem oP (hk:RN r P N D F w0 R (jtC s) Q):RN r P N D F w0 R s Q:=by
 refine ⟨λ hR a w h1 h2 h3=>?_⟩
 have h4:=hk.h hR a w
 unfold jtC at h4
 split at h4
 ·exact h4 h1 (by simpa [ap] using h2) h3
 ·exact h4 h1 h2 h3
def ntC (s:Cfg):Cfg:=match s with
 | ⟨c,k,L,A,Ts⟩=>⟨c,k,L,A,[] :: Ts⟩
theorem RN.nt (hk:RN r P N D F w0 R (ntC s) Q):RN r P N D F w0 R s Q:=⟨λ hR a w h1 h2 h3=>hk.h hR a w h1 h2 h3⟩
def svC (t:Nat) (v:Value) (s:Cfg):Cfg:=match s with
 | ⟨c,k,L,A,Ts⟩=>⟨c,k,(t,v) :: L,A,Ts⟩
theorem aK (t:Nat) {u v:Value} (e:u=v) (hk:RN r P N D F w0 R (svC t v s) Q) (h:s.L.lookup t=some u:=by kernel_rfl):RN r P N D F w0 R s Q:=by
 subst e
 exact ⟨λ hR a w h1 h2 h3=>hk.h hR a w (h1.fix h) h2 h3⟩
def Mm (i:Nat) (b:Blk) (s:Cfg):Cfg:=match s with
 | ⟨c,k,L,A,Ts⟩=>⟨c,k,L,match A[i]? with | some x=>br A i (x.1,b) | none=>A,Ts⟩
theorem cS (i:Nat) {b b':Blk} (e:b=b') (hk:RN r P N D F w0 R (Mm i b' s) Q) (h:(s.A[i]?).map (·.2)=some b:=by kernel_rfl):RN r P N D F w0 R s Q:=by
 subst e
 refine ⟨λ hR a w h1 h2 h3=>hk.h hR a w h1 ?_ h3⟩
 obtain ⟨c,k,L,A,Ts⟩:=s
 simp only [Option.map_eq_some_iff] at h
 obtain ⟨x,hx,e⟩:=h
 unfold Mm
 simp only [hx]
 refine h2.denA (nN hx (by rw [e]))
variable {α:Type} {e:Enc α} {T:TypeId} {inf:TypeInfo} {z:Value}
def HM (P:Program) (o:Oper) (L:FL):Option (Option Addr × Nat × Nat × TypeId × Option Addr × Nat × Nat × TypeId):=match o.guard,o.op with
 | none,.call c=>match c.callee,c.args.toList,c.argTypes.toList with
  | .builtin .append,[a1,a2],[t,tx]=>match lM L a1 && lM L a2,iT L a1,iT L a2 with
   | true,.slice A n cap,.slice B m c'=>match P.underlying t,P.underlying tx with
    | some (.slice T),some (.slice _)=>some (A,n,cap,T,B,m,c',tx)
    | _,_=>none
   | _,_,_=>none
  | _,_,_=>none
 | _,_=>none
theorem se {o:Oper} {L:FL} {A:Option Addr} {n cap:Nat} {B:Option Addr} {m c':Nat} {tx:TypeId} (h:HM P o L=some (A,n,cap,T,B,m,c',tx)) :
  ∃ a1 a2 t e',o.guard=none /\ o.op=.call { callee:=.builtin .append,args:=#[a1,a2],argTypes:=#[t,tx] } /\ (lM L a1 && lM L a2)=true /\ iT L a1=.slice A n cap /\ iT L a2=.slice B m c' /\ P.underlying t=some (.slice T) /\ P.underlying tx=some (.slice e'):=by
 unfold HM at h
 split at h
 case h_2=>cases h
 rename_i c hg hop
 split at h
 case h_2=>cases h
 rename_i a1 a2 t tx' h1 h2 h3
 split at h
 case h_2=>cases h
 rename_i A' n' cap' B' m' c2 h4 h5 h6
 split at h
 case h_2=>cases h
 rename_i T' e' h7 h8
 simp only [Option.some.injEq,Prod.mk.injEq] at h
 obtain ⟨e1,e2,e3,e4,e5,e6,e7,e8⟩:=h
 subst e1;subst e2;subst e3;subst e4;subst e5;subst e6;subst e7;subst e8
 refine ⟨a1,a2,t,e',hg,?_,h4,h5,h6,h7,h8⟩
 obtain ⟨cal,args,ats⟩:=c
 simp only at h1 h2 h3
 subst h1
 have:args=#[a1,a2]:=by cases args;simp_all
 subst this
 have:ats=#[t,tx']:=by cases ats;simp_all
 subst this
 exact hop
def pi (s:Cfg):Option Oper:=match s.c with
 | .ops ops i=>ops.toList[i]?
 | _=>none
def sf (i:Nat) (s:Cfg):Option Oper:=match s.c with
 | .drw ops _=>ops.toList[i]?
 | _=>none
def Kq (p:Nat) (s:Cfg):Option (Nat × List Value):=match s.A[p]? with
 | some (b,.lit cs _ _)=>some (b,cs)
 | _=>none
def HN (P:Program) (N j p:Nat) (oo:Option Oper) (s:Cfg):Option (Option Addr × Nat × Nat × TypeId × Nat × List Value × HL × Nat):=match oo with
 | some o=>match HM P o s.L,Kq p s,s.Ts[j]?,([j]++oth [j] s.Ts.length).isPerm (List.range s.Ts.length) && (eS N o.dst undef s.L).isSome with
  | some (A,n,cap,T,some ⟨b,0,none⟩,m,_,_),some (_,cs),some Hl,true=>some (A,n,cap,T,m,cs,Hl,b)
  | _,_,_,_=>none
 | none=>none
def HO (p:Nat) (s:Cfg):Nat:=match Kq p s with
 | some (b,_)=>b
 | none=>0
theorem sg {j p:Nat} {oo:Option Oper} {A:Option Addr} {n cap m:Nat} {cs:List Value} {Hl:HL} (h:HN P N j p oo s=some (A,n,cap,T,m,cs,Hl,HO p s)) :
  ∃ o a1 a2 t tx e' c' b ty fz,oo=some o /\ o.guard=none /\ o.op=.call { callee:=.builtin .append,args:=#[a1,a2],argTypes:=#[t,tx] } /\ (lM s.L a1 && lM s.L a2)=true /\ iT s.L a1=.slice A n cap /\ iT s.L a2=.slice (some ⟨b,0,none⟩) m c' /\ P.underlying t=some (.slice T) /\ P.underlying tx=some (.slice e') /\
   s.A[p]?=some (b,.lit cs ty fz) /\ s.Ts[j]?=some Hl /\ ([j]++oth [j] s.Ts.length).isPerm (List.range s.Ts.length)=true /\ (eS N o.dst undef s.L).isSome=true:=by
 unfold HN at h
 split at h
 case h_2=>cases h
 rename_i o
 split at h
 case h_2=>cases h
 rename_i A' n' cap' T' b m' c' tx b' cs' Hl' h1 h2 h3 h4
 simp only [Option.some.injEq,Prod.mk.injEq] at h
 obtain ⟨e1,e2,e3,e4,e5,e6,e7,e8⟩:=h
 subst e1;subst e2;subst e3;subst e4;subst e5;subst e6;subst e7
 obtain ⟨a1,a2,t,e',q1,q2,q3,q4,q5,q6,q7⟩:=se h1
 rw [Bool.and_eq_true] at h4
 unfold HO at e8
 rw [h2] at e8
 simp only at e8
 subst e8
 unfold Kq at h2
 split at h2
 case h_2=>cases h2
 rename_i b2 cs2 ty fz h5
 simp only [Option.some.injEq,Prod.mk.injEq] at h2
 obtain ⟨e1,e2⟩:=h2
 subst e1;subst e2
 exact ⟨o,a1,a2,t,tx,e',c',_,ty,fz,rfl,q1,q2,q3,q4,q5,q6,q7,h5,h3,h4.1,h4.2⟩
def L5 (j:Nat) (Hl:HL) (s:Cfg):Cfg:=match s with
 | ⟨c,k,L,A,Ts⟩=>⟨c,k,L,A,Hl :: (oth [j] Ts.length).filterMap (Ts[·]?)⟩
theorem gY {A:HL} {Ts:List HL} {Hl:HL} {j:Nat} (hj:Ts[j]?=some Hl) (hp:([j]++oth [j] Ts.length).isPerm (List.range Ts.length)=true):(Hl++(A++((oth [j] Ts.length).filterMap (Ts[·]?)).flatten)).Perm (ap A Ts):=by
 have h3:=fq Ts [j] _ hp
 simp only [List.filterMap_cons,hj,List.filterMap_nil] at h3
 have h4:=h3.flatten
 simp only [List.cons_append,List.nil_append,List.flatten_cons] at h4
 refine List.Perm.trans ?_ (List.Perm.append_left A h4)
 rw [<- List.append_assoc,<- List.append_assoc]
 exact List.Perm.append_right _ List.perm_append_comm
theorem gB (ok:EncOk e P T inf z) (l src:List α) (j p:Nat) {A:Option Addr} {n cap:Nat} {Hl:HL} (hn:n=l.length) (hsl:SlIs e T l A cap Hl) (hb:l.length+src.length <= 100000000)
  (hk:∀ (A':Option Addr) (cap':Nat) (Hl':HL),(SlIs e T (l++src) A' cap' Hl' /\ (cq A -> cq A')) -> RN r P N D F w0 R (L5 j Hl' (fl N (.slice A' (n+src.length) cap') s)) Q)
  (h:HN P N j p (pi s) s=some (A,n,cap,T,src.length,ay e src,Hl,HO p s):=by kernel_rfl):RN r P N D F w0 R s Q:=by
 obtain ⟨o,a1,a2,t,tx,e',c',b,ty,fz,q0,q1,q2,q3,q4,q5,q6,q7,q8,q9,q10,q11⟩:=sg h
 refine ⟨λ hR a w hF hRel hB=>?_⟩
 obtain ⟨c,k,L,B,Ts⟩:=s
 unfold pi at q0
 cases c with
 | code c=>cases q0
 | ex c=>cases q0
 | drw _ _=>cases q0
 | ops ops i =>
  simp only at q0 q3 q4 q5 q8 q9 q10 q11 hF hRel
  have hdrop:ops.toList.drop i=o :: ops.toList.drop (i+1):=by
   have hlt:i < ops.toList.length:=(List.getElem?_eq_some_iff.1 q0).1
   rw [List.drop_eq_getElem_cons hlt,(List.getElem?_eq_some_iff.1 q0).2]
  show wpListIn _ _ _ _ _ _ _ _
  rw [hdrop,wpListIn,if_pos (by simp [Region.wanted,q1])]
  refine ⟨λ _ _=>trivial,?_⟩
  have hperm:=gY (A:=B) q9 q10
  refine fR (by rw [q2];intro c hc;cases hc) (lc (x:=vS b 0 src.length c') (src:=src) (G:=B++((oth [j] Ts.length).filterMap (Ts[·]?)).flatten) ok q2 q6 q3 q4 hn q5 hperm hsl (λ w hw=>zD ok q7 p (by rw [List.getElem?_append_left (List.getElem?_eq_some_iff.1 q8).1];exact q8) hw) hb a hF w hRel) ?_
  rintro u w' ⟨⟨A',cap',Hl'⟩,⟨rfl,hsl'⟩,hR',hB'⟩
  obtain ⟨L',p1⟩:=dY q11 (.slice A' (n+src.length) cap')
  have hh:=(hk A' cap' Hl' hsl').h hR
  have hpc:fl N (.slice A' (n+src.length) cap') ⟨.ops ops i,k,L,B,Ts⟩=⟨.ops ops (i+1),k,L',B,Ts⟩:=by
   unfold fl
   simp only [q0,p1]
  rw [hpc] at hh
  refine hh _ w' (hF.put p1) (hR'.perm (List.Perm.append_right F ?_)) (hB.trans hB')
  show (B++(Hl' :: (oth [j] Ts.length).filterMap (Ts[·]?)).flatten).Perm _
  rw [List.flatten_cons,<- List.append_assoc,<- List.append_assoc]
  exact List.Perm.append_right _ List.perm_append_comm
theorem ld {i:Nat} (ix:List Nat) (ok:EncOk e P T inf z) (l src:List α) (j p:Nat) {A:Option Addr} {n cap:Nat} {Hl:HL} (hn:n=l.length) (hsl:SlIs e T l A cap Hl) (hb:l.length+src.length <= 100000000)
  (hk:∀ (A':Option Addr) (cap':Nat) (Hl':HL),(SlIs e T (l++src) A' cap' Hl' /\ (cq A -> cq A')) -> RD r P N D F w0 R hards Rd (L5 j Hl' (xO N i (.slice A' (n+src.length) cap') s)) Q)
  (h:HN P N j p (sf i s) s=some (A,n,cap,T,src.length,ay e src,Hl,HO p s):=by kernel_rfl) (hx:(hards.contains i,uQ ix s)=(true,Rd):=by kernel_rfl):RDO r P N D F w0 R hards Rd i s Q:=by
 obtain ⟨o,a1,a2,t,tx,e',c',b,ty,fz,q0,q1,q2,q3,q4,q5,q6,q7,q8,q9,q10,q11⟩:=sg h
 obtain ⟨c,k,L,B,Ts⟩:=s
 unfold sf at q0
 simp only [Prod.mk.injEq] at hx
 cases c with
 | code c=>cases q0
 | ex c=>cases q0
 | ops _ _=>cases q0
 | drw ops li =>
  refine ⟨λ hR=>?_⟩
  simp only at q0 q3 q4 q5 q8 q9 q10 q11
  have hperm:=gY (A:=B) q9 q10
  have hpc:∀ v L',eS N o.dst v L=some L' -> xO N i v ⟨.drw ops li,k,L,B,Ts⟩=⟨.drw ops (br li i true),k,L',B,Ts⟩:=by
   intro v L' hl
   unfold xO
   simp only [q0,hl]
  refine (pZ (Q:=Q) (by simpa using q0) (σ:=Option Addr × Nat × HL) (λ u y=>u=.slice y.1 (n+src.length) y.2.1 /\ (SlIs e T (l++src) y.1 y.2.1 y.2.2 /\ (cq A -> cq y.1))) (λ y=>ap B (y.2.2 :: (oth [j] Ts.length).filterMap (Ts[·]?))) q11 (λ a hF=>⟨by simp [Region.wanted,q1],λ w hRel hB=>?_⟩) (λ y=>⟨λ hi=>?_,λ hi x hm=>List.mem_append_left _ (pW ix hx.2 x hm)⟩) ?_:RDO r P N D F w0 R hards Rd i ⟨.drw ops li,k,L,B,Ts⟩ Q).h hR
  ·refine d8 (lc (x:=vS b 0 src.length c') (src:=src) (G:=B++((oth [j] Ts.length).filterMap (Ts[·]?)).flatten) ok q2 q6 q3 q4 hn q5 hperm hsl (λ w hw=>zD ok q7 p (by rw [List.getElem?_append_left (List.getElem?_eq_some_iff.1 q8).1];exact q8) hw) hb a hF w hRel) ?_
   rintro u w' ⟨y,h3,hR',hB'⟩
   refine ⟨y,h3,hR'.perm (List.Perm.append_right F ?_),hB'⟩
   show (B++(y.2.2 :: (oth [j] Ts.length).filterMap (Ts[·]?)).flatten).Perm _
   rw [List.flatten_cons,<- List.append_assoc,<- List.append_assoc]
   exact List.Perm.append_right _ List.perm_append_comm
  ·exact absurd (List.contains_iff_mem.1 hx.1) hi
  ·rintro u ⟨A',cap',Hl'⟩ ⟨rfl,h3⟩ L' hl hs
   have h1:=(hk A' cap' Hl' h3).h hR
   rw [hpc _ L' hl] at h1
   exact h1 hs
end
structure MemS where
 cs:List Int
 lg:List (Int × Int)
 base:Int
def MemS.get (M:MemS) (i:Int):Int:=if 0 <= i /\ i < M.cs.length then M.cs.getD i.toNat 0 else 0
def MemS.set (M:MemS) (i v:Int):MemS:=if 0 <= i /\ i < M.cs.length then ⟨M.cs.set i.toNat v,M.lg++[(i,M.cs.getD i.toNat 0)],M.base⟩ else M
def aO (cs:List Int):Nat -> Nat -> Value:=λ i k=>match k with | 0=>vI (cs.getD i 0) | _=>default
theorem gj {cs:List Int} {i:Nat} (h:i < cs.length) (v:Int):dT (aO cs) i 0 (vI v)=aO (cs.set i v):=by
 funext i' k'
 unfold dT aO
 by_cases h1:i'=i
 ·subst h1
  rcases k' with _ | k'
  ·simp [h]
  ·simp
 ·rcases k' with _ | k'
  ·have:¬ i=i':=λ e=>h1 e.symm
   simp [h1,List.getElem?_set,this]
  ·simp
def jU:Enc (Int × Int):=⟨2,λ p k=>match k with | 0=>vI p.1 | _=>vI p.2,(0,0)⟩
noncomputable def JH:TypeInfo:=match Tryz.prog.info? 216 with | some i=>i | none=>⟨.bool,"",0,0,false,0,0,none,false,#[]⟩
noncomputable def JI:Value:=match JH.zero with | some z=>z | none=>.bool false
theorem xP:EncOk jU Tryz.prog 216 JH JI where
 info:=by kernel_rfl
 zero:=by kernel_rfl
 size:=by kernel_rfl
 zsize:=by kernel_rfl
 zcell:=λ k hk=>by
  have h:∀ k < 2,JI.cells[k]?=some (jU.cell jU.dflt k):=by intro k hk;(iterate 2 (rcases k with _ | k;· kernel_rfl));omega
  exact h k hk
 one:=λ x k=>by unfold jU;dsimp only;split <;> rfl
 bytes:=Nat.le_of_ble_eq_true (by kernel_rfl)
inductive MemH (mb:Nat) (M:MemS) (k:Nat):HL -> Prop
 | mk (cb:Nat) (A:Option Addr) (cap:Nat) (Hl:HL) (hs:SlIs jU 216 M.lg A cap Hl) (hc:M.cs.length <= 1000000) (hl:M.lg.length+k <= 100000000):MemH mb M k (ap [(mb,.lit [vS cb 0 M.cs.length M.cs.length,.slice A M.lg.length cap,vI M.base] 167 (0,0)),(cb,.rows 1 M.cs.length (aO M.cs) 3 (0,0))] [Hl])
theorem MemH.weak {mb:Nat} {M:MemS} {k k':Nat} {T:HL} (h:MemH mb M k T) (hk:k' <= k):MemH mb M k' T:=by
 cases h with
 | mk cb A cap Hl hs hc hl=>exact .mk cb A cap Hl hs hc (by omega)
theorem MemH.cast {mb:Nat} {M M':MemS} {k k':Nat} {T:HL} (h:MemH mb M k T) (e:M'=M) (hk:k' <= k):MemH mb M' k' T:=e ▸ h.weak hk
theorem MemH.put {mb:Nat} {M:MemS} {k:Nat} {i v:Int} {cb:Nat} {A:Option Addr} {cap:Nat} {Hl:HL} (h:0 <= i /\ i < M.cs.length) (hc:M.cs.length <= 1000000) (hl:M.lg.length+(k+1) <= 100000000) (hs:SlIs jU 216 (M.lg++[(i,M.cs.getD i.toNat 0)]) A cap Hl) :
  MemH mb (M.set i v) k (ap [(mb,.lit [vS cb 0 M.cs.length M.cs.length,.slice A (M.lg.length+[(i,M.cs.getD i.toNat 0)].length) cap,vI M.base] 167 (0,0)),(cb,.rows 1 M.cs.length (dT (aO M.cs) i.toNat 0 (vI v)) 3 (0,0))] [Hl]):=by
 have e:M.set i v=⟨M.cs.set i.toNat v,M.lg++[(i,M.cs.getD i.toNat 0)],M.base⟩:=by unfold MemS.set;rw [if_pos h]
 rw [e,gj (by omega)]
 have:=MemH.mk (M:=⟨M.cs.set i.toNat v,M.lg++[(i,M.cs.getD i.toNat 0)],M.base⟩) (k:=k) cb A cap Hl hs (by simpa using hc) (by simp;omega) (mb:=mb)
 simpa using this
theorem zJ (mb cb n:Nat) (A:Option Addr) (m cap:Nat) (base i:Int) (F:HL) (hm:(mb,.lit [vS cb 0 n n,.slice A m cap,vI base] 167 (0,0)) ∈ F):Sp Tryz.prog 109 #[vP mb 0,vI i] [] F (λ u H'=>u=.bool (decide (0 <= i /\ i < n)) /\ H'=[]):=by
 refine Sp.run Tryz.func109 rfl (mc hm mn) (A:=[]) (Ts:=[]) rfl λ w0=>?_
 refine ae 10 [] λ _=>RN.em (0 <= i) 7 (λ h1=>?_) λ h1=>?_
 ·refine ae 11 [.ro 0] λ _=>RN.ret [] [] [] (v:=.bool (decide (i < (n:Int)))) (H':=[]) ?_
  exact ⟨by simp [*],rfl⟩
 ·refine ae 11 [] λ _=>RN.ret [] [] [] (v:=.bool false) (H':=[]) ?_
  exact ⟨by simp [*],rfl⟩
theorem HP (mb cb:Nat) (cs:List Int) (A:Option Addr) (m cap:Nat) (base i:Int) (lg:List (Int × Int)) (F:HL) (hm:(mb,.lit [vS cb 0 cs.length cs.length,.slice A m cap,vI base] 167 (0,0)) ∈ F) (hc:(cb,.rows 1 cs.length (aO cs) 3 (0,0)) ∈ F) (hn:cs.length <= 1000000):Sp Tryz.prog 82 #[vP mb 0,vI i] [] F (λ u H'=>u=vI (MemS.get ⟨cs,lg,base⟩ i) /\ H'=[]):=by
 refine Sp.run Tryz.func82 rfl (mc hm (mc hc mn)) (A:=[]) (Ts:=[]) rfl λ w0=>?_
 refine ae 10 [] λ _=>aj (zJ mb cb cs.length A m cap base i _ (aw hm))<|ae 3 [] λ _=>RN.en (0 <= i /\ i < cs.length) 8 (λ h1=>?_) λ h1=>?_
 ·refine ai 15 [.ro 0,.ix ((i).toNat),.rorow 1 ((i).toNat) 0] [(0+((i).toNat) * 1)=((i).toNat) * 1+0 /\ ((i).toNat) < cs.length,i=(((i).toNat:Nat):Int) /\ (i).toNat < cs.length] λ _=>RN.ret [] [] [] (v:=vI (cs.getD ((i).toNat) 0)) (H':=[]) ?_
  exact ⟨by simp [MemS.get, *],rfl⟩
 ·refine ae 6 [] λ _=>RN.ret [] [] [] (v:=vI 0) (H':=[]) ?_
  exact ⟨by simp [MemS.get, *],rfl⟩
theorem az {mb:Nat} {M:MemS} {k:Nat} {T:HL} (i:Int) {F:HL} (h:MemH mb M k T) (hs:∀ x ∈ T,x ∈ F):Sp Tryz.prog 82 #[vP mb 0,vI i] [] F (λ u H'=>u=vI (M.get i) /\ H'=[]):=by
 cases h with
 | mk cb A cap Hl hsl hc hl=>exact HP mb cb M.cs A M.lg.length cap M.base i M.lg F (hs _ (by simp)) (hs _ (by simp)) hc
theorem i2 {mb:Nat} {M:MemS} {k:Nat} {T:HL} (i:Int) {c:Int} (e:M.get i=c) {F:HL} (h:MemH mb M k T) (hs:∀ x ∈ T,x ∈ F):Sp Tryz.prog 82 #[vP mb 0,vI i] [] F (λ u H'=>u=vI c /\ H'=[]):=e ▸ az i h hs
theorem HQ (mb cb:Nat) (M:MemS) (k:Nat) (A:Option Addr) (cap:Nat) (i v:Int) (Hl:HL) (F:HL) (hs:SlIs jU 216 M.lg A cap Hl) (hc:M.cs.length <= 1000000) (hl:M.lg.length+(k+1) <= 100000000):Sp Tryz.prog 97 #[vP mb 0,vI i,vI v] (ap [(mb,.lit [vS cb 0 M.cs.length M.cs.length,.slice A M.lg.length cap,vI M.base] 167 (0,0)),(cb,.rows 1 M.cs.length (aO M.cs) 3 (0,0))] [Hl]) F (λ u H'=>MemH mb (M.set i v) k H'):=by
 refine Sp.run Tryz.func97 rfl mn (A:=[(mb,.lit [vS cb 0 M.cs.length M.cs.length,.slice A M.lg.length cap,vI M.base] 167 (0,0)),(cb,.rows 1 M.cs.length (aO M.cs) 3 (0,0))]) (Ts:=[Hl]) rfl λ w0=>?_
 refine ae 5 [] λ _=>aj (zJ mb cb M.cs.length A M.lg.length cap M.base i _ (aB 0))<|ae 3 [] λ _=>RN.en (0 <= i /\ i < M.cs.length) 9 (λ h1=>?_) λ h1=>?_
 ·refine ae 4 [] λ _=>RN.draw [15,18] []<|aJ [] [0,1,5,6,10,2,7,3,8,4,9,11,12,13] [.own 0,.own 0,.ix ((i).toNat),.row 1 ((i).toNat) 0] [(0+((i).toNat) * 1)=((i).toNat) * 1+0 /\ ((i).toNat) < M.cs.length,i=(((i).toNat:Nat):Int) /\ (i).toNat < M.cs.length]<|RD.one 14 (RDO.ev [] [] λ n3=>?_)
  refine RD.one 15 (ld [] xP M.lg [(i,M.cs.getD i.toNat 0)] 0 0 rfl hs (by simp;omega) ?_)
  rintro A4 c5 T6 ⟨hs7,hz8⟩
  refine ag [] [16,17] []<|RD.one 18 (RDO.ev [] [.own 1] λ _=>?_)
  refine RD.fin<|ai 11 [.own 1,.ix ((i).toNat),.row 2 ((i).toNat) 0] [(0+((i).toNat) * 1)=((i).toNat) * 1+0 /\ ((i).toNat) < M.cs.length,i=(((i).toNat:Nat):Int) /\ (i).toNat < M.cs.length] λ _=>RN.ret [] [1,2] [0] (v:=.tuple #[]) (H':=(ap [(mb,.lit [vS cb 0 M.cs.length M.cs.length,.slice A4 (M.lg.length+([(i,M.cs.getD i.toNat 0)]).length) c5,vI M.base] 167 (0,0)),(cb,.rows 1 M.cs.length (dT (aO M.cs) ((i).toNat) 0 (vI v)) 3 (0,0))] [T6])) ?_
  exact MemH.put (by omega) hc (by omega) hs7
 ·refine ae 1 [] λ _=>RN.ret [] [0,1] [0] (v:=.tuple #[]) (H':=(ap [(mb,.lit [vS cb 0 M.cs.length M.cs.length,.slice A M.lg.length cap,vI M.base] 167 (0,0)),(cb,.rows 1 M.cs.length (aO M.cs) 3 (0,0))] [Hl])) ?_
  have e:M.set i v=M:=by unfold MemS.set;rw [if_neg (by assumption)]
  rw [e]
  exact .mk cb A cap Hl hs hc (by omega)
theorem ak {mb:Nat} {M:MemS} {k:Nat} {T:HL} (i v:Int) {F:HL} (h:MemH mb M (k+1) T):Sp Tryz.prog 97 #[vP mb 0,vI i,vI v] (ap [] [T]) F (λ u H'=>∃ x,H'=ap ((λ _=>[]) x) ((λ x=>[x]) x) /\ MemH mb (M.set i v) k x):=by
 cases h with
 | mk cb A cap Hl hsl hc hl =>
  have e:∀ T:HL,ap [] [T]=T:=λ T=>by simp
  have:=HQ mb cb M k A cap i v Hl F hsl hc hl
  rw [e]
  exact this.mono λ u H' h=>⟨H',(e H').symm,h⟩
open Go.Shelf
section
variable {r:Option Nat} {P:Program} {N:Nat} {D:List Deferred} {F:HL} {w0:World} {R:HL} {s:Cfg} {Q:Exit -> Act -> World -> Prop}
def DX (P:Program) (n0 N:Nat) (R:HL) (s:Cfg):Option (Option Tmp × Nat × Array Value × List Prop):=match s.c with
 | .ops ops i=>xL P n0 N ops.toList i s.L (ap s.A s.Ts) R []
 | _=>none
def DY (N j:Nat) (s:Cfg) (x:Option (Option Tmp × Nat × Array Value × List Prop)):Option (Nat × Array Value × List Prop × HL):=match x with
 | some (dst,l,args,Ob)=>match s.Ts[j]?,([j]++oth [j] s.Ts.length).isPerm (List.range s.Ts.length) && (eS N dst undef s.L).isSome with
  | some T,true=>some (l,args,Ob,T)
  | _,_=>none
 | none=>none
theorem RN.yield (j:Nat) {l:Nat} {args:Array Value} {T:HL} {Rv:Bool -> HL -> Prop} (hc:YL P l args T (ap s.A (fC [j] s)++F) Rv) (hk:∀ b H',Rv b H' -> RN r P N D F w0 R (L5 j H' (fl N (.bool b) s)) Q)
  (h:∀ n0,DY N j s (DX P n0 N R s)=some (l,args,[],T):=by intro n0;kernel_rfl):RN r P N D F w0 R s Q:=by
 refine ⟨λ hR a w hF hRel hB=>?_⟩
 have h':=h w.heap.size
 obtain ⟨cc,k,L,A,Ts⟩:=s
 cases cc with
 | code c=>simp [DX,DY] at h'
 | ex c=>simp [DX,DY] at h'
 | drw _ _=>simp [DX,DY] at h'
 | ops ops i =>
 simp only [DX] at h' hF hRel
 generalize hx:xL P w.heap.size N ops.toList i L (ap A Ts) R []=x at h'
 unfold DY at h'
 split at h'
 case h_2=>cases h'
 rename_i dst l' args' Ob'
 split at h'
 case h_2=>cases h'
 rename_i T' hj hpp
 simp only [Option.some.injEq,Prod.mk.injEq] at h'
 obtain ⟨e1,e2,e3,e4⟩:=h'
 subst e1;subst e2;subst e3;subst e4
 simp only at hj hpp
 rw [Bool.and_eq_true] at hpp
 have h':=hx
 unfold xL at h'
 split at h'
 ·cases h'
 rename_i o ho
 split at h'
 case h_2=>cases h'
 rename_i ss hw
 split at h'
 case h_2=>cases h'
 rename_i hok hh he
 split at h'
 case h_2=>cases h'
 rename_i c hop
 split at h'
 case h_2=>cases h'
 rename_i f hcal
 split at h'
 case h_2=>cases h'
 rename_i l2 cap bound hf
 split at h'
 case h_2=>cases h'
 rename_i e1 e2
 simp only [Option.some.injEq,Prod.mk.injEq] at h'
 obtain ⟨d1,d2,d3,d4⟩:=h'
 subst d2
 have hcap:cap=#[]:=by cases cap;simp_all
 have hbnd:bound=#[]:=by cases bound;simp_all
 subst hcap;subst hbnd
 have hdrop:ops.toList.drop i=o :: ops.toList.drop (i+1):=by
  have hlt:i < ops.toList.length:=(List.getElem?_eq_some_iff.1 ho).1
  rw [List.drop_eq_getElem_cons hlt,(List.getElem?_eq_some_iff.1 ho).2]
 show wpListIn _ _ _ _ _ _ _ _
 rw [hdrop,wpListIn]
 have hobs:∀ p ∈ ss.ob,p:=by rw [d4];intro p hp;cases hp
 obtain ⟨c1,c2,c3⟩:=ci hw hF hobs
 rw [if_pos c1]
 refine ⟨λ _ _=>trivial,?_⟩
 rw [hF.sem hok]
 have hperm:=gY (A:=A) hj hpp.1
 have hR':Rel (T'++(ap A ((oth [j] Ts.length).filterMap (Ts[·]?))++F)) w:=by rw [<- List.append_assoc];exact hRel.perm (hperm.symm.append_right F).symm
 obtain ⟨fn,tmps,assign,body,hy,hround⟩:=hc w hR'
 rw [xM hop hcal hf,d3,hy,Oper.uponIn_round]
 refine ⟨λ h=>(by cases h),RoundIn.mono (show RoundIn (Wr r) (0 - 1) P l2 fn tmps assign body w _ from hround) ?_⟩
 rintro e W' ⟨b,H',rfl,hv,hR2,hB2⟩
 obtain ⟨L',p1⟩:=dY hpp.2 (.bool b)
 have hh:=(hk b H' hv).h hR
 have hpc:fl N (.bool b) ⟨.ops ops i,k,L,A,Ts⟩=⟨.ops ops (i+1),k,L',A,Ts⟩:=by
  unfold fl
  rw [<- d1] at p1
  simp only [ho,p1]
 rw [hpc] at hh
 rw [<- d1] at p1
 refine hh _ W' (hF.put p1) (hR2.perm ?_) (hB.trans hB2)
 rw [<- List.append_assoc]
 refine List.Perm.append_right F ?_
 show (A++(H' :: (oth [j] Ts.length).filterMap (Ts[·]?)).flatten).Perm (H'++(A++((oth [j] Ts.length).filterMap (Ts[·]?)).flatten))
 rw [List.flatten_cons,<- List.append_assoc,<- List.append_assoc]
 exact List.Perm.append_right _ List.perm_append_comm
theorem RN.rn {σ:Type} {Ax:σ -> HL} {Tx:σ -> List HL} {I:σ -> Prop} {Ix:Code -> σ -> Prop} (x:σ) (ip jp:List Nat) (hi:I x) (hc:(match s.c,s.k with | .ex .normal,[]=>true | _,_=>false)=true:=by kernel_rfl)
  (hp:bX ip jp s=true:=by kernel_rfl) (hH:picks ip jp s=(Ax x,Tx x):=by kernel_rfl):RN r P N D F w0 R s (RQ F w0 (λ x=>ap (Ax x) (Tx x)) I Ix):=by
 unfold bX at hp
 unfold picks at hH
 rw [Bool.and_eq_true] at hp
 simp only [Prod.mk.injEq] at hH
 refine ⟨λ hR a w h1 h2 h3=>?_⟩
 obtain ⟨c,k,L,A,Ts⟩:=s
 split at hc
 case h_2=>cases hc
 rename_i e1 e2
 simp only at e1 e2
 subst e1;subst e2
 exact ⟨x,hi,h2.takeT ip _ jp _ hp.1 hp.2 (by rw [hH.1,hH.2]),h3⟩
theorem RN.rr {σ:Type} {Ax:σ -> HL} {Tx:σ -> List HL} {I:σ -> Prop} {Ix:Code -> σ -> Prop} (x:σ) (ip jp:List Nat) (hi:Ix .ret x) (hc:(match s.c with | .code .ret=>true | _=>false)=true:=by kernel_rfl)
  (hp:bX ip jp s=true:=by kernel_rfl) (hH:picks ip jp s=(Ax x,Tx x):=by kernel_rfl):RN r P N D F w0 R s (RQ F w0 (λ x=>ap (Ax x) (Tx x)) I Ix):=by
 unfold bX at hp
 unfold picks at hH
 rw [Bool.and_eq_true] at hp
 simp only [Prod.mk.injEq] at hH
 refine ⟨λ hR a w h1 h2 h3=>?_⟩
 obtain ⟨c,k,L,A,Ts⟩:=s
 split at hc
 case h_2=>cases hc
 rename_i e1
 simp only at e1
 subst e1
 exact wpIn_ret (im k ⟨x,hi,h2.takeT ip _ jp _ hp.1 hp.2 (by rw [hH.1,hH.2]),h3⟩)
end
section
variable {P:Program} {N:Nat} {D:List Deferred} {F:HL} {w0:World} {R:HL} {s:Cfg} {Q:Exit -> Act -> World -> Prop}
def lI (s:Cfg):Option (Value × Nat):=match s.c with
 | .code (.rangeFunc g ps _ _)=>match lM s.L g with
  | true=>some (iT s.L g,ps.size)
  | false=>none
 | _=>none
def HS (N:Nat) (s:Cfg):Bool:=match s.c with
 | .code (.rangeFunc _ ps _ _)=>ps.toList.all λ p=>decide (p < N)
 | _=>false
def Mn (K:Act -> World -> Prop) (vs:List Value) (A:HL) (Ts:List HL) (s:Cfg):Cfg:=match s with
 | ⟨.code (.rangeFunc _ ps assign _),_,L,_,_⟩=>⟨.code assign,[.met K],pf ps.toList vs L,A,Ts⟩
 | s=>s
def Mo (V:Inv) (s:Cfg):Cfg:=match s with
 | ⟨.code (.rangeFunc _ _ _ body),_,_,_,_⟩=>⟨.code body,[],V.L,V.A,V.Ts⟩
 | s=>s
def Mp (c:Fo) (d:Nat) (ip jp:List Nat) (A:HL) (Ts:List HL) (s:Cfg):Cfg:=match s with
 | ⟨_,k,L,A',Ts'⟩=>⟨c,k,L,cr d :: (A++(oth ip A'.length).filterMap (A'[·]?)),Ts++(oth jp Ts'.length).filterMap (Ts'[·]?)⟩
theorem RN.range {α σ τ:Type} {encs:α -> Array Value} {xs:List α} {gf:FuncId} {lb:Array Value} (eg:∀ args w,(callFunc gf args).run P w=.ok (.enter gf args) w)
  (S:σ -> HL × List HL) (I:Nat -> σ -> Prop) (Ix:Code -> σ -> Prop) (W:τ -> Inv) (Ia:Nat -> α -> τ -> Prop) (x0:σ) (h0:I 0 x0) (ip jp:List Nat)
  (hit:It P gf lb (ap (eH ip s) (fC jp s)++F) encs xs)
  (hassign:∀ (l i:Nat) (x:α) (s1:σ) (Y:HL) (w1:World),xs[i]?=some x -> I i s1 ->
   (∀ {s':Cfg} {R':HL} (t:τ) (ip' jp':List Nat),Ia i x t -> (hm:Bp s'=some (MV N [] (Y++(ap (eH ip s) (fC jp s)++F)) w1 W (Ia i x)):=by kernel_rfl) -> (h:tI (W t) ip' jp' s'=mV (W t):=by kernel_rfl) -> (hp:bX ip' jp' s'=true:=by kernel_rfl) -> RN (some l) P N [] (Y++(ap (eH ip s) (fC jp s)++F)) w1 R' s' (λ _ _ _=>False)) ->
   RN (some l) P N [] (Y++(ap (eH ip s) (fC jp s)++F)) w1 (eH ip s++R) (Mn (MV N [] (Y++(ap (eH ip s) (fC jp s)++F)) w1 W (Ia i x)) (encs x).toList (S s1).1 (S s1).2 s) (λ _ _ _=>False))
  (hbody:∀ (l i:Nat) (x:α) (t:τ) (Y:HL) (w1:World),xs[i]?=some x -> Ia i x t -> RN (some l) P N [] (Y++(ap (eH ip s) (fC jp s)++F)) w1 (eH ip s++R) (Mo (W t) s) (RQ (Y++(ap (eH ip s) (fC jp s)++F)) w1 (λ s=>ap (S s).1 (S s).2) (I (i+1)) Ix))
  (hdone:∀ (d:Nat) (s1:σ),I xs.length s1 -> RN none P N (coll d :: D) F w0 R (Mp (.ex .normal) d ip jp (S s1).1 (S s1).2 s) Q)
  (hstop:∀ (d:Nat) (c:Code) (s1:σ),Ix c s1 -> RN none P N (coll d :: D) F w0 R (Mp (.code c) d ip jp (S s1).1 (S s1).2 s) Q)
  (hpN:HS N s=true:=by kernel_rfl) (hp:bX ip jp s=true:=by kernel_rfl) (hH:picks ip jp s=((S x0).1,(S x0).2):=by kernel_rfl) (hG:(lI s).map (·.1)=some (.func (.func gf) #[] lb):=by kernel_rfl) (hne:∀ x:α,(lI s).map (·.2)=some (encs x).size:=by intro x;kernel_rfl):RN none P N D F w0 R s Q:=by
 refine ⟨λ hR=>?_⟩
 obtain ⟨c,k,L,A,Ts⟩:=s
 unfold bX at hp
 unfold picks at hH
 rw [Bool.and_eq_true] at hp
 simp only [Prod.mk.injEq] at hH
 cases c with
 | ops _ _=>simp [lI] at hG
 | ex _=>simp [lI] at hG
 | drw _ _=>simp [lI] at hG
 | code c =>
 cases c with
 | rangeFunc g ps assign body =>
  have hi:lM L g=true:=by
   cases h:lM L g with
   | true=>rfl
   | false=>simp [lI,h] at hG
  simp only [lI,hi,Option.map_some,Option.some.injEq] at hG hne
  simp only [HS] at hpN
  have hRo:∀ (Y:HL),∀ y ∈ eH ip ⟨.code (.rangeFunc g ps assign body),k,L,A,Ts⟩++R,y ∈ Y++(ap (eH ip ⟨.code (.rangeFunc g ps assign body),k,L,A,Ts⟩) (fC jp ⟨.code (.rangeFunc g ps assign body),k,L,A,Ts⟩)++F):=by
   intro Y y hy
   rcases List.mem_append.1 hy with hy | hy
   ·exact List.mem_append_right _ (List.mem_append_left _ (List.mem_append_left _ hy))
   ·exact List.mem_append_right _ (List.mem_append_right _ (hR y hy))
  exact Bn (assign:=assign) (body:=body) hi hG eg (λ s=>(S s).1) (λ s=>(S s).2) I Ix (λ t=>(W t).L) (λ t=>ap (W t).A (W t).Ts) Ia (λ x=>(hne x).symm) hpN x0 h0 ip (oth ip A.length) jp (oth jp Ts.length) hp.1 hp.2 _ _ rfl rfl hH.1 hH.2 hit
   (λ l i x s1 Y w1 hx hi=>(hassign l i x s1 Y w1 hx hi (λ t ip' jp' ht hm h hp=>pC t ip' jp' ht hm h hp)).h (hRo Y))
   (λ l i x t Y w1 hx ht=>(hbody l i x t Y w1 hx ht).h (hRo Y))
   (λ d s1 hs=>(hdone d s1 hs).h hR) (λ d c s1 hs=>(hstop d c s1 hs).h hR)
 | _=>simp [lI] at hG
theorem Sp.runM {f:FuncId} {fn:Func} {c:Code} {args:Array Value} {H:HL} {R':Value -> HL -> Prop} (hf:P.funcs[f]?=some fn) (hb:fn.body=some c) (hR:∀ y ∈ R,y ∈ F) {A:HL} {Ts:List HL} (hH:H=ap A Ts)
  (h:∀ w0,RN none P fn.ntmps [] F w0 R ⟨.code c,[],pS 0 args.toList,A,Ts⟩ (bodyPostM (Wr none) 0 P fn (zB F w0 R'))) (ha:decide (args.size <= fn.ntmps)=true:=by kernel_rfl):Sp P f args H F R':=by
 subst hH
 exact uM hf hb rfl ha _ rfl λ w0=>(h w0).h hR
def kl (dx:List Nat) (s:Cfg):Cfg:=match s with
 | ⟨c,k,L,A,Ts⟩=>⟨c,k,L,(oth dx A.length).filterMap (A[·]?),Ts⟩
theorem DZ {fn:Func} {R':Value -> HL -> Prop} (ds dx:List Nat) (hints:List Hint) (Ob:List Prop) (hob:AllP Ob) (ip jp:List Nat) {v:Value} {H':HL} (hv:R' v H')
  (hD:D=ds.map coll:=by rfl) (hc:mi s=true:=by kernel_rfl) (hd:((dx++oth dx s.A.length).isPerm (List.range s.A.length),dx.filterMap (s.A[·]?))=(true,ds.map cr):=by kernel_rfl)
  (h:∀ n0,jx P n0 fn.results.toList R hints (kl dx s)=some (v,mU (jx P 0 fn.results.toList R hints (kl dx s)),mU (jx P 0 fn.results.toList R hints (kl dx s)),Ob):=by intro n0;kernel_rfl)
  (hp:bX ip jp (kl dx s)=true:=by kernel_rfl) (hH:ap (picks ip jp (kl dx s)).1 (picks ip jp (kl dx s)).2=H':=by kernel_rfl):RN none P N D F w0 R s (bodyPostM (Wr none) 0 P fn (zB F w0 R')):=by
 unfold bX at hp
 unfold picks at hH
 simp only [Prod.mk.injEq] at hd
 rw [Bool.and_eq_true] at hp
 obtain ⟨c,k,L,A,Ts⟩:=s
 refine ⟨λ hR a w hF hRel hB=>?_⟩
 have key:LeavesInM (Wr none) 0 P fn a.tmps (zB F w0 R') a.defers .returning w:=by
  exact Go.Proofs.YtobflkidpfkcaaaGreatDoor.retM (by simp) ds hD dx (oth dx A.length) R hints v _ Ob hd.1 hd.2 rfl h hR hob ip _ jp _ H' hp.1 hp.2 hH hv a w hF hRel hB
 exact nK hc key key
theorem RN.retM {fn:Func} {R':Value -> HL -> Prop} (ds dx:List Nat) (hints:List Hint) (ip jp:List Nat) {v:Value} {H':HL} (hv:R' v H')
 (hD:D=ds.map coll:=by rfl) (hc:mi s=true:=by kernel_rfl) (hd:((dx++oth dx s.A.length).isPerm (List.range s.A.length),dx.filterMap (s.A[·]?))=(true,ds.map cr):=by kernel_rfl)
 (h:∀ n0,jx P n0 fn.results.toList R hints (kl dx s)=some (v,mU (jx P 0 fn.results.toList R hints (kl dx s)),mU (jx P 0 fn.results.toList R hints (kl dx s)),[]):=by intro n0;kernel_rfl)
 (hp:bX ip jp (kl dx s)=true:=by kernel_rfl) (hH:ap (picks ip jp (kl dx s)).1 (picks ip jp (kl dx s)).2=H':=by kernel_rfl):RN none P N D F w0 R s (bodyPostM (Wr none) 0 P fn (zB F w0 R')):=DZ ds dx hints [] trivial ip jp hv hD hc hd h hp hH
end
def SpD (P:Program) (f:FuncId) (args:Array Value) (H F:HL) (R:Value -> HL -> Prop):Prop :=
 ∀ w,Rel (H++F) w -> CallsDIn (Wr none) 0 P f args .returning w λ e u' w'=>u'=.returning /\ ∃ v H',e=.returned v /\ R v H' /\ Rel (H'++F) w' /\ Below 0 w w'
theorem SpD.mono {P:Program} {f:FuncId} {args:Array Value} {H F:HL} {R R':Value -> HL -> Prop} (h:SpD P f args H F R) (hr:∀ v H',R v H' -> R' v H'):SpD P f args H F R' :=
 λ w hR=>(h w hR).mono λ e u' w' ⟨h0,v,H',h1,h2,h3,h4⟩=>⟨h0,v,H',h1,hr _ _ h2,h3,h4⟩
section
variable {r:Option Nat} {P:Program} {N:Nat} {D:List Deferred} {F:HL} {w0:World} {R:HL} {s:Cfg} {Q:Exit -> Act -> World -> Prop}
def dfR (N:Nat) (s:Cfg):Option (FuncId × Array Value × Array Value):=match pi s with
 | some o=>match o.guard,o.op,(eS N o.dst undef s.L).isSome with
  | none,.defer c,true=>match c.callee with
   | .value f=>match lM s.L f && c.args.toList.all (lM s.L) with
    | true=>match iT s.L f with
     | .func (.func g) first cap=>some (g,first++c.args.map (iT s.L),cap)
     | _=>none
    | false=>none
   | _=>none
  | _,_,_=>none
 | none=>none
abbrev Mq (g:FuncId) (args cap:Array Value):Deferred:={ target:=.fn (.func g) cap,args:=args }
theorem zK {L:FL} {a:Act} (hF:Fm N D L a):∀ (l:List Operand),l.all (lM L)=true -> l.map a.eval=l.map (iT L)
 | [],_=>rfl
 | x :: l,h=>by
  rw [List.all_cons,Bool.and_eq_true] at h
  rw [List.map_cons,List.map_cons,hF.eval h.1,zK hF l h.2]
theorem Mr {g:FuncId} {args cap:Array Value} (hk:RN none P N (Mq g args cap :: D) F w0 R (fl N undef s) Q) (h:dfR N s=some (g,args,cap):=by kernel_rfl):RN none P N D F w0 R s Q:=by
 refine ⟨λ hR a w hF hRel hB=>?_⟩
 obtain ⟨cc,kk,L,A,Ts⟩:=s
 unfold dfR at h
 split at h
 case h_2=>cases h
 rename_i o q0
 split at h
 case h_2=>cases h
 rename_i c q1 q2 q3
 split at h
 case h_2=>cases h
 rename_i f q4
 split at h
 case h_2=>cases h
 rename_i q5
 split at h
 case h_2=>cases h
 rename_i g' first cap' q6
 simp only [Option.some.injEq,Prod.mk.injEq] at h
 obtain ⟨e1,e2,e3⟩:=h
 subst e1;subst e2;subst e3
 unfold pi at q0
 cases cc with
 | code c=>cases q0
 | ex c=>cases q0
 | drw _ _=>cases q0
 | ops ops j =>
  simp only at q0 q3 q5 q6 hF hRel
  have hdrop:ops.toList.drop j=o :: ops.toList.drop (j+1):=by
   have hlt:j < ops.toList.length:=(List.getElem?_eq_some_iff.1 q0).1
   rw [List.drop_eq_getElem_cons hlt,(List.getElem?_eq_some_iff.1 q0).2]
  show wpListIn _ _ _ _ _ _ _ _
  rw [hdrop,wpListIn,if_pos (by simp [Region.wanted,q1])]
  refine ⟨λ _ _=>trivial,?_⟩
  rw [Bool.and_eq_true] at q5
  obtain ⟨L',hl⟩:=dY q3 undef
  have hpc:fl N undef ⟨.ops ops j,kk,L,A,Ts⟩=⟨.ops ops (j+1),kk,L',A,Ts⟩:=by
   unfold fl
   simp only [q0,hl]
  have hh:=hk.h hR
  rw [hpc] at hh
  have hargs:c.args.map a.eval=c.args.map (iT L):=by
   apply Array.ext'
   rw [Array.toList_map,Array.toList_map]
   exact zK hF _ q5.2
  have e1:a.eval f=.func (.func g') first cap':=(hF.eval q5.1).trans q6
  have hex:(o.semAt (Wr none).round a.eval).run P w=.ok (.defer (Mq g' (first++c.args.map (iT L)) cap')) w:=by
   show (Oper.semAt none a.eval o).run P w=_
   rw [Oper.semAt_none]
   simp only [execOp,q2,resolve,q4,e1,Deferred.ofValue,Sem.run_bind,hargs]
   rfl
  rw [hex,Oper.uponIn_defer]
  have hF':Fm N (Mq g' (first++c.args.map (iT L)) cap' :: D) L { a with defers:=Mq g' (first++c.args.map (iT L)) cap' :: a.defers }:=⟨hF.size,by rw [<- hF.defs],hF.has⟩
  exact hh _ w (hF'.put hl) hRel hB
structure LV (P:Program) (N:Nat) (D:List Deferred) (F:HL) (w0:World) (R:HL) (fn:Func) (R':Value -> HL -> Prop) (s:Cfg):Prop where
 h:(∀ y ∈ R,y ∈ F) -> ∀ a w,Fm N D s.L a -> Rel (ap s.A s.Ts++F) w -> Below 0 w0 w -> LeavesInM (Wr none) 0 P fn a.tmps (zB F w0 R') a.defers .returning w
theorem JK {fn:Func} {R':Value -> HL -> Prop} (hk:LV P N D F w0 R fn R' s) (hc:mi s=true:=by kernel_rfl):RN none P N D F w0 R s (bodyPostM (Wr none) 0 P fn (zB F w0 R')):=by
 refine ⟨λ hR a w hF hRel hB=>?_⟩
 have key:=hk.h hR a w hF hRel hB
 exact nK hc key key
def Ms (ip jp:List Nat) (Hq:HL) (Tq:List HL) (s:Cfg):Cfg:=uP (λ A=>Hq++(oth ip A.length).filterMap (A[·]?)) (λ Ts=>Tq++(oth jp Ts.length).filterMap (Ts[·]?)) s
theorem Mt {τ:Type} {fn:Func} {R':Value -> HL -> Prop} {g:FuncId} {args cap:Array Value} (eg:∀ args w,(callFunc g args).run P w=.ok (.enter g args) w) (ip jp:List Nat) {Hp:HL} {Tp:List HL} {Hq:τ -> HL} {Tq:τ -> List HL} {Rv:Value -> τ -> Prop}
  (hc:SpD P g (args++cap) (ap Hp Tp) (ap (eH ip s) (fC jp s)++F) (λ v H'=>∃ x,H'=ap (Hq x) (Tq x) /\ Rv v x)) (hk:∀ v x,Rv v x -> LV P N D F w0 R fn R' (Ms ip jp (Hq x) (Tq x) s))
  (hp:bX ip jp s=true:=by kernel_rfl) (hH:picks ip jp s=(Hp,Tp):=by kernel_rfl):LV P N (Mq g args cap :: D) F w0 R fn R' s:=by
 unfold bX at hp
 unfold picks at hH
 rw [Bool.and_eq_true] at hp
 simp only [Prod.mk.injEq] at hH
 obtain ⟨e1,e2⟩:=hH
 refine ⟨λ hR a w hF hRel hB=>?_⟩
 have hperm:(ap Hp Tp++ap (eH ip s) (fC jp s)).Perm (ap s.A s.Ts):=by
  have h1:=k8 s.A s.Ts ip (oth ip s.A.length) jp (oth jp s.Ts.length) hp.1 hp.2
  rw [e1,e2] at h1
  exact h1
 have hR1:Rel (ap Hp Tp++(ap (eH ip s) (fC jp s)++F)) w:=by rw [<- List.append_assoc];exact hRel.perm (hperm.append_right F)
 rw [hF.defs]
 refine ⟨by simp,.inr ⟨(λ h=>by cases h),.func g,cap,g,args++cap,rfl,?_,λ _ _=>trivial,?_⟩⟩
 ·show (callFunc g (args++cap)).run P w=_
  exact eg _ _
 ·refine (hc w hR1).mono ?_
  rintro e u' w' ⟨rfl,v,H',rfl,⟨x,rfl,hv⟩,hR2,hB2⟩
  have:=(hk v x hv).h hR { a with defers:=D } w' ⟨hF.size,rfl,hF.has⟩ ?_ (hB.trans hB2)
  ·exact this
  ·unfold Ms
   rw [pB.1,pB.2.1]
   refine hR2.perm ?_
   exact (tE _ _ _ _ _).symm
theorem HT {fn:Func} {R':Value -> HL -> Prop} (hints:List Hint) (Ob:List Prop) (hob:AllP Ob) (ip jp:List Nat) {v:Value} {H':HL} (hv:R' v H')
  (h:∀ n0,jx P n0 fn.results.toList R hints s=some (v,mU (jx P n0 fn.results.toList R hints s),mU (jx P n0 fn.results.toList R hints s),Ob):=by intro n0;kernel_rfl)
  (hp:bX ip jp s=true:=by kernel_rfl) (hH:ap (picks ip jp s).1 (picks ip jp s).2=H':=by kernel_rfl):LV P N [] F w0 R fn R' s:=by
 unfold bX at hp
 unfold picks at hH
 refine ⟨λ hR a w hF hRel hB=>?_⟩
 rw [Bool.and_eq_true] at hp
 have h':=h w.heap.size
 unfold jx xH at h'
 split at h'
 case h_2=>cases h'
 rename_i vs ss hs
 split at h'
 case h_2=>cases h'
 simp only [mU,Option.some.injEq,Prod.mk.injEq] at h'
 obtain ⟨e1,-,e3,e4⟩:=h'
 have hrun:=ju (P:=P) hF hRel fn.results.toList _ _ _ hs rfl rfl hR (λ e=>by cases e) (fF rfl e3) (by rw [e4];exact AllP.mem hob)
 subst e1
 rw [hF.defs]
 exact ⟨_,iY (by simp) hrun,_,H',rfl,hv,hRel.takeT ip _ jp _ hp.1 hp.2 hH,hB⟩
theorem LV.ret {fn:Func} {R':Value -> HL -> Prop} (hints:List Hint) (ip jp:List Nat) {v:Value} {H':HL} (hv:R' v H')
 (h:∀ n0,jx P n0 fn.results.toList R hints s=some (v,mU (jx P n0 fn.results.toList R hints s),mU (jx P n0 fn.results.toList R hints s),[]):=by intro n0;kernel_rfl)
 (hp:bX ip jp s=true:=by kernel_rfl) (hH:ap (picks ip jp s).1 (picks ip jp s).2=H':=by kernel_rfl):LV P N [] F w0 R fn R' s:=HT hints [] trivial ip jp hv h hp hH
end
def N0 (P:Program) (g:FuncId) (lb:Array Value) (own:HL) (F:HL) {α:Type} (encs:α -> Array Value) (xs:List α) (Te Tx:HL -> Prop):Prop :=
 ∀ (X:HL) (l:Nat) (J:Nat -> HL -> Prop) (Jx:HL -> Prop) (H0:HL),(∀ i x H Y,xs[i]?=some x -> J i H -> YL P l (encs x) H (Y++(X++F)) (λ b H'=>(b=true /\ J (i+1) H') \/ (b=false /\ Jx H'))) -> J 0 H0 ->
  Sp P g (#[.func (.yield l) #[] #[]]++lb) (H0++own) (X++F) (λ _ H'=>∃ H1 T1,H'=H1++T1 /\ ((J xs.length H1 /\ Te T1) \/ (Jx H1 /\ Tx T1)))
section
variable {P:Program} {N:Nat} {D:List Deferred} {F:HL} {w0:World} {L:FL} {Q:Exit -> Act -> World -> Prop}
theorem BC {α σ τ:Type} {g:Operand} {ps:Array Tmp} {assign body:Code} {encs:α -> Array Value} {xs:List α} {gf:FuncId} {lb:Array Value} (hi:lM L g=true) (hg:iT L g=.func (.func gf) #[] lb) (eg:∀ args w,(callFunc gf args).run P w=.ok (.enter gf args) w)
  (Hx:σ -> HL) (I:Nat -> σ -> Prop) (Ix:Code -> σ -> Prop) (La:τ -> FL) (Ha:τ -> HL) (Ia:Nat -> α -> τ -> Prop) (hps:∀ x,(encs x).size=ps.size) (hpN:(ps.toList.all λ p=>decide (p < N))=true)
  (x0:σ) (h0:I 0 x0) {A:HL} {Ts:List HL} (ip ir jp jr:List Nat) (hp:(ip++ir).isPerm (List.range A.length)=true) (hj:(jp++jr).isPerm (List.range Ts.length)=true) (Hr:HL) (Tr:List HL) (hHr:ir.filterMap (A[·]?)=Hr) (own:HL) {Te Tx:HL -> Prop} (hTr:jr.filterMap (Ts[·]?)=own :: Tr) (hH:ap (ip.filterMap (A[·]?)) (jp.filterMap (Ts[·]?))=Hx x0)
  (hit:N0 P gf lb own (ap Hr Tr++F) encs xs Te Tx)
  (hassign:∀ (l i:Nat) (x:α) (s:σ) (Y:HL) (w1:World),xs[i]?=some x -> I i s -> TR (some l) P N [] (Y++(ap Hr Tr++F)) w1 (pf ps.toList (encs x).toList L) (Hx s) assign (Exit.then (Kj N [] (Y++(ap Hr Tr++F)) w1 La Ha (Ia i x)) (λ _ _ _=>False)))
  (hbody:∀ (l i:Nat) (x:α) (t:τ) (Y:HL) (w1:World),xs[i]?=some x -> Ia i x t -> TR (some l) P N [] (Y++(ap Hr Tr++F)) w1 (La t) (Ha t) body (RQ (Y++(ap Hr Tr++F)) w1 Hx (I (i+1)) Ix))
  (hdone:∀ (d:Nat) (s:σ) (T1:HL),I xs.length s -> Te T1 -> EX N (coll d :: D) F w0 L (cr d :: (Hx s++ap Hr (T1 :: Tr))) Q .normal)
  (hstop:∀ (d:Nat) (c:Code) (s:σ) (T1:HL),Ix c s -> Tx T1 -> TR none P N (coll d :: D) F w0 L (cr d :: (Hx s++ap Hr (T1 :: Tr))) c Q) :
  TR none P N D F w0 L (ap A Ts) (.rangeFunc g ps assign body) Q:=by
 intro a w hF hR hB
 have hpo:∀ (X:HL) (T1:HL),((X++T1)++(ap Hr Tr++F)).Perm (X++(ap Hr (T1 :: Tr)++F)):=λ X T1=>by
  rw [List.append_assoc]
  refine List.Perm.append_left X ?_
  rw [<- List.append_assoc]
  refine List.Perm.append_right F ?_
  show (T1++(Hr++Tr.flatten)).Perm (Hr++(T1 :: Tr).flatten)
  rw [List.flatten_cons,<- List.append_assoc,<- List.append_assoc]
  exact List.Perm.append_right _ List.perm_append_comm
 have hR1:Rel ((Hx x0++own)++(ap Hr Tr++F)) w:=by
  have h1:=k8 A Ts ip ir jp jr hp hj
  rw [hHr,hTr,hH] at h1
  have h2:=hR.perm (h1.append_right F)
  rw [List.append_assoc] at h2
  exact h2.perm (hpo _ _)
 refine wpIn_rangeFunc ?_
 intro fn hfn
 obtain ⟨rec,hrec⟩:∃ rec:LoopState -> Option Code -> Loop,rec=λ st pe=>{ state:=st,pending:=pe,fn,tmps:=a.tmps,params:=ps,assign,body,defers:=w.heap.size }:=⟨_,rfl⟩
 obtain ⟨W1,hW1⟩:∃ W1,(w.alloc (.deferred (some []))).alloc (.loop (rec .ready none))=W1:=⟨_,rfl⟩
 have hB1:Below 0 w W1:=by rw [<- hW1];exact (gP _).trans (gP _)
 have hRW:Rel ((w.heap.size+1,Blk.obj (.loop (rec .ready none))) :: cr w.heap.size :: ((Hx x0++own)++(ap Hr Tr++F))) W1:=by
  rw [<- hW1]
  have h1:=(hR1.alloc (.obj (.deferred (some [])))).alloc (.obj (.loop (rec .ready none)))
  rw [World.size_alloc] at h1
  exact h1
 refine ⟨w.heap.size+1,[coll w.heap.size],W1,{ target:=.fn (.func gf) lb,args:=#[.func (.yield (w.heap.size+1)) #[] #[]] },W1,gf,#[.func (.yield (w.heap.size+1)) #[] #[]]++lb,W1,?_,?_,?_,?_,λ h=>(by cases h),?_⟩
 ·rw [<- hW1,hrec];exact run_enterLoop_outer _ _ _ _ _
 ·have hge:a.eval g=.func (.func gf) #[] lb:=(hF.eval hi).trans hg
  simp only [resolve,hge]
  simp [Deferred.ofValue]
  rfl
 ·intro f' _;trivial
 ·simp [invoke,eg]
 ·refine js ?_
  obtain ⟨l,hl⟩:∃ l,w.heap.size+1=l:=⟨_,rfl⟩
  rw [hl] at hRW ⊢
  obtain ⟨d,hd⟩:∃ d,w.heap.size=d:=⟨_,rfl⟩
  rw [hd] at hRW hrec ⊢
  have key:=hit [] l (λ i H'=>∃ s,I i s /\ H'=(l,Blk.obj (.loop (rec .ready none))) :: cr d :: Hx s) (λ H'=>∃ c s,Ix c s /\ H'=(l,Blk.obj (.loop (rec .done (some c)))) :: cr d :: Hx s)
   ((l,Blk.obj (.loop (rec .ready none))) :: cr d :: Hx x0) ?round ⟨x0,h0,rfl⟩ W1 hRW
  case round =>
   rintro i x H' Y hx ⟨s,hs,rfl⟩ W hRel
   have hRel':Rel ((l,Blk.obj (.loop (rec .ready none))) :: (cr d :: (Hx s++(Y++(ap Hr Tr++F))))) W:=hRel
   have hlW:W.heap[l]?=some (.loop (rec .ready none)):=hRel'.holds _ List.mem_cons_self
   have hy:=run_yield (P:=P) (args:=encs x) hlW (by rw [hrec];exact hps x)
   rw [hrec] at hy
   refine ⟨fn,_,assign,body,hy,roundIn_of_wpIn (F:=Wr none) (n:=0) hfn ?_⟩
   have hFm:Fm N [] (pf ps.toList (encs x).toList L) { tmps:=(ps.zip (encs x)).foldl (λ t (p,v)=>t.setIfInBounds p v) a.tmps,defers:=[] }:=by
    have h1:=Fm.zip (D:=[]) ps.toList (encs x).toList L a.tmps (λ p hp=>of_decide_eq_true (List.all_eq_true.1 hpN p hp)) ⟨hF.size,rfl,hF.has⟩
    have e:(ps.zip (encs x)).foldl (λ t (p,v)=>t.setIfInBounds p v) a.tmps=(ps.toList.zip (encs x).toList).foldl (λ t (p,v)=>t.setIfInBounds p v) a.tmps:=by
     rw [<- Array.foldl_toList,Array.toList_zip]
    rw [e]
    exact h1
   have hRA:Rel (Hx s++(((l,Blk.obj (.loop (rec .ready none))) :: cr d :: Y)++(ap Hr Tr++F))) W:=by
    have:=hRel'
    refine this.perm ?_
    simp only [List.cons_append]
    refine List.perm_middle.trans ?_
    refine List.Perm.cons _ ?_
    exact List.perm_middle
   refine wpIn_mono (hassign l i x s ((l,Blk.obj (.loop (rec .ready none))) :: cr d :: Y) W hx hs _ W hFm hRA (Below.refl _ _)) ?_
   intro e a1 Wa hq
   cases e with
   | normal =>
    obtain ⟨t,ht,m1,m2,m3⟩:=hq
    have hRb:Rel ((l,Blk.obj (.loop (rec .ready none))) :: (cr d :: (Ha t++(Y++(ap Hr Tr++F))))) Wa:=by
     refine m2.perm ?_
     simp only [List.cons_append]
     refine (List.Perm.trans ?_ List.perm_middle.symm)
     refine List.Perm.cons _ ?_
     exact List.perm_middle.symm
    have hla:Wa.heap[l]?=some (.loop (rec .ready none)):=hRb.holds _ List.mem_cons_self
    refine ⟨_,run_beginRound hla (by rw [hrec]),?_⟩
    have hRc:=hRb.putObj (F:=[]) (.obj (.loop { rec .ready none with state:=.busy }))
    have hRd:Rel (Ha t++(((l,Blk.obj (.loop { rec .ready none with state:=.busy })) :: cr d :: Y)++(ap Hr Tr++F))) (Wa.putObj l (.loop { rec .ready none with state:=.busy })):=by
     refine hRc.perm ?_
     simp only [List.cons_append]
     refine List.perm_middle.trans ?_
     refine List.Perm.cons _ ?_
     exact List.perm_middle
    refine wpIn_mono (hbody l i x t ((l,Blk.obj (.loop { rec .ready none with state:=.busy })) :: cr d :: Y) W hx ht a1 _ m1 hRd (m3.trans (dG _ _))) ?_
    have fin:∀ (jump:Option Code) (s':σ) (W3:World),Rel (Hx s'++(((l,Blk.obj (.loop { rec .ready none with state:=.busy })) :: cr d :: Y)++(ap Hr Tr++F))) W3 -> Below 0 W W3 ->
      ∃ v w',(Instr.endRound l jump).run P W3=.ok v w' /\ v=.bool jump.isNone /\ Rel (((l,Blk.obj (.loop (rec (if jump.isNone then .ready else .done) jump))) :: cr d :: Hx s')++(Y++([]++(ap Hr Tr++F)))) w' /\ Below 0 W w':=by
     intro jump s' W3 h3 hb3
     have h4:Rel ((l,Blk.obj (.loop { rec .ready none with state:=.busy })) :: (cr d :: (Hx s'++(Y++(ap Hr Tr++F))))) W3:=by
      refine h3.perm ?_
      simp only [List.cons_append]
      refine (List.Perm.trans ?_ List.perm_middle.symm)
      refine List.Perm.cons _ ?_
      exact List.perm_middle.symm
     have hl3:W3.heap[l]?=some (.loop { rec .ready none with state:=.busy }):=h4.holds _ List.mem_cons_self
     have hrun:=run_endRound (P:=P) jump hl3
     refine ⟨_,_,hrun,rfl,?_,hb3.trans (dG _ _)⟩
     have h5:=h4.putObj (F:=[]) (.obj (.loop (rec (if jump.isNone then .ready else .done) jump)))
     rw [hrec] at h5 ⊢
     exact h5
    intro e2 a2 W3 hq2
    cases e2 with
    | normal =>
     obtain ⟨s',hs',n2,n3⟩:=hq2
     obtain ⟨v,w',k1,k2,k3,k4⟩:=fin none s' W3 n2 n3
     exact ⟨v,w',k1,true,_,by rw [k2];rfl,.inl ⟨rfl,s',hs',rfl⟩,k3,k4⟩
    | ret =>
     obtain ⟨s',hs',n2,n3⟩:=hq2
     obtain ⟨v,w',k1,k2,k3,k4⟩:=fin (some .ret) s' W3 n2 n3
     exact ⟨v,w',k1,false,_,by rw [k2];rfl,.inr ⟨rfl,.ret,s',hs',rfl⟩,k3,k4⟩
    | exit id =>
     obtain ⟨s',hs',n2,n3⟩:=hq2
     obtain ⟨v,w',k1,k2,k3,k4⟩:=fin (some (.exit id)) s' W3 n2 n3
     exact ⟨v,w',k1,false,_,by rw [k2];rfl,.inr ⟨rfl,.exit id,s',hs',rfl⟩,k3,k4⟩
    | goto t=>exact hq2.elim
    | panic ch=>exact hq2.elim
    | outgrown=>exact hq2.elim
   | exit id=>exact hq.elim
   | goto t=>exact hq.elim
   | ret=>exact hq.elim
   | panic ch=>exact hq.elim
   | outgrown=>exact hq.elim
  refine key.mono ?_
  rintro e W2 ⟨v,H',rfl,hor,hR2,hB2⟩
  have fin:∀ (st:LoopState) (pe:Option Code) (s:σ) (T1:HL) (hst:st ≠ .busy),Rel ((((l,Blk.obj (.loop (rec st pe))) :: cr d :: Hx s)++T1)++([]++(ap Hr Tr++F))) W2 ->
    ∃ w4,(Instr.endLoop l).run P W2=.ok pe w4 /\ Rel ((cr d :: (Hx s++ap Hr (T1 :: Tr)))++F) w4 /\ Below 0 W1 w4:=by
   intro st pe s T1 hst h4
   have h5:Rel ((l,Blk.obj (.loop (rec st pe))) :: (cr d :: (Hx s++(ap Hr (T1 :: Tr)++F)))) W2:=h4.perm (((hpo (Hx s) T1).symm.cons _).cons _)
   have hl2:W2.heap[l]?=some (.loop (rec st pe)):=h5.holds _ List.mem_cons_self
   have hrun:=run_endLoop (P:=P) hl2 (by rw [hrec];exact hst)
   refine ⟨W2.putObj l (.loop { rec st pe with state:=.exhausted }),?_,?_,hB2.trans (dG _ _)⟩
   ·rw [hrun,hrec]
   ·have h6:=h5.putObj (F:=[]) (.obj (.loop { rec st pe with state:=.exhausted }))
    have h7:=Rel.drop (X:=[(l,Blk.obj (.loop { rec st pe with state:=.exhausted }))]) (H:=cr d :: (Hx s++(ap Hr (T1 :: Tr)++F))) h6
    rw [<- List.append_assoc] at h7
    exact h7
  have hFd:Fm N (coll d :: D) L { a with defers:=[coll d]++a.defers }:=⟨hF.size,by rw [hF.defs];rfl,hF.has⟩
  rcases hor with ⟨H1,T1,rfl,⟨⟨s,hs,rfl⟩,hT⟩ | ⟨⟨c,s,hs,rfl⟩,hT⟩⟩
  ·obtain ⟨w4,k1,k2,k3⟩:=fin .ready none s T1 (by simp) hR2
   exact ⟨none,w4,k1,hdone d s T1 hs hT _ w4 hFd k2 (hB.trans (hB1.trans k3))⟩
  ·obtain ⟨w4,k1,k2,k3⟩:=fin .done (some c) s T1 (by simp) hR2
   exact ⟨some c,w4,k1,hstop d c s T1 hs hT _ w4 hFd k2 (hB.trans (hB1.trans k3))⟩
theorem xQ {α σ τ:Type} {g:Operand} {ps:Array Tmp} {assign body:Code} {encs:α -> Array Value} {xs:List α} {gf:FuncId} {lb:Array Value} (hi:lM L g=true) (hg:iT L g=.func (.func gf) #[] lb) (eg:∀ args w,(callFunc gf args).run P w=.ok (.enter gf args) w)
  (Ax:σ -> HL) (Tx:σ -> List HL) (I:Nat -> σ -> Prop) (Ix:Code -> σ -> Prop) (La:τ -> FL) (Ha:τ -> HL) (Ia:Nat -> α -> τ -> Prop) (hps:∀ x,(encs x).size=ps.size) (hpN:(ps.toList.all λ p=>decide (p < N))=true)
  (x0:σ) (h0:I 0 x0) {A:HL} {Ts:List HL} (ip ir jp jr:List Nat) (hp:(ip++ir).isPerm (List.range A.length)=true) (hj:(jp++jr).isPerm (List.range Ts.length)=true) (Hr:HL) (Tr:List HL) (hHr:ir.filterMap (A[·]?)=Hr) (own:HL) {Te Tx':HL -> Prop} (hTr:jr.filterMap (Ts[·]?)=own :: Tr) (hA:ip.filterMap (A[·]?)=Ax x0) (hT:jp.filterMap (Ts[·]?)=Tx x0)
  (hit:N0 P gf lb own (ap Hr Tr++F) encs xs Te Tx')
  (hassign:∀ (l i:Nat) (x:α) (s:σ) (Y:HL) (w1:World),xs[i]?=some x -> I i s -> TR (some l) P N [] (Y++(ap Hr Tr++F)) w1 (pf ps.toList (encs x).toList L) (ap (Ax s) (Tx s)) assign (Exit.then (Kj N [] (Y++(ap Hr Tr++F)) w1 La Ha (Ia i x)) (λ _ _ _=>False)))
  (hbody:∀ (l i:Nat) (x:α) (t:τ) (Y:HL) (w1:World),xs[i]?=some x -> Ia i x t -> TR (some l) P N [] (Y++(ap Hr Tr++F)) w1 (La t) (Ha t) body (RQ (Y++(ap Hr Tr++F)) w1 (λ s=>ap (Ax s) (Tx s)) (I (i+1)) Ix))
  (hdone:∀ (d:Nat) (s:σ) (T1:HL),I xs.length s -> Te T1 -> EX N (coll d :: D) F w0 L (ap (cr d :: (Ax s++Hr)) (Tx s++T1 :: Tr)) Q .normal)
  (hstop:∀ (d:Nat) (c:Code) (s:σ) (T1:HL),Ix c s -> Tx' T1 -> TR none P N (coll d :: D) F w0 L (ap (cr d :: (Ax s++Hr)) (Tx s++T1 :: Tr)) c Q) :
  TR none P N D F w0 L (ap A Ts) (.rangeFunc g ps assign body) Q:=by
 have hpm:∀ (d:Nat) (s:σ) (Tr:List HL),(ap (cr d :: (Ax s++Hr)) (Tx s++Tr)).Perm (cr d :: (ap (Ax s) (Tx s)++ap Hr Tr)):=λ d s Tr=>by
  show (cr d :: ((Ax s++Hr)++(Tx s++Tr).flatten)).Perm _
  refine List.Perm.cons _ ?_
  rw [List.flatten_append]
  show ((Ax s++Hr)++((Tx s).flatten++Tr.flatten)).Perm ((Ax s++(Tx s).flatten)++(Hr++Tr.flatten))
  rw [List.append_assoc,List.append_assoc]
  refine List.Perm.append_left _ ?_
  rw [<- List.append_assoc,<- List.append_assoc]
  exact List.Perm.append_right _ List.perm_append_comm
 exact BC hi hg eg (λ s=>ap (Ax s) (Tx s)) I Ix La Ha Ia hps hpN x0 h0 ip ir jp jr hp hj Hr Tr hHr own hTr (by rw [hA,hT]) hit hassign hbody
  (λ d s T1 hs hT a w h1 h2 h3=>hdone d s T1 hs hT a w h1 (h2.perm ((hpm d s _).append_right F)) h3) (λ d c s T1 hs hT a w h1 h2 h3=>hstop d c s T1 hs hT a w h1 (h2.perm ((hpm d s _).append_right F)) h3)
end
section
variable {P:Program} {N:Nat} {D:List Deferred} {F:HL} {w0:World} {R:HL} {s:Cfg} {Q:Exit -> Act -> World -> Prop}
def Mu (c:Fo) (d:Nat) (ip jp:List Nat) (A:HL) (Ts:List HL) (T1:HL) (s:Cfg):Cfg:=match s with
 | ⟨_,k,L,A',Ts'⟩=>⟨c,k,L,cr d :: (A++(oth ip A'.length).filterMap (A'[·]?)),Ts++T1 :: ((oth jp Ts'.length).filterMap (Ts'[·]?)).tail⟩
theorem BD {α σ τ:Type} {encs:α -> Array Value} {xs:List α} {gf:FuncId} {lb:Array Value} (eg:∀ args w,(callFunc gf args).run P w=.ok (.enter gf args) w)
  (S:σ -> HL × List HL) (I:Nat -> σ -> Prop) (Ix:Code -> σ -> Prop) (W:τ -> Inv) (Ia:Nat -> α -> τ -> Prop) (x0:σ) (h0:I 0 x0) (ip jp:List Nat)
  (own:HL) {Te Tx:HL -> Prop} (hit:N0 P gf lb own (ap (eH ip s) (fC jp s).tail++F) encs xs Te Tx)
  (hassign:∀ (l i:Nat) (x:α) (s1:σ) (Y:HL) (w1:World),xs[i]?=some x -> I i s1 ->
   (∀ {s':Cfg} {R':HL} (t:τ) (ip' jp':List Nat),Ia i x t -> (hm:Bp s'=some (MV N [] (Y++(ap (eH ip s) (fC jp s).tail++F)) w1 W (Ia i x)):=by kernel_rfl) -> (h:tI (W t) ip' jp' s'=mV (W t):=by kernel_rfl) -> (hp:bX ip' jp' s'=true:=by kernel_rfl) -> RN (some l) P N [] (Y++(ap (eH ip s) (fC jp s).tail++F)) w1 R' s' (λ _ _ _=>False)) ->
   RN (some l) P N [] (Y++(ap (eH ip s) (fC jp s).tail++F)) w1 (eH ip s++R) (Mn (MV N [] (Y++(ap (eH ip s) (fC jp s).tail++F)) w1 W (Ia i x)) (encs x).toList (S s1).1 (S s1).2 s) (λ _ _ _=>False))
  (hbody:∀ (l i:Nat) (x:α) (t:τ) (Y:HL) (w1:World),xs[i]?=some x -> Ia i x t -> RN (some l) P N [] (Y++(ap (eH ip s) (fC jp s).tail++F)) w1 (eH ip s++R) (Mo (W t) s) (RQ (Y++(ap (eH ip s) (fC jp s).tail++F)) w1 (λ s=>ap (S s).1 (S s).2) (I (i+1)) Ix))
  (hdone:∀ (d:Nat) (s1:σ) (T1:HL),I xs.length s1 -> Te T1 -> RN none P N (coll d :: D) F w0 R (Mu (.ex .normal) d ip jp (S s1).1 (S s1).2 T1 s) Q)
  (hstop:∀ (d:Nat) (c:Code) (s1:σ) (T1:HL),Ix c s1 -> Tx T1 -> RN none P N (coll d :: D) F w0 R (Mu (.code c) d ip jp (S s1).1 (S s1).2 T1 s) Q)
  (hpN:HS N s=true:=by kernel_rfl) (hp:bX ip jp s=true:=by kernel_rfl) (hH:picks ip jp s=((S x0).1,(S x0).2):=by kernel_rfl) (ho:(fC jp s).head?=some own:=by kernel_rfl) (hG:(lI s).map (·.1)=some (.func (.func gf) #[] lb):=by kernel_rfl) (hne:∀ x:α,(lI s).map (·.2)=some (encs x).size:=by intro x;kernel_rfl):RN none P N D F w0 R s Q:=by
 refine ⟨λ hR=>?_⟩
 obtain ⟨c,k,L,A,Ts⟩:=s
 unfold bX at hp
 unfold picks at hH
 rw [Bool.and_eq_true] at hp
 simp only [Prod.mk.injEq] at hH
 cases c with
 | ops _ _=>simp [lI] at hG
 | ex _=>simp [lI] at hG
 | drw _ _=>simp [lI] at hG
 | code c =>
 cases c with
 | rangeFunc g ps assign body =>
  have hi:lM L g=true:=by
   cases h:lM L g with
   | true=>rfl
   | false=>simp [lI,h] at hG
  simp only [lI,hi,Option.map_some,Option.some.injEq] at hG hne
  simp only [HS] at hpN
  have hRo:∀ (Y:HL),∀ y ∈ eH ip ⟨.code (.rangeFunc g ps assign body),k,L,A,Ts⟩++R,y ∈ Y++(ap (eH ip ⟨.code (.rangeFunc g ps assign body),k,L,A,Ts⟩) (fC jp ⟨.code (.rangeFunc g ps assign body),k,L,A,Ts⟩).tail++F):=by
   intro Y y hy
   rcases List.mem_append.1 hy with hy | hy
   ·exact List.mem_append_right _ (List.mem_append_left _ (List.mem_append_left _ hy))
   ·exact List.mem_append_right _ (List.mem_append_right _ (hR y hy))
  have ho':(oth jp Ts.length).filterMap (Ts[·]?)=own :: ((oth jp Ts.length).filterMap (Ts[·]?)).tail:=by
   have h1:((oth jp Ts.length).filterMap (Ts[·]?)).head?=some own:=ho
   generalize (oth jp Ts.length).filterMap (Ts[·]?)=l at h1 ⊢
   cases l with
   | nil=>cases h1
   | cons x l=>simp only [List.head?_cons,Option.some.injEq] at h1;rw [h1];rfl
  exact xQ (assign:=assign) (body:=body) hi hG eg (λ s=>(S s).1) (λ s=>(S s).2) I Ix (λ t=>(W t).L) (λ t=>ap (W t).A (W t).Ts) Ia (λ x=>(hne x).symm) hpN x0 h0 ip (oth ip A.length) jp (oth jp Ts.length) hp.1 hp.2 _ _ rfl own ho' hH.1 hH.2 hit
   (λ l i x s1 Y w1 hx hi=>(hassign l i x s1 Y w1 hx hi (λ t ip' jp' ht hm h hp=>pC t ip' jp' ht hm h hp)).h (hRo Y))
   (λ l i x t Y w1 hx ht=>(hbody l i x t Y w1 hx ht).h (hRo Y))
   (λ d s1 T1 hs hT=>(hdone d s1 T1 hs hT).h hR) (λ d c s1 T1 hs hT=>(hstop d c s1 T1 hs hT).h hR)
 | _=>simp [lI] at hG
def mkC (i:Nat) (s:Cfg):Cfg:=match s with
 | ⟨c,k,L,A,Ts⟩=>⟨c,k,L,(oth [i] A.length).filterMap (A[·]?),Ts⟩
theorem LV.mark {fn:Func} {R':Value -> HL -> Prop} {d:Nat} (i:Nat) (hk:LV P N D F w0 R fn R' (mkC i s)) (h:((s.A[i]?),([i]++oth [i] s.A.length).isPerm (List.range s.A.length))=(some (cr d),true):=by kernel_rfl):LV P N (coll d :: D) F w0 R fn R' s:=by
 simp only [Prod.mk.injEq] at h
 refine ⟨λ hR a w hF hRel hB=>?_⟩
 obtain ⟨c,k,L,A,Ts⟩:=s
 simp only at h hF hRel
 have hp:=fq A [i] (oth [i] A.length) h.2
 simp only [List.filterMap_cons,h.1,List.filterMap_nil,List.cons_append,List.nil_append] at hp
 have h1:Rel ((d,Blk.obj (.deferred (some []))) :: (ap ((oth [i] A.length).filterMap (A[·]?)) Ts++F)) w:=by
  refine hRel.perm ?_
  have h2:(cr d :: ap ((oth [i] A.length).filterMap (A[·]?)) Ts).Perm (ap A Ts):=List.Perm.append_right Ts.flatten hp
  exact h2.append_right F
 have hd:w.heap[d]?=some (.deferred (some [])):=h1.holds (cr d) (by simp)
 have h2:=(h1.putObj (F:=[]) (.obj (.deferred none)))
 rw [hF.defs]
 refine ⟨by simp,.inl ⟨d,_,rfl,run_takeDeferred hd,?_⟩⟩
 exact hk.h hR { a with defers:=D } _ ⟨hF.size,rfl,hF.has⟩ (Rel.drop (X:=[(d,Blk.obj (.deferred none))]) h2) (hB.trans (dG _ _))
end
section
variable {r:Option Nat} {P:Program} {N:Nat} {D:List Deferred} {F:HL} {w0:World} {R:HL} {s:Cfg} {Q:Exit -> Act -> World -> Prop}
variable {α:Type} {e:Enc α} {T:TypeId} {inf:TypeInfo} {z:Value}
def uZ (P:Program) (N j:Nat) (oo:Option Oper) (s:Cfg):Option (Option Addr × Nat × Nat × TypeId × Option Addr × Nat × Nat × TypeId × HL):=match oo with
 | some o=>match HM P o s.L,s.Ts[j]?,([j]++oth [j] s.Ts.length).isPerm (List.range s.Ts.length) && (eS N o.dst undef s.L).isSome with
  | some (A,n,cap,T,B,m,c',tx),some Hl,true=>some (A,n,cap,T,B,m,c',tx,Hl)
  | _,_,_=>none
 | none=>none
theorem mj {j:Nat} {oo:Option Oper} {A:Option Addr} {n cap m c':Nat} {B:Option Addr} {tx:TypeId} {Hl:HL} (h:uZ P N j oo s=some (A,n,cap,T,B,m,c',tx,Hl)) :
  ∃ o a1 a2 t e',oo=some o /\ o.guard=none /\ o.op=.call { callee:=.builtin .append,args:=#[a1,a2],argTypes:=#[t,tx] } /\ (lM s.L a1 && lM s.L a2)=true /\ iT s.L a1=.slice A n cap /\ iT s.L a2=.slice B m c' /\ P.underlying t=some (.slice T) /\ P.underlying tx=some (.slice e') /\
   s.Ts[j]?=some Hl /\ ([j]++oth [j] s.Ts.length).isPerm (List.range s.Ts.length)=true /\ (eS N o.dst undef s.L).isSome=true:=by
 unfold uZ at h
 split at h
 case h_2=>cases h
 rename_i o
 split at h
 case h_2=>cases h
 rename_i A' n' cap' T' B' m' c2 tx' Hl' h1 h3 h4
 simp only [Option.some.injEq,Prod.mk.injEq] at h
 obtain ⟨e1,e2,e3,e4,e5,e6,e7,e8,e9⟩:=h
 subst e1;subst e2;subst e3;subst e4;subst e5;subst e6;subst e7;subst e8;subst e9
 obtain ⟨a1,a2,t,e',q1,q2,q3,q4,q5,q6,q7⟩:=se h1
 rw [Bool.and_eq_true] at h4
 exact ⟨o,a1,a2,t,e',rfl,q1,q2,q3,q4,q5,q6,q7,h3,h4.1,h4.2⟩
end
inductive RowL {α:Type} (e:Enc α) (T:TypeId) (F:HL):Option Addr -> Nat -> List α -> Prop
 | zero (A:Option Addr):RowL e T F A 0 []
 | rows (q o N:Nat) (full:List α) (fz:Nat × Nat) (n:Nat) (xs:List α) (hq:(q,.rows e.w N (bn e full) T fz) ∈ F) (ho:o+n <= N) (hn:xs.length=n) (hx:∀ k,k < n -> full.getD (o+k) e.dflt=xs.getD k e.dflt):RowL e T F (some ⟨q,o * e.w,none⟩) n xs
section
variable {α:Type} {e:Enc α} {T:TypeId} {F:HL} {A:Option Addr} {n:Nat} {xs:List α}
theorem RowL.mono {F':HL} (h:RowL e T F A n xs) (hs:∀ x ∈ F,x ∈ F'):RowL e T F' A n xs:=by
 cases h with
 | zero=>exact .zero _
 | rows q o N full fz n xs hq ho hn hx=>exact .rows q o N full fz n xs (hs _ hq) ho hn hx
theorem RowL.up {X:HL} (h:RowL e T F A n xs):RowL e T (X++F) A n xs:=h.mono λ x hx=>List.mem_append_right _ hx
theorem RowL.len (h:RowL e T F A n xs):xs.length=n:=by
 cases h with
 | zero=>rfl
 | rows q o N full fz n xs hq ho hn hx=>exact hn
theorem RowL.at (h:RowL e T F A n xs) {k:Nat} (hk:k < n):∃ q o N full fz,A=some ⟨q,o * e.w,none⟩ /\ (q,.rows e.w N (bn e full) T fz) ∈ F /\ o+k < N /\ full.getD (o+k) e.dflt=xs.getD k e.dflt:=by
 cases h with
 | zero=>omega
 | rows q o N full fz n xs hq ho hn hx=>exact ⟨q,o,N,full,fz,rfl,hq,by omega,hx k hk⟩
theorem RowL.whole {q N:Nat} {fz:Nat × Nat} (hq:(q,.rows e.w N (bn e xs) T fz) ∈ F) (h:xs.length <= N):RowL e T F (some ⟨q,0,none⟩) xs.length xs:=by
 have:=RowL.rows (e:=e) (T:=T) (F:=F) q 0 N xs fz xs.length xs hq (by omega) rfl (λ k hk=>by rw [Nat.zero_add])
 rwa [Nat.zero_mul] at this
end
section
variable {α:Type} {e:Enc α} {P:Program} {t tx ty T:TypeId} {inf:TypeInfo} {z:Value} {F:HL}
theorem jV (l:List α) (hw:0 < e.w):∀ {j:Nat},j < l.length * e.w -> (ay e l)[j]?=some (e.cell (l.getD (j / e.w) e.dflt) (j % e.w)):=by
 induction l with
 | nil=>intro j hj;simp at hj
 | cons x l ih =>
  intro j hj
  have hc:ay e (x :: l)=(List.range e.w).map (e.cell x)++ay e l:=by simp [ay]
  rw [hc]
  by_cases h:j < e.w
  ·rw [List.getElem?_append_left (by simpa using h),Nat.div_eq_of_lt h,Nat.mod_eq_of_lt h]
   simp [h]
  ·rw [List.getElem?_append_right (by simp;omega)]
   simp only [List.length_map,List.length_range]
   have h2:j=(j - e.w)+e.w:=by omega
   rw [ih (by simp only [List.length_cons,Nat.add_mul,Nat.one_mul] at hj;omega)]
   conv=>rhs;rw [h2,Nat.add_div_right _ hw,Nat.add_mod_right]
   rfl
theorem D1 (ok:EncOk e P T inf z) (hw:0 < e.w) {F:HL} {A:Option Addr} {n:Nat} {xs:List α} (hl:RowL e T F A n xs) {c:Nat} {e':TypeId} (hk:P.underlying tx=some (.slice e')) (X:HL) (w:World) (hR:Rel (X++F) w):Src P inf.size tx (.slice A n c) xs.length (ay e xs) w:=by
 cases hl with
 | zero =>
  cases A with
  | none=>exact Src.ofNil w hk c
  | some a=>exact Src.ofSlice w hk a 0 c [] (by simp) (λ j u h=>by simp at h) (λ u h=>by simp at h)
 | rows q o N full fz n xs hq ho hn hx =>
  subst hn
  refine Src.ofSlice w hk _ _ _ _ (by rw [aS,ok.size]) ?_ ?_
  ·intro j u hj
   have hjl:j < xs.length * e.w:=by rw [<- aS];exact (List.getElem?_eq_some_iff.1 hj).1
   rw [jV xs hw hjl] at hj
   have hd:j / e.w < xs.length:=Nat.div_lt_of_lt_mul (by rw [Nat.mul_comm];exact hjl)
   have hb:=hR.holds _ (List.mem_append_right X hq)
   rw [Addr.add_lit]
   have hj2:o * e.w+j=(o+j / e.w) * e.w+j % e.w:=by
    rw [Nat.add_mul,Nat.add_assoc,Nat.mul_comm (j / e.w) e.w,Nat.div_add_mod]
   rw [gX (i:=o+j / e.w) (k:=j % e.w) hb rfl rfl hj2 (by omega) (Nat.mod_lt _ hw)]
   rw [<- hj]
   show some (bn e full (o+j / e.w) (j % e.w))=_
   unfold bn
   rw [hx _ hd]
  ·intro u hu
   simp only [ay,List.mem_flatMap,List.mem_map] at hu
   obtain ⟨x,_,k,_,rfl⟩:=hu
   exact ok.one x k
def SrcIn (P:Program) (e:Enc α) (F:HL) (A:Option Addr) (n:Nat) (xs:List α):Prop :=
 (xs.length=n /\ (A=none -> n=0)) /\ ∀ {tx e':TypeId} (c:Nat),P.underlying tx=some (.slice e') -> ∀ X w,Rel (X++F) w -> Src P e.w tx (.slice A n c) xs.length (ay e xs) w
theorem SrcIn.mono {F F':HL} {A:Option Addr} {n:Nat} {xs:List α} (h:SrcIn P e F A n xs) (hs:∃ X,F'.Perm (X++F)):SrcIn P e F' A n xs:=by
 obtain ⟨X,hX⟩:=hs
 refine ⟨h.1,λ c hk Y w hR=>h.2 c hk (Y++X) w ?_⟩
 rw [List.append_assoc]
 exact hR.perm (List.Perm.append_left Y hX.symm)
theorem SrcIn.up {F X:HL} {A:Option Addr} {n:Nat} {xs:List α} (h:SrcIn P e F A n xs):SrcIn P e (X++F) A n xs:=h.mono ⟨X,List.Perm.refl _⟩
theorem SrcIn.none:SrcIn P e F Option.none 0 []:=⟨⟨rfl,λ _=>rfl⟩,λ c hk X w hR=>Src.ofNil w hk c⟩
theorem RowL.src (ok:EncOk e P T inf z) (hw:0 < e.w) {F:HL} {A:Option Addr} {n:Nat} {xs:List α} (hl:RowL e T F A n xs):SrcIn P e F A n xs:=by
 refine ⟨⟨hl.len,λ h=>?_⟩,λ c hk X w hR=>?_⟩
 ·subst h;cases hl;rfl
 ·have:=D1 (c:=c) ok hw hl hk X w hR
  rwa [ok.size] at this
theorem SrcIn.lit (ok:EncOk e P T inf z) {F:HL} {q:Nat} {xs:List α} {rest:List Value} {ty:TypeId} {fz:Nat × Nat} (hq:(q,.lit (ay e xs++rest) ty fz) ∈ F):SrcIn P e F (some ⟨q,0,Option.none⟩) xs.length xs:=by
 refine ⟨⟨rfl,λ h=>by cases h⟩,λ c hk X w hR=>Src.ofSlice w hk _ _ _ _ (by rw [aS]) ?_ ?_⟩
 ·intro j u hj
  have hb:=hR.holds _ (List.mem_append_right X hq)
  have hl:j < (ay e xs).length:=(List.getElem?_eq_some_iff.1 hj).1
  simp only [Blk.den] at hb
  rw [Addr.add_lit]
  simp [World.cell?,hb,List.getElem?_append_left hl,hj]
 ·intro u hu
  simp only [ay,List.mem_flatMap,List.mem_map] at hu
  obtain ⟨x,_,k,_,rfl⟩:=hu
  exact ok.one x k
def NewS (e:Enc α) (T:TypeId) (src:List α) (A A':Option Addr) (cap':Nat) (Hl':HL):Prop :=
 (src=[] /\ A'=A /\ cap'=0 /\ Hl'=[]) \/ ∃ b,A'=some ⟨b,0,none⟩ /\ Hl'=[(b,.rows e.w cap' (bn e src) T (0,0))] /\ src.length <= cap'
theorem NewS.rowL {src:List α} {A A':Option Addr} {cap':Nat} {Hl':HL} (h:NewS e T src A A' cap' Hl') {F:HL} (hF:∀ x ∈ Hl',x ∈ F):RowL e T F A' src.length src:=by
 rcases h with ⟨rfl,rfl,rfl,rfl⟩ | ⟨b,rfl,rfl,hc⟩
 ·exact .zero _
 ·exact RowL.whole (hF _ (List.mem_singleton.2 rfl)) hc
theorem jA (l:List α) (k:Nat):bn e (l++List.replicate k e.dflt)=bn e l:=by
 funext i j
 unfold bn
 congr 1
 rw [List.getD_eq_getElem?_getD,List.getD_eq_getElem?_getD]
 by_cases h:i < l.length
 ·rw [List.getElem?_append_left h]
 ·rw [List.getElem?_append_right (by omega),List.getElem?_replicate,List.getElem?_eq_none (by omega)]
  split <;> rfl
theorem xS (ok:EncOk e P T inf z) (ht:P.underlying t=some (.slice T)) {A:Option Addr} {G:HL} {w:World} (hA:∀ a,A=some a -> a.spot=none) (hR:Rel G w) (src:List α) (x:Value)
  (hs:Src P inf.size tx x src.length (ay e src) w) (hb:src.length <= 100000000) :
  ∃ A' cap' Hl' w',(Builtin.append_ #[t,tx] ty #[.slice A 0 0,x]).run P w=.ok (.slice A' src.length cap') w' /\ NewS e T src A A' cap' Hl' /\ Rel (Hl'++G) w' /\ Below 0 w w':=by
 rcases Nat.eq_zero_or_pos src.length with h0 | h0
 ·obtain rfl:src=[]:=List.eq_nil_of_length_eq_zero h0
  cases A with
  | none =>
   refine ⟨none,0,[],w,?_,.inl ⟨rfl,rfl,rfl,rfl⟩,hR,Below.refl _ _⟩
   have hc:(Builtin.firstCells inf.size 0 x).run P w=.ok #[] w:=hs.cells
   rcases hs.kind with ⟨e',hk⟩ | hk <;> simp [Builtin.append_,run_underlying ht,run_underlying hk,Go.sizeOf,typeInfo,ok.info,hs.len,hc]
  | some a =>
   obtain ⟨b,off,spot⟩:=a
   obtain rfl:spot=none:=hA _ rfl
   refine ⟨some ⟨b,off,none⟩,0,[],w,?_,.inl ⟨rfl,rfl,rfl,rfl⟩,hR,Below.refl _ _⟩
   have:=run_append_room_src (P:=P) w t tx ty T inf ht ok.info b off 0 0 x 0 (ay e ([]:List α)) hs (Nat.le_refl _) (λ j hj=>by simp [ay] at hj) (λ j hj=>by simp [ay] at hj)
   exact this
 ·have hby:=ok.bytes
  have hfit:Builtin.nextslicecap (0+src.length) 0 * inf.bytes <= 281474976710656:=by
   have h1:=kg (0+src.length) 0 (by omega)
   have h2:Builtin.nextslicecap (0+src.length) 0 * inf.bytes <= (2 * 100000000+192) * 1000:=Nat.mul_le_mul (by omega) hby
   omega
  have hold:(Builtin.firstCells inf.size 0 (.slice A 0 0)).run P w.drew=.ok ([]:List Value).toArray w.drew:=by
   cases A with
   | none=>exact run_firstCells_none w.drew inf.size 0 0 0
   | some a =>
    obtain ⟨b,off,spot⟩:=a
    obtain rfl:spot=none:=hA _ rfl
    exact run_firstCells_some w.drew inf.size 0 ⟨b,off,none⟩ 0 0 [] (by simp) (λ j u hj=>by simp at hj)
  have hrun:=run_append_grow_src (P:=P) w t tx ty T inf z ht ok.info ok.zero A 0 0 [] hold x src.length (ay e src) hs (by omega) (by omega) hfit
  have hge:=grownCap_ge w (0+src.length) 0 T
  generalize grownCap w (0+src.length) 0 T=nc at *
  rw [Nat.zero_add] at hrun hge
  refine ⟨_,nc,[(w.heap.size,.rows e.w nc (bn e src) T (0,0))],_,hrun,.inr ⟨_,rfl,rfl,hge⟩,?_,?_⟩
  ·have:=(Rel.cons (.rows e.w nc (bn e src) T (0,0)) (o:=.cells (([]++ay e src).toArray++Builtin.zeroCells z.cells (nc - src.length)) T (0,0)) ?_ (hR.world (w':=w.drew) rfl))
   ·exact this
   ·show Obj.cells _ _ _=_
    congr 1
    apply Array.ext'
    show bB _ _ _=_
    have hl:nc=(src++List.replicate (nc - src.length) e.dflt).length:=by simp;omega
    have h3:=kC e (src++List.replicate (nc - src.length) e.dflt)
    rw [<- hl,jA] at h3
    rw [h3,cu,List.nil_append,Array.toList_append,oK ok]
  ·exact ⟨rfl,rfl,rfl,by simp,λ k hk=>by omega⟩
end
section
variable {r:Option Nat} {P:Program} {N:Nat} {D:List Deferred} {F:HL} {w0:World} {R:HL} {s:Cfg} {Q:Exit -> Act -> World -> Prop}
variable {α:Type} {e:Enc α} {T:TypeId} {inf:TypeInfo} {z:Value}
theorem i3 (ok:EncOk e P T inf z) (src:List α) (j:Nat) {A:Option Addr} {B:Option Addr} {m c':Nat} {tx:TypeId} (hA:∀ a,A=some a -> a.spot=none) (hm:m=src.length) (hb:src.length <= 100000000)
  (hs:∀ e',P.underlying tx=some (.slice e') -> ∀ X w,Rel (X++F) w -> Src P inf.size tx (.slice B m c') src.length (ay e src) w)
  (hk:∀ (A':Option Addr) (cap':Nat) (Hl':HL),NewS e T src A A' cap' Hl' -> RN r P N D F w0 R (L5 j Hl' (fl N (.slice A' src.length cap') s)) Q)
  (h:uZ P N j (pi s) s=some (A,0,0,T,B,m,c',tx,([]:HL)):=by kernel_rfl):RN r P N D F w0 R s Q:=by
 obtain ⟨o,a1,a2,t,e',q0,q1,q2,q3,q4,q5,q6,q7,q9,q10,q11⟩:=mj h
 refine ⟨λ hR a w hF hRel hB=>?_⟩
 obtain ⟨c,k,L,Bs,Ts⟩:=s
 unfold pi at q0
 cases c with
 | code c=>cases q0
 | ex c=>cases q0
 | drw _ _=>cases q0
 | ops ops i =>
  simp only at q0 q3 q4 q5 q9 q10 q11 hF hRel
  have hdrop:ops.toList.drop i=o :: ops.toList.drop (i+1):=by
   have hlt:i < ops.toList.length:=(List.getElem?_eq_some_iff.1 q0).1
   rw [List.drop_eq_getElem_cons hlt,(List.getElem?_eq_some_iff.1 q0).2]
  show wpListIn _ _ _ _ _ _ _ _
  rw [hdrop,wpListIn,if_pos (by simp [Region.wanted,q1])]
  refine ⟨λ _ _=>trivial,?_⟩
  have hperm:=gY (A:=Bs) q9 q10
  have key:d7 P o a w λ u w'=>∃ y:Option Addr × Nat × HL,(u=.slice y.1 src.length y.2.1 /\ NewS e T src A y.1 y.2.1 y.2.2) /\ Rel ((y.2.2++(Bs++((oth [j] Ts.length).filterMap (Ts[·]?)).flatten))++F) w' /\ Below 0 w w':=by
   simp only [Bool.and_eq_true] at q3
   have e1:=(hF.eval q3.1).trans q4
   have e2:=(hF.eval q3.2).trans q5
   have hR':Rel ((Bs++((oth [j] Ts.length).filterMap (Ts[·]?)).flatten)++F) w:=by
    have:=hRel.perm (hperm.append_right F)
    exact this
   obtain ⟨A',cap',Hl',w',r1,r2,r3,r4⟩:=xS (ty:=o.type) ok q6 hA hR' src (.slice B m c') (hs e' q7 _ w hRel) hb
   unfold d7
   have hrun:(execOp a.eval o).run P w=.ok (.value (.slice A' src.length cap')) w':=by
    simp [execOp,q2,resolve,invoke,builtin,Sem.run_bind,e1,e2,r1]
   rw [hrun]
   exact ⟨(A',cap',Hl'),⟨rfl,r2⟩,by rw [List.append_assoc];exact r3,r4⟩
  refine fR (by rw [q2];intro c hc;cases hc) key ?_
  rintro u w' ⟨⟨A',cap',Hl'⟩,⟨rfl,hsl'⟩,hR',hB'⟩
  obtain ⟨L',p1⟩:=dY q11 (.slice A' src.length cap')
  have hh:=(hk A' cap' Hl' hsl').h hR
  have hpc:fl N (.slice A' src.length cap') ⟨.ops ops i,k,L,Bs,Ts⟩=⟨.ops ops (i+1),k,L',Bs,Ts⟩:=by
   unfold fl
   simp only [q0,p1]
  rw [hpc] at hh
  refine hh _ w' (hF.put p1) (hR'.perm (List.Perm.append_right F ?_)) (hB.trans hB')
  show (Bs++(Hl' :: (oth [j] Ts.length).filterMap (Ts[·]?)).flatten).Perm _
  rw [List.flatten_cons,<- List.append_assoc,<- List.append_assoc]
  exact List.Perm.append_right _ List.perm_append_comm
end
end Go.Proofs.YtobflkidpfkcaaaGreatDoor
