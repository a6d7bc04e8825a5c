import Derived.Test.YthoijjeddhfcnaaGreatDoorZ05
set_option maxHeartbeats 4000000
set_option maxRecDepth 100000
set_option linter.unusedSimpArgs false
set_option linter.unusedVariables false
namespace Go.Proofs.YthoijjeddhfcnaaGreatDoor
open IntKind
open Go.RowKit
section
variable {r:Option Nat} {P:Program} {N:Nat} {D:List Deferred} {F:HL} {w0:World} {R:HL} {s:Cfg} {Q:Exit -> Act -> World -> Prop} {hards:List Nat} {Rd:HL}
def OD(i:Nat)(b:Blk)(s:Cfg):Cfg:=match s with
 | ⟨c,k,L,A,Ts⟩=>⟨c,k,L,match A[i]? with|some x=>bD A i (x.1,b)|none=>A,Ts⟩
theorem rE{A:HL}{i:Nat}{x:Nat × Blk}{b:Blk}(h:A[i]?=some x)(e:x.2.den=b.den):gW A=gW (bD A i (x.1,b)):=by
 rw[mC]
 unfold gW
 rw[List.map_set]
 have h1:(A.map λ x=>(x.1,x.2.den))[i]?=some (x.1,b.den):=by rw[List.getElem?_map,h];simp[e]
 have iN:i<(A.map λ x=>(x.1,x.2.den)).length:=(List.getElem?_eq_some_iff.1 h1).1
 have h2:(x.1,b.den)=(A.map λ x=>(x.1,x.2.den))[i]:=((List.getElem?_eq_some_iff.1 h1).2).symm
 show _=(A.map λ x=>(x.1,x.2.den)).set i (x.1,b.den)
 rw[h2,List.set_getElem_self]
def OE(i:Nat)(s:Cfg):Option Obj:=(s.A[i]?).map (·.2.den)
theorem RN.dn(i:Nat)(b:Blk)(hk:RN r P N D F w0 R (OD i b s) Q)(h:OE i s=some b.den:=by kernel_rfl):RN r P N D F w0 R s Q:=by
 refine⟨λ hR a w h1 h2 h3=>hk.h hR a w h1 ?_ h3⟩
 obtain⟨c,k,L,A,Ts⟩:=s
 unfold OE at h
 simp only[Option.map_eq_some_iff] at h
 obtain⟨x,hx,e⟩:=h
 unfold OD
 simp only[hx]
 exact h2.denA (rE hx e)
def ptC(jp:List Nat)(s:Cfg):Cfg:=match s with
 | ⟨c,k,L,A,Ts⟩=>⟨c,k,L,A,jp.filterMap (Ts[·]?)⟩
theorem DG(jp:List Nat)(hk:RN r P N D F w0 R (ptC jp s) Q)(h:jp.isPerm (List.range s.Ts.length)=true:=by kernel_rfl):RN r P N D F w0 R s Q :=
 ⟨λ hR a w h1 h2 h3=>hk.h hR a w h1 (h2.perm ((Dj jp h rfl).append_right F)) h3⟩
def otC(j:Nat)(x:Nat × Blk)(s:Cfg):Cfg:=match s with
 | ⟨c,k,L,A,Ts⟩=>⟨c,k,L,x::A,(oth [j] Ts.length).filterMap (Ts[·]?)⟩
theorem DH(j:Nat){x:Nat × Blk}(hk:RN r P N D F w0 R (otC j x s) Q)(h:(s.Ts[j]?,([j]++oth [j] s.Ts.length).isPerm (List.range s.Ts.length))=(some [x],true):=by kernel_rfl):RN r P N D F w0 R s Q:=by
 simp only[Prod.mk.injEq] at h
 exact⟨λ hR a w h1 h2 h3=>hk.h hR a w h1 (h2.perm ((xu _ j h.2 h.1 rfl).append_right F)) h3⟩
def jtC(s:Cfg):Cfg:=match s with
 | ⟨c,k,L,A,T1::T2::Ts⟩=>⟨c,k,L,A,(T1++T2)::Ts⟩
 | s=>s
theorem JV(hk:RN r P N D F w0 R (jtC s) Q):RN r P N D F w0 R s Q:=by
 refine⟨λ hR a w h1 h2 h3=>?_⟩
 have h4:=hk.h hR a w
 unfold jtC at h4
 split at h4
 ·exact h4 h1 (by simpa [ap] using h2) h3
 ·exact h4 h1 h2 h3
def ntC(s:Cfg):Cfg:=match s with
 | ⟨c,k,L,A,Ts⟩=>⟨c,k,L,A,[]::Ts⟩
theorem RN.nt(hk:RN r P N D F w0 R (ntC s) Q):RN r P N D F w0 R s Q:=⟨λ hR a w h1 h2 h3=>hk.h hR a w h1 h2 h3⟩
def svC(t:Nat)(v:Value)(s:Cfg):Cfg:=match s with
 | ⟨c,k,L,A,Ts⟩=>⟨c,k,(t,v)::L,A,Ts⟩
theorem bZ(t:Nat){u v:Value}(e:u=v)(hk:RN r P N D F w0 R (svC t v s) Q)(h:s.L.lookup t=some u:=by kernel_rfl):RN r P N D F w0 R s Q:=by
 subst e
 exact⟨λ hR a w h1 h2 h3=>hk.h hR a w (h1.fix h) h2 h3⟩
def bvC(i:Nat)(b:Blk)(s:Cfg):Cfg:=match s with
 | ⟨c,k,L,A,Ts⟩=>⟨c,k,L,match A[i]? with|some x=>bD A i (x.1,b)|none=>A,Ts⟩
theorem fS(i:Nat){b b':Blk}(e:b=b')(hk:RN r P N D F w0 R (bvC i b' s) Q)(h:(s.A[i]?).map (·.2)=some b:=by kernel_rfl):RN r P N D F w0 R s Q:=by
 subst e
 refine⟨λ hR a w h1 h2 h3=>hk.h hR a w h1 ?_ h3⟩
 obtain⟨c,k,L,A,Ts⟩:=s
 simp only[Option.map_eq_some_iff] at h
 obtain⟨x,hx,e⟩:=h
 unfold bvC
 simp only[hx]
 refine h2.denA (rE hx (by rw[e]))
variable {α:Type} {e:Enc α} {T:TypeId} {inf:TypeInfo} {z:Value}
def HI(P:Program)(o:Oper)(L:FL):Option (Option Addr × Nat × Nat × TypeId × Option Addr × Nat × Nat × TypeId):=match o.guard,o.op with
 | none,.call c=>match c.callee,c.args.toList,c.argTypes.toList with
  | .builtin .append,[a1,a2],[t,tx]=>match nX L a1 && nX L a2,jJ L a1,jJ L a2 with
   | true,.slice A n cap,.slice B m c'=>match P.underlying t,P.underlying tx with
    | some (.slice T),some (.slice _)=>some (A,n,cap,T,B,m,c',tx)
    | _,_=>none
   | _,_,_=>none
  | _,_,_=>none
 | _,_=>none
theorem rF{o:Oper}{L:FL}{A:Option Addr}{n cap:Nat}{B:Option Addr}{m c':Nat}{tx:TypeId}(h:HI P o L=some (A,n,cap,T,B,m,c',tx)) :
  ∃a1 a2 t e',o.guard=none /\ o.op=.call { callee:=.builtin .append,args:=#[a1,a2],argTypes:=#[t,tx] } /\ (nX L a1 && nX L a2)=true /\ jJ L a1=.slice A n cap /\ jJ L a2=.slice B m c' /\ P.underlying t=some (.slice T) /\ P.underlying tx=some (.slice e'):=by
 unfold HI at h
 split at h
 case h_2=>cases h
 rename_i c hg t_
 split at h
 case h_2=>cases h
 rename_i a1 a2 t tx' h1 h2 h3
 split at h
 case h_2=>cases h
 rename_i A' n' g_ B' m' c2 h4 h5 h6
 split at h
 case h_2=>cases h
 rename_i T' e' h7 h8
 simp only[Option.some.injEq,Prod.mk.injEq] at h
 obtain⟨e1,e2,e3,e4,e5,e6,e7,e8⟩:=h
 subst e1;subst e2;subst e3;subst e4;subst e5;subst e6;subst e7;subst e8
 refine⟨a1,a2,t,e',hg,?_,h4,h5,h6,h7,h8⟩
 obtain⟨cal,args,ats⟩:=c
 simp only at h1 h2 h3
 subst h1
 have:args=#[a1,a2]:=by cases args;simp_all
 subst this
 have:ats=#[t,tx']:=by cases ats;simp_all
 subst this
 exact t_
def Bn(s:Cfg):Option Oper:=match s.c with
 | .ops ops i=>ops.toList[i]?
 | _=>none
def JW(i:Nat)(s:Cfg):Option Oper:=match s.c with
 | .drw ops _=>ops.toList[i]?
 | _=>none
def KC(p:Nat)(s:Cfg):Option (Nat × List Value):=match s.A[p]? with
 | some (b,.lit cs _ _)=>some (b,cs)
 | _=>none
def HJ(P:Program)(N j p:Nat)(oo:Option Oper)(s:Cfg):Option (Option Addr × Nat × Nat × TypeId × Nat × List Value × HL × Nat):=match oo with
 | some o=>match HI P o s.L,KC p s,s.Ts[j]?,([j]++oth [j] s.Ts.length).isPerm (List.range s.Ts.length) && (fG N o.dst undef s.L).isSome with
  | some (A,n,cap,T,some ⟨b,0,none⟩,m,_,_),some (_,cs),some Hl,true=>some (A,n,cap,T,m,cs,Hl,b)
  | _,_,_,_=>none
 | none=>none
def HK(p:Nat)(s:Cfg):Nat:=match KC p s with
 | some (b,_)=>b
 | none=>0
theorem rG{j p:Nat}{oo:Option Oper}{A:Option Addr}{n cap m:Nat}{cs:List Value}{Hl:HL}(h:HJ P N j p oo s=some (A,n,cap,T,m,cs,Hl,HK p s)) :
  ∃o a1 a2 t tx e' c' b ty fz,oo=some o /\ o.guard=none /\ o.op=.call { callee:=.builtin .append,args:=#[a1,a2],argTypes:=#[t,tx] } /\ (nX s.L a1 && nX s.L a2)=true /\ jJ s.L a1=.slice A n cap /\ jJ s.L a2=.slice (some ⟨b,0,none⟩) m c' /\ P.underlying t=some (.slice T) /\ P.underlying tx=some (.slice e') /\
   s.A[p]?=some (b,.lit cs ty fz) /\ s.Ts[j]?=some Hl /\ ([j]++oth [j] s.Ts.length).isPerm (List.range s.Ts.length)=true /\ (fG N o.dst undef s.L).isSome=true:=by
 unfold HJ at h
 split at h
 case h_2=>cases h
 rename_i o
 split at h
 case h_2=>cases h
 rename_i A' n' g_ T' b m' c' tx b' cs' K_ h1 h2 h3 h4
 simp only[Option.some.injEq,Prod.mk.injEq] at h
 obtain⟨e1,e2,e3,e4,e5,e6,e7,e8⟩:=h
 subst e1;subst e2;subst e3;subst e4;subst e5;subst e6;subst e7
 obtain⟨a1,a2,t,e',q1,q2,q3,q4,q5,q6,q7⟩:=rF h1
 rw[Bool.and_eq_true] at h4
 unfold HK at e8
 rw[h2] at e8
 simp only at e8
 subst e8
 unfold KC at h2
 split at h2
 case h_2=>cases h2
 rename_i b2 cs2 ty fz h5
 simp only[Option.some.injEq,Prod.mk.injEq] at h2
 obtain⟨e1,e2⟩:=h2
 subst e1;subst e2
 exact⟨o,a1,a2,t,tx,e',c',_,ty,fz,rfl,q1,q2,q3,q4,q5,q6,q7,h5,h3,h4.1,h4.2⟩
def Oc(j:Nat)(Hl:HL)(s:Cfg):Cfg:=match s with
 | ⟨c,k,L,A,Ts⟩=>⟨c,k,L,A,Hl::(oth [j] Ts.length).filterMap (Ts[·]?)⟩
theorem k9{A:HL}{Ts:List HL}{Hl:HL}{j:Nat}(hj:Ts[j]?=some Hl)(hp:([j]++oth [j] Ts.length).isPerm (List.range Ts.length)=true):(Hl++(A++((oth [j] Ts.length).filterMap (Ts[·]?)).flatten)).Perm (ap A Ts):=by
 have h3:=fU Ts [j] _ hp
 simp only[List.filterMap_cons,hj,List.filterMap_nil] at h3
 have h4:=h3.flatten
 simp only[List.cons_append,List.nil_append,List.flatten_cons] at h4
 refine List.Perm.trans ?_ (List.Perm.append_left A h4)
 rw[<- List.append_assoc,<- List.append_assoc]
 exact List.Perm.append_right _ List.perm_append_comm
theorem kC(ok:EncOk e P T inf z)(l src:List α)(j p:Nat){A:Option Addr}{n cap:Nat}{Hl:HL}(hn:n=l.length)(Tl:SlIs e T l A cap Hl)(hb:l.length+src.length <= 100000000)
  (hk:∀ (A':Option Addr) (g_:Nat) (K_:HL),(SlIs e T (l++src) A' g_ K_ /\ (dV A -> dV A')) -> RN r P N D F w0 R (Oc j K_ (iB N (.slice A' (n+src.length) g_) s)) Q)
  (h:HJ P N j p (Bn s) s=some (A,n,cap,T,src.length,aE e src,Hl,HK p s):=by kernel_rfl):RN r P N D F w0 R s Q:=by
 obtain⟨o,a1,a2,t,tx,e',c',b,ty,fz,q0,q1,q2,q3,q4,q5,q6,q7,q8,q9,Q8,UB⟩:=rG h
 refine⟨λ hR a w hF bY hB=>?_⟩
 obtain⟨c,k,L,B,Ts⟩:=s
 unfold Bn at q0
 cases c with
 | code c=>cases q0
 | ex c=>cases q0
 | drw _ _=>cases q0
 | ops ops i =>
  simp only at q0 q3 q4 q5 q8 q9 Q8 UB hF bY
  have PH:ops.toList.drop i=o::ops.toList.drop (i+1):=by
   have iN:i<ops.toList.length:=(List.getElem?_eq_some_iff.1 q0).1
   rw[List.drop_eq_getElem_cons iN,(List.getElem?_eq_some_iff.1 q0).2]
  show wpListIn _ _ _ _ _ _ _ _
  rw[PH,wpListIn,if_pos (by simp[Region.wanted,q1])]
  refine⟨λ _ _=>trivial,?_⟩
  have BY:=k9 (A:=B) q9 Q8
  refine lZ (by rw[q2];intro c hc;cases hc) (rx (x:=vS b 0 src.length c') (src:=src) (G:=B++((oth [j] Ts.length).filterMap (Ts[·]?)).flatten) ok q2 q6 q3 q4 hn q5 BY Tl (λ w hw=>zo ok q7 p (by rw[List.getElem?_append_left (List.getElem?_eq_some_iff.1 q8).1];exact q8) hw) hb a hF w bY) ?_
  rintro u w' ⟨⟨A',g_,K_⟩,⟨rfl,Vq⟩,Py,Us⟩
  obtain⟨L',p1⟩:=fW UB (.slice A' (n+src.length) g_)
  have hh:=(hk A' g_ K_ Vq).h hR
  have Rt:iB N (.slice A' (n+src.length) g_) ⟨.ops ops i,k,L,B,Ts⟩=⟨.ops ops (i+1),k,L',B,Ts⟩:=by
   unfold iB
   simp only[q0,p1]
  rw[Rt] at hh
  refine hh _ w' (hF.put p1) (Py.perm (List.Perm.append_right F ?_)) (hB.trans Us)
  show (B++(K_::(oth [j] Ts.length).filterMap (Ts[·]?)).flatten).Perm _
  rw[List.flatten_cons,<- List.append_assoc,<- List.append_assoc]
  exact List.Perm.append_right _ List.perm_append_comm
theorem HM{i:Nat}(ix:List Nat)(ok:EncOk e P T inf z)(l src:List α)(j p:Nat){A:Option Addr}{n cap:Nat}{Hl:HL}(hn:n=l.length)(Tl:SlIs e T l A cap Hl)(hb:l.length+src.length <= 100000000)
  (hk:∀ (A':Option Addr) (g_:Nat) (K_:HL),(SlIs e T (l++src) A' g_ K_ /\ (dV A -> dV A')) -> RD r P N D F w0 R hards Rd (Oc j K_ (HE N i (.slice A' (n+src.length) g_) s)) Q)
  (h:HJ P N j p (JW i s) s=some (A,n,cap,T,src.length,aE e src,Hl,HK p s):=by kernel_rfl) (hx:(hards.contains i,Be ix s)=(true,Rd):=by kernel_rfl):RDO r P N D F w0 R hards Rd i s Q:=by
 obtain⟨o,a1,a2,t,tx,e',c',b,ty,fz,q0,q1,q2,q3,q4,q5,q6,q7,q8,q9,Q8,UB⟩:=rG h
 obtain⟨c,k,L,B,Ts⟩:=s
 unfold JW at q0
 simp only[Prod.mk.injEq] at hx
 cases c with
 | code c=>cases q0
 | ex c=>cases q0
 | ops _ _=>cases q0
 | drw ops li =>
  refine⟨λ hR=>?_⟩
  simp only at q0 q3 q4 q5 q8 q9 Q8 UB
  have BY:=k9 (A:=B) q9 Q8
  have Rt:∀v L',fG N o.dst v L=some L' -> HE N i v ⟨.drw ops li,k,L,B,Ts⟩=⟨.drw ops (bD li i true),k,L',B,Ts⟩:=by
   intro v L' hl
   unfold HE
   simp only[q0,hl]
  refine(uC (Q:=Q) (by simpa using q0) (σ:=Option Addr × Nat × HL) (λ u y=>u=.slice y.1 (n+src.length) y.2.1 /\ (SlIs e T (l++src) y.1 y.2.1 y.2.2 /\ (dV A -> dV y.1))) (λ y=>ap B (y.2.2::(oth [j] Ts.length).filterMap (Ts[·]?))) UB (λ a hF=>⟨by simp[Region.wanted,q1],λ w bY hB=>?_⟩) (λ y=>⟨λ hi=>?_,λ hi x hm=>List.mem_append_left _ (ux ix hx.2 x hm)⟩) ?_:RDO r P N D F w0 R hards Rd i ⟨.drw ops li,k,L,B,Ts⟩ Q).h hR
  ·refine fV (rx (x:=vS b 0 src.length c') (src:=src) (G:=B++((oth [j] Ts.length).filterMap (Ts[·]?)).flatten) ok q2 q6 q3 q4 hn q5 BY Tl (λ w hw=>zo ok q7 p (by rw[List.getElem?_append_left (List.getElem?_eq_some_iff.1 q8).1];exact q8) hw) hb a hF w bY) ?_
   rintro u w' ⟨y,h3,Py,Us⟩
   refine⟨y,h3,Py.perm (List.Perm.append_right F ?_),Us⟩
   show (B++(y.2.2::(oth [j] Ts.length).filterMap (Ts[·]?)).flatten).Perm _
   rw[List.flatten_cons,<- List.append_assoc,<- List.append_assoc]
   exact List.Perm.append_right _ List.perm_append_comm
  ·exact absurd (List.contains_iff_mem.1 hx.1) hi
  ·rintro u ⟨A',g_,K_⟩ ⟨rfl,h3⟩ L' hl hs
   have h1:=(hk A' g_ K_ h3).h hR
   rw[Rt _ L' hl] at h1
   exact h1 hs
end
structure MemS where
 cs:List Int
 lg:List (Int × Int)
 base:Int
def MemS.get(M:MemS)(i:Int):Int:=if 0 <= i /\ i<M.cs.length then M.cs.getD i.toNat 0 else 0
def MemS.set(M:MemS)(i v:Int):MemS:=if 0 <= i /\ i<M.cs.length then ⟨M.cs.set i.toNat v,M.lg++[(i,M.cs.getD i.toNat 0)],M.base⟩ else M
def bk(cs:List Int):Nat -> Nat -> Value:=λ i k=>match k with|0=>vI (cs.getD i 0)|_=>default
theorem eV{cs:List Int}{i:Nat}(h:i<cs.length)(v:Int):cM (bk cs) i 0 (vI v)=bk (cs.set i v):=by
 funext i' k'
 unfold cM bk
 by_cases h1:i'=i
 ·subst h1
  rcases k' with _|k'
  ·simp[h]
  ·simp
 ·rcases k' with _|k'
  ·have:¬ i=i':=λ e=>h1 e.symm
   simp[h1,List.getElem?_set,this]
  ·simp
def xy:Enc (Int × Int):=⟨2,λ p k=>match k with|0=>vI p.1|_=>vI p.2,(0,0)⟩
noncomputable def JX:TypeInfo:=match Tryz.prog.info? 148 with | some i=>i | none=>⟨.bool,"",0,0,false,0,0,none,false,#[]⟩
noncomputable def JY:Value:=match JX.zero with|some z=>z|none=>.bool false
theorem KD:EncOk xy Tryz.prog 148 JX JY where
 info:=by kernel_rfl
 zero:=by kernel_rfl
 size:=by kernel_rfl
 zsize:=by kernel_rfl
 zcell:=λ k hk=>by
  have h:∀k<2,JY.cells[k]?=some (xy.cell xy.dflt k):=by intro k hk;(iterate 2 (rcases k with _|k;· kernel_rfl));omega
  exact h k hk
 one:=λ x k=>by unfold xy;dsimp only;split <;> rfl
 bytes:=Nat.le_of_ble_eq_true (by kernel_rfl)
inductive MemH(mb:Nat)(M:MemS)(k:Nat):HL -> Prop
 | mk (cb:Nat) (A:Option Addr) (cap:Nat) (Hl:HL) (hs:SlIs xy 148 M.lg A cap Hl) (hc:M.cs.length <= 1000000) (hl:M.lg.length+k <= 100000000):MemH mb M k (ap [(mb,.lit [vS cb 0 M.cs.length M.cs.length,.slice A M.lg.length cap,vI M.base] 89 (0,0)),(cb,.rows 1 M.cs.length (bk M.cs) 3 (0,0))] [Hl])
theorem MemH.weak{mb:Nat}{M:MemS}{k k':Nat}{T:HL}(h:MemH mb M k T)(hk:k' <= k):MemH mb M k' T:=by
 cases h with
 | mk cb A cap Hl hs hc hl=>exact .mk cb A cap Hl hs hc (by omega)
theorem MemH.cast{mb:Nat}{M M':MemS}{k k':Nat}{T:HL}(h:MemH mb M k T)(e:M'=M)(hk:k' <= k):MemH mb M' k' T:=e ▸ h.weak hk
theorem MemH.put{mb:Nat}{M:MemS}{k:Nat}{i v:Int}{cb:Nat}{A:Option Addr}{cap:Nat}{Hl:HL}(h:0 <= i /\ i<M.cs.length)(hc:M.cs.length <= 1000000)(hl:M.lg.length+(k+1) <= 100000000)(hs:SlIs xy 148 (M.lg++[(i,M.cs.getD i.toNat 0)]) A cap Hl) :
  MemH mb (M.set i v) k (ap [(mb,.lit [vS cb 0 M.cs.length M.cs.length,.slice A (M.lg.length+[(i,M.cs.getD i.toNat 0)].length) cap,vI M.base] 89 (0,0)),(cb,.rows 1 M.cs.length (cM (bk M.cs) i.toNat 0 (vI v)) 3 (0,0))] [Hl]):=by
 have e:M.set i v=⟨M.cs.set i.toNat v,M.lg++[(i,M.cs.getD i.toNat 0)],M.base⟩:=by unfold MemS.set;rw[if_pos h]
 rw[e,eV (by omega)]
 have:=MemH.mk (M:=⟨M.cs.set i.toNat v,M.lg++[(i,M.cs.getD i.toNat 0)],M.base⟩) (k:=k) cb A cap Hl hs (by simpa using hc) (by simp;omega) (mb:=mb)
 simpa using this
theorem zu(mb cb n:Nat)(A:Option Addr)(m cap:Nat)(base i:Int)(F:HL)(hm:(mb,.lit [vS cb 0 n n,.slice A m cap,vI base] 89 (0,0))∈F):Sp Tryz.prog 65 #[vP mb 0,vI i] [] F (λ u H'=>u=.bool (decide (0 <= i /\ i<n)) /\ H'=[]):=by
 refine Sp.run Tryz.func65 rfl (mc hm mn) (A:=[]) (Ts:=[]) rfl λ w0=>?_
 refine aa 10 [] λ _=>RN.em (0 <= i) 7 (λ h1=>?_) λ h1=>?_
 ·refine aa 11 [.ro 0] λ _=>RN.ret [] [] [] (v:=.bool (decide (i<(n:Int)))) (H':=[]) ?_
  exact⟨by simp[*],rfl⟩
 ·refine aa 11 [] λ _=>RN.ret [] [] [] (v:=.bool false) (H':=[]) ?_
  exact⟨by simp[*],rfl⟩
theorem HN(mb cb:Nat)(cs:List Int)(A:Option Addr)(m cap:Nat)(base i:Int)(lg:List (Int × Int))(F:HL)(hm:(mb,.lit [vS cb 0 cs.length cs.length,.slice A m cap,vI base] 89 (0,0))∈F)(hc:(cb,.rows 1 cs.length (bk cs) 3 (0,0))∈F)(hn:cs.length <= 1000000):Sp Tryz.prog 40 #[vP mb 0,vI i] [] F (λ u H'=>u=vI (MemS.get ⟨cs,lg,base⟩ i) /\ H'=[]):=by
 refine Sp.run Tryz.func40 rfl (mc hm (mc hc mn)) (A:=[]) (Ts:=[]) rfl λ w0=>?_
 refine aa 10 [] λ _=>al (zu mb cb cs.length A m cap base i _ (bK hm))<|aa 3 [] λ _=>RN.en (0 <= i /\ i<cs.length) 8 (λ h1=>?_) λ h1=>?_
 ·refine aq 15 [.ro 0,.ix ((i).toNat),.rorow 1 ((i).toNat) 0] [(0+((i).toNat)*1)=((i).toNat)*1+0 /\ ((i).toNat)<cs.length,i=(((i).toNat:Nat):Int) /\ (i).toNat<cs.length] λ _=>RN.ret [] [] [] (v:=vI (cs.getD ((i).toNat) 0)) (H':=[]) ?_
  exact⟨by simp[MemS.get, *],rfl⟩
 ·refine aa 6 [] λ _=>RN.ret [] [] [] (v:=vI 0) (H':=[]) ?_
  exact⟨by simp[MemS.get, *],rfl⟩
theorem aB{mb:Nat}{M:MemS}{k:Nat}{T:HL}(i:Int){F:HL}(h:MemH mb M k T)(hs:∀x∈T,x∈F):Sp Tryz.prog 40 #[vP mb 0,vI i] [] F (λ u H'=>u=vI (M.get i) /\ H'=[]):=by
 cases h with
 | mk cb A cap Hl Tl hc hl=>exact HN mb cb M.cs A M.lg.length cap M.base i M.lg F (hs _ (by simp)) (hs _ (by simp)) hc
theorem iO{mb:Nat}{M:MemS}{k:Nat}{T:HL}(i:Int){c:Int}(e:M.get i=c){F:HL}(h:MemH mb M k T)(hs:∀x∈T,x∈F):Sp Tryz.prog 40 #[vP mb 0,vI i] [] F (λ u H'=>u=vI c /\ H'=[]):=e ▸ aB i h hs
theorem HO(mb cb:Nat)(M:MemS)(k:Nat)(A:Option Addr)(cap:Nat)(i v:Int)(Hl:HL)(F:HL)(hs:SlIs xy 148 M.lg A cap Hl)(hc:M.cs.length <= 1000000)(hl:M.lg.length+(k+1) <= 100000000):Sp Tryz.prog 100 #[vP mb 0,vI i,vI v] (ap [(mb,.lit [vS cb 0 M.cs.length M.cs.length,.slice A M.lg.length cap,vI M.base] 89 (0,0)),(cb,.rows 1 M.cs.length (bk M.cs) 3 (0,0))] [Hl]) F (λ u H'=>MemH mb (M.set i v) k H'):=by
 refine Sp.run Tryz.func100 rfl mn (A:=[(mb,.lit [vS cb 0 M.cs.length M.cs.length,.slice A M.lg.length cap,vI M.base] 89 (0,0)),(cb,.rows 1 M.cs.length (bk M.cs) 3 (0,0))]) (Ts:=[Hl]) rfl λ w0=>?_
 refine aa 5 [] λ _=>al (zu mb cb M.cs.length A M.lg.length cap M.base i _ (aC 0))<|aa 3 [] λ _=>RN.en (0 <= i /\ i<M.cs.length) 9 (λ h1=>?_) λ h1=>?_
 ·refine aa 4 [] λ _=>RN.draw [15,18] []<|aL [] [0,1,5,6,10,2,7,3,8,4,9,11,12,13] [.own 0,.own 0,.ix ((i).toNat),.row 1 ((i).toNat) 0] [(0+((i).toNat)*1)=((i).toNat)*1+0 /\ ((i).toNat)<M.cs.length,i=(((i).toNat:Nat):Int) /\ (i).toNat<M.cs.length]<|RD.one 14 (RDO.ev [] [] λ n3=>?_)
  refine RD.one 15 (HM [] KD M.lg [(i,M.cs.getD i.toNat 0)] 0 0 rfl hs (by simp;omega) ?_)
  rintro A4 c5 T6 ⟨hs7,hz8⟩
  refine af [] [16,17] []<|RD.one 18 (RDO.ev [] [.own 1] λ _=>?_)
  refine RD.fin<|aq 11 [.own 1,.ix ((i).toNat),.row 2 ((i).toNat) 0] [(0+((i).toNat)*1)=((i).toNat)*1+0 /\ ((i).toNat)<M.cs.length,i=(((i).toNat:Nat):Int) /\ (i).toNat<M.cs.length] λ _=>RN.ret [] [1,2] [0] (v:=.tuple #[]) (H':=(ap [(mb,.lit [vS cb 0 M.cs.length M.cs.length,.slice A4 (M.lg.length+([(i,M.cs.getD i.toNat 0)]).length) c5,vI M.base] 89 (0,0)),(cb,.rows 1 M.cs.length (cM (bk M.cs) ((i).toNat) 0 (vI v)) 3 (0,0))] [T6])) ?_
  exact MemH.put (by omega) hc (by omega) hs7
 ·refine aa 1 [] λ _=>RN.ret [] [0,1] [0] (v:=.tuple #[]) (H':=(ap [(mb,.lit [vS cb 0 M.cs.length M.cs.length,.slice A M.lg.length cap,vI M.base] 89 (0,0)),(cb,.rows 1 M.cs.length (bk M.cs) 3 (0,0))] [Hl])) ?_
  have e:M.set i v=M:=by unfold MemS.set;rw[if_neg (by assumption)]
  rw[e]
  exact .mk cb A cap Hl hs hc (by omega)
theorem ak{mb:Nat}{M:MemS}{k:Nat}{T:HL}(i v:Int){F:HL}(h:MemH mb M (k+1) T):Sp Tryz.prog 100 #[vP mb 0,vI i,vI v] (ap [] [T]) F (λ u H'=>∃x,H'=ap ((λ _=>[]) x) ((λ x=>[x]) x) /\ MemH mb (M.set i v) k x):=by
 cases h with
 | mk cb A cap Hl Tl hc hl =>
  have e:∀T:HL,ap [] [T]=T:=λ T=>by simp
  have:=HO mb cb M k A cap i v Hl F Tl hc hl
  rw[e]
  exact this.mono λ u H' h=>⟨H',(e H').symm,h⟩
structure Bod where (sh:Shp) (mot:Mot) (a b:Int)
abbrev dB:Bod:=⟨⟨0,[],none,0⟩,⟨0,0,0,0,0⟩,0,0⟩
def jM:Enc Bod:=⟨9,λ p k=>match k with|0=>vI p.sh.r|1=>.slice p.sh.A p.sh.poly.length p.sh.cap|2=>vI p.mot.px|3=>vI p.mot.py|4=>vI p.mot.vx|5=>vI p.mot.vy|6=>vI p.mot.inv|7=>vI p.a|_=>vI p.b,dB⟩
noncomputable def JZ:TypeInfo:=match Tryz.prog.info? 73 with | some i=>i | none=>⟨.bool,"",0,0,false,0,0,none,false,#[]⟩
noncomputable def J0:Value:=match JZ.zero with|some z=>z|none=>.bool false
theorem xz:EncOk jM Tryz.prog 73 JZ J0 where
 info:=by kernel_rfl
 zero:=by kernel_rfl
 size:=by kernel_rfl
 zsize:=by kernel_rfl
 zcell:=λ k hk=>by
  have h:∀k<9,J0.cells[k]?=some (jM.cell jM.dflt k):=by intro k hk;(iterate 9 (rcases k with _|k;· kernel_rfl));omega
  exact h k hk
 one:=λ x k=>by unfold jM;dsimp only;split <;> rfl
 bytes:=Nat.le_of_ble_eq_true (by kernel_rfl)
abbrev ge(l:List Bod):Nat -> Nat -> Value:=aD jM l
structure Setup where
 players:Int
 bb:Nat
 bo:Nat
 nb:Nat
 bc:Nat
 bR:Nat
 bods:List Bod
 box:Bx
 rA:Option Addr
 rn:Nat
 rc:Nat
 dA:Option Addr
 dn:Nat
 dc:Nat
 fog:Int
 g:V2
 push:Int
 drag:Int
 rest:Int
 rounds:Int
 fuel:Int
def Setup.body(S:Setup)(k:Nat):Bod:=S.bods.getD (S.bo+k) dB
structure SetN(S:Setup):Prop where
 pl:0 <= S.players /\ S.players <= 1000000
 nb:S.nb <= 1000000
structure SetIn(F:HL)(S:Setup):Prop extends SetN S where
 blk:(S.bb,.rows 9 S.bR (ge S.bods) 73 (0,0))∈F
 room:S.bo+S.nb <= S.bR
 shp:∀k,k<S.nb -> ShIn F (S.body k).sh
theorem SetIn.up{F X:HL}{S:Setup}(h:SetIn F S):SetIn (X++F) S :=
 ⟨h.toSetN,List.mem_append_right _ h.blk,h.room,λ k hk=>(h.shp k hk).mono λ x hx=>List.mem_append_right _ hx⟩
def ah(S:Setup)(k:Int):Int:=if k<0 then -1 else if k >= S.players then -1 else 48+4*k
def ae(S:Setup)(k:Int):Int:=if k<0 then -1 else if k >= S.nb then -1 else 48+4*S.players+8*k
def sizeOf(S:Setup):Int:=48+4*S.players+8*S.nb
theorem gh{S:Setup}(h:SetN S)(k:Int):(-1 <= ah S k /\ ah S k <= 1000000000) /\ (ah S k<0 \/ (0 <= k /\ k<S.players)):=by
 have:=h.pl
 unfold ah;split
 ·omega
 ·split <;> omega
theorem cw{S:Setup}(h:SetN S)(k:Int):(-1 <= ae S k /\ ae S k <= 1000000000) /\ (ae S k<0 \/ (0 <= k /\ k<S.nb)):=by
 have:=h.pl
 have:=h.nb
 unfold ae;split
 ·omega
 ·split <;> omega
abbrev Setup.v(S:Setup):Value:=.agg #[vI S.players,vS S.bb (S.bo*9) S.nb S.bc,vI S.box.x0,vI S.box.y0,vI S.box.x1,vI S.box.y1,.slice S.rA S.rn S.rc,.slice S.dA S.dn S.dc,vI S.fog,vI S.g.x,vI S.g.y,vI S.push,vI S.drag,vI S.rest,vI S.rounds,vI S.fuel]
abbrev Setup.l(S:Setup):List Value:=[vI S.players,vS S.bb (S.bo*9) S.nb S.bc,vI S.box.x0,vI S.box.y0,vI S.box.x1,vI S.box.y1,.slice S.rA S.rn S.rc,.slice S.dA S.dn S.dc,vI S.fog,vI S.g.x,vI S.g.y,vI S.push,vI S.drag,vI S.rest,vI S.rounds,vI S.fuel]
theorem gi(S:Setup)(k:Int)(F:HL)(hn:SetN S):Sp Tryz.prog 117 #[(Setup.v S),vI k] [] F (λ u H'=>u=vI (ah S k) /\ H'=[]):=by
 have h1:=hn.pl
 have h2:=hn.nb
 refine Sp.run Tryz.func117 rfl mn (A:=[]) (Ts:=[]) rfl λ w0=>?_
 refine aa 12 [] λ n1=>RN.em (k<0) 7 (λ h2=>?_) λ h2=>?_
 ·refine aa 13 [] λ _=>RN.ret [] [] [] (v:=vI (-1)) (H':=[]) ?_
  refine⟨?_,rfl⟩
  simp only[ah,if_pos h2]
 ·refine aa 7 [.own 0] λ _=>RN.em (k >= S.players) 12 (λ h3=>?_) λ h3=>?_
  ·refine aa 6 [] λ _=>RN.ret [] [] [] (v:=vI (-1)) (H':=[]) ?_
   refine⟨?_,rfl⟩
   simp only[ah,if_neg h2,if_pos h3]
  ·refine aq 11 [.nw,.nw] [bF (48+(4*k)),bF (4*k)] λ _=>RN.ret [] [] [] (v:=vI (48+(4*k))) (H':=[]) ?_
   refine⟨?_,rfl⟩
   simp only[ah,if_neg h2,if_neg h3]
theorem cy(S:Setup)(k:Int)(F:HL)(hn:SetN S):Sp Tryz.prog 28 #[(Setup.v S),vI k] [] F (λ u H'=>u=vI (ae S k) /\ H'=[]):=by
 have h1:=hn.pl
 have h2:=hn.nb
 refine Sp.run Tryz.func28 rfl mn (A:=[]) (Ts:=[]) rfl λ w0=>?_
 refine aa 12 [] λ n1=>RN.em (k<0) 7 (λ h2=>?_) λ h2=>?_
 ·refine aa 14 [] λ _=>RN.ret [] [] [] (v:=vI (-1)) (H':=[]) ?_
  refine⟨?_,rfl⟩
  simp only[ae,if_pos h2]
 ·refine aa 8 [.own 0] λ _=>RN.em (k >= (S.nb:Int)) 13 (λ h3=>?_) λ h3=>?_
  ·refine aa 6 [] λ _=>RN.ret [] [] [] (v:=vI (-1)) (H':=[]) ?_
   refine⟨?_,rfl⟩
   simp only[ae,if_neg h2,if_pos h3]
  ·refine aq 15 [.own 0,.nw,.nw,.nw,.nw] [bF ((48+(4*S.players))+(8*k)),bF (8*k),bF (48+(4*S.players)),bF (4*S.players)] λ _=>RN.ret [] [] [] (v:=vI ((48+(4*S.players))+(8*k))) (H':=[]) ?_
   refine⟨?_,rfl⟩
   simp only[ae,if_neg h2,if_neg h3]
theorem Bo(S:Setup)(F:HL)(hn:SetN S):Sp Tryz.prog 27 #[(Setup.v S)] [] F (λ u H'=>u=vI (sizeOf S) /\ H'=[]):=by
 have h1:=hn.pl
 have h2:=hn.nb
 refine Sp.run Tryz.func27 rfl mn (A:=[]) (Ts:=[]) rfl λ w0=>?_
 refine aq 20 [.own 0,.nw,.nw,.own 0,.nw,.nw] [bF ((48+(4*S.players))+(8*(S.nb:Int))),bF (8*(S.nb:Int)),bF (48+(4*S.players)),bF (4*S.players)] λ n1=>?_
 exact RN.ret [] [] [] ⟨rfl,rfl⟩
structure Inp where (dx dy act:Int)
abbrev dI:Inp:=⟨0,0,0⟩
structure Ins where (op n:Int)
abbrev dIns:Ins:=⟨0,0⟩
structure Eff where (t i k v:Int)
abbrev bH:Eff:=⟨0,0,0,0⟩
def mN:Enc Inp:=⟨3,λ p k=>match k with|0=>vI p.dx|1=>vI p.dy|_=>vI p.act,dI⟩
noncomputable def J1:TypeInfo:=match Tryz.prog.info? 93 with | some i=>i | none=>⟨.bool,"",0,0,false,0,0,none,false,#[]⟩
noncomputable def J2:Value:=match J1.zero with|some z=>z|none=>.bool false
theorem xA:EncOk mN Tryz.prog 93 J1 J2 where
 info:=by kernel_rfl
 zero:=by kernel_rfl
 size:=by kernel_rfl
 zsize:=by kernel_rfl
 zcell:=λ k hk=>by
  have h:∀k<3,J2.cells[k]?=some (mN.cell mN.dflt k):=by intro k hk;(iterate 3 (rcases k with _|k;· kernel_rfl));omega
  exact h k hk
 one:=λ x k=>by unfold mN;dsimp only;split <;> rfl
 bytes:=Nat.le_of_ble_eq_true (by kernel_rfl)
abbrev mO(l:List Inp):Nat -> Nat -> Value:=aD mN l
structure Stp where
 S:Setup
 cA:Option Addr
 cn:Nat
 cc:Nat
 e0:Int
 e1:Int
 e2:Int
 version:Int
 ib:Nat
 io:Nat
 ni:Nat
 ic:Nat
 iR:Nat
 ins:List Inp
 i:Int
 j:Int
 ended:Bool
 f0:Int
 f1:Int
 f2:Int
 f3:Int
 emitted:Bool
 code:List Ins
def Stp.inp(t:Stp)(k:Nat):Inp:=t.ins.getD (t.io+k) dI
def movP(S:Setup)(k:Int):Prop:=(0 <= k /\ k<S.nb) /\ (S.body k.toNat).mot.inv>0
instance (S:Setup) (k:Int):Decidable (movP S k):=inferInstanceAs (Decidable (_ /\ _))
theorem movP.has{S:Setup}{k:Int}(h:movP S k):0 <= k /\ k<S.nb:=h.1
def ai(S:Setup)(M:MemS)(k:Int):Mot:=⟨M.get (ae S k+0),M.get (ae S k+1),M.get (ae S k+2),M.get (ae S k+3),(S.body k.toNat).mot.inv⟩
def aQ(t:Stp)(ph j:Int)(M:MemS):MemS:=((M.set 1 ph).set 2 0).set 3 j
def bG(t:Stp)(k:Int)(m:Mot)(M:MemS):MemS:=(((M.set (ae t.S k+0) m.px).set (ae t.S k+1) m.py).set (ae t.S k+2) m.vx).set (ae t.S k+3) m.vy
def b7(t:Stp)(c sp pos lo hi:Int)(M:MemS):MemS:=if az pos lo hi=pos then M.set c (az pos lo hi) else (M.set c (az pos lo hi)).set sp (aV (0-eS ((M.set c (az pos lo hi)).get sp) t.S.rest))
def aZ(t:Stp)(M:MemS):MemS:=if t.i=0 then (M.set 13 t.version).set 11 0 else M
def bu(t:Stp)(M:MemS):MemS:=if ah t.S t.i >= 0 then if t.i<t.ni then ((M.set (ah t.S t.i+0) (t.inp t.i.toNat).dx).set (ah t.S t.i+1) (t.inp t.i.toNat).dy).set (ah t.S t.i+2) (t.inp t.i.toNat).act else M else M
def b8(t:Stp)(M:MemS):MemS:=if aV (t.i+1)<t.S.players then M.set 2 (aV (t.i+1)) else aQ t 1 0 M
def aW(t:Stp)(M:MemS):MemS:=b8 t (bu t (aZ t M))
abbrev Stp.l(t:Stp)(mb:Nat):List Value:=[.iface 41 (vP mb 0),vI t.S.players,vS t.S.bb (t.S.bo*9) t.S.nb t.S.bc,vI t.S.box.x0,vI t.S.box.y0,vI t.S.box.x1,vI t.S.box.y1,.slice t.S.rA t.S.rn t.S.rc,.slice t.S.dA t.S.dn t.S.dc,vI t.S.fog,vI t.S.g.x,vI t.S.g.y,vI t.S.push,vI t.S.drag,vI t.S.rest,vI t.S.rounds,vI t.S.fuel,.slice t.cA t.cn t.cc,vI t.e0,vI t.e1,vI t.e2,vI t.version,vS t.ib (t.io*3) t.ni t.ic,vI t.i,vI t.j,.bool t.ended,vI t.f0,vI t.f1,vI t.f2,vI t.f3,.bool t.emitted]
abbrev Stp.lp(t:Stp)(mb:Nat):List Value:=[.iface 41 (vP mb 0),vI t.S.players,vS t.S.bb (t.S.bo*9) t.S.nb t.S.bc,vI t.S.box.x0,vI t.S.box.y0,vI t.S.box.x1,vI t.S.box.y1,.slice t.S.rA t.S.rn t.S.rc,.slice t.S.dA t.S.dn t.S.dc,vI t.S.fog,vI t.S.g.x,vI t.S.g.y,vI t.S.push,vI t.S.drag,vI t.S.rest,vI t.S.rounds,vI t.S.fuel,.slice t.cA t.cn t.cc,vI t.e0,vI t.e1,vI t.e2,vI t.version,vS t.ib (t.io*3) t.ni t.ic,vI t.i,vI t.j,.bool t.ended]
theorem oO(t:Stp)(k:Int)(tb mb:Nat)(F:HL)(hb:(tb,.lit (Stp.l t mb) 181 (0,0))∈F):Sp Tryz.prog 128 #[vP tb 0,vI k] [] F (λ u H'=>u=.bool (decide (0 <= k /\ k<t.S.nb)) /\ H'=[]):=by
 refine Sp.run Tryz.func128 rfl (mc hb mn) (A:=[]) (Ts:=[]) rfl λ w0=>?_
 refine aa 10 [] λ _=>RN.em (k >= 0) 7 (λ h1=>?_) λ h1=>?_
 ·refine aa 12 [.ro 0] λ _=>RN.ret [] [] [] (v:=.bool (decide (k<(t.S.nb:Int)))) (H':=[]) ?_
  exact⟨by simp[*],rfl⟩
 ·refine aa 12 [] λ _=>RN.ret [] [] [] (v:=.bool false) (H':=[]) ?_
  exact⟨by simp[*],rfl⟩
theorem iP(t:Stp)(k:Int)(tb mb:Nat)(F:HL)(hb:(tb,.lit (Stp.l t mb) 181 (0,0))∈F)(hS:SetIn F t.S):Sp Tryz.prog 121 #[vP tb 0,vI k] [] F (λ u H'=>u=.bool (decide (movP t.S k)) /\ H'=[]):=by
 have hn:=hS.nb
 have hr:=hS.room
 refine Sp.run Tryz.func121 rfl (mc hb (mc hS.blk mn)) (A:=[]) (Ts:=[]) rfl λ w0=>?_
 refine aa 9 [] λ _=>al (oO t k tb mb _ (List.mem_append_right _ hb))<|aa 1 [] λ _=>RN.em (0 <= k /\ k<t.S.nb) 8 (λ h1=>?_) λ h1=>?_
 ·refine aq 15 [.ro 0,.ix ((k).toNat),.rorow 1 (t.S.bo+((k).toNat)) 6] [((t.S.bo*9+((k).toNat)*9)+6)=(t.S.bo+((k).toNat))*9+6 /\ (t.S.bo+((k).toNat))<t.S.bR,k=(((k).toNat:Nat):Int) /\ (k).toNat<t.S.nb] λ _=>RN.ret [] [] [] (v:=.bool (decide ((t.S.bods.getD (t.S.bo+((k).toNat)) dB).mot.inv>0))) (H':=[]) ?_
  refine⟨?_,rfl⟩
  simp[movP,Setup.body, *]
 ·refine aa 15 [] λ _=>RN.ret [] [] [] (v:=.bool false) (H':=[]) ?_
  refine⟨?_,rfl⟩
  simp[movP,Setup.body, *]
theorem fH(t:Stp)(i:Int)(tb mb:Nat)(M:MemS)(k:Nat)(T F:HL)(hb:(tb,.lit (Stp.l t mb) 181 (0,0))∈F)(hS:SetIn F t.S)(hM:MemH mb M k T)(hT:∀x∈T,x∈F)(hi:0 <= i /\ i<t.S.nb):Sp Tryz.prog 122 #[vP tb 0,vI i] [] F (λ u H'=>u=.agg #[vI ((ai t.S M i).px),vI ((ai t.S M i).py),vI ((ai t.S M i).vx),vI ((ai t.S M i).vy),vI ((ai t.S M i).inv)] /\ H'=[]):=by
 have hp:=hS.pl
 have hn:=hS.nb
 have hr:=hS.room
 refine Sp.run Tryz.func122 rfl (mc hb (mc hS.blk mn)) (A:=[]) (Ts:=[]) rfl λ w0=>?_
 refine aa 12 [.ro 0,.ro 0,.ro 0,.ro 0,.ro 0,.ro 0,.ro 0,.ro 0,.ro 0,.ro 0,.ro 0,.ro 0,.ro 0,.ro 0,.ro 0,.ro 0] λ n1=>al (cy t.S i _ hS.toSetN) ?_
 have SY:=cw hS.toSetN i
 refine aa 4 [] λ _=>RN.draw [41] []<|aL [] [0,4,7,11,15,19,22,26,30,35,1,5,8,12,16,20,23,27,31,2,9,17,24,32,3,10,18,25,33,34,36,37,38,39] [.nw,.nw,.nw,.nw,.ro 0,.ro 0,.ro 0,.ro 0,.ro 0,.ix ((i).toNat),.rorow 1 (t.S.bo+((i).toNat)) 6] [((t.S.bo*9+((i).toNat)*9)+6)=(t.S.bo+((i).toNat))*9+6 /\ (t.S.bo+((i).toNat))<t.S.bR,i=(((i).toNat:Nat):Int) /\ (i).toNat<t.S.nb,bF ((ae t.S i)+3),bF ((ae t.S i)+2),bF ((ae t.S i)+1),bF ((ae t.S i)+0)]<|au [] 6 (λ X_=>(aB ((ae t.S i)+0) hM (λ x hx=>List.mem_append_right _ (List.mem_append_right _ (hT x hx)))))<|au [] 13 (λ X_=>(aB ((ae t.S i)+1) hM (λ x hx=>List.mem_append_right _ (List.mem_append_right _ (hT x hx)))))<|af [] [14] []<|au [] 21 (λ X_=>(aB ((ae t.S i)+2) hM (λ x hx=>List.mem_append_right _ (List.mem_append_right _ (hT x hx)))))<|au [] 28 (λ X_=>(aB ((ae t.S i)+3) hM (λ x hx=>List.mem_append_right _ (List.mem_append_right _ (hT x hx)))))<|af [] [29,40] []<|RD.one 41 (RDO.ev [] (ow 0 5) λ _=>?_)
 refine RD.fin<|aa 1 [] λ _=>?_
 exact RN.ret (ow 0 5) [] [] ⟨rfl,rfl⟩
theorem b9(t:Stp)(ph:Int)(j:Int)(tb mb:Nat)(M:MemS)(k:Nat)(T F:HL)(hM:MemH mb M (k+3) T)(hS:SetIn F t.S) :Sp Tryz.prog 118 #[vP tb 0,vI ph,vI j] (ap [(tb,.lit (Stp.l t mb) 181 (0,0))] [T]) F (λ u H'=>∃x,H'=ap [(tb,.lit (Stp.l t mb) 181 (0,0))] [x] /\ (MemH mb (aQ t ph j M) k x)):=by
 have hp:=hS.pl
 have hn:=hS.nb
 have hr:=hS.room
 refine Sp.run Tryz.func118 rfl (mc hS.blk mn) (A:=[(tb,.lit (Stp.l t mb) 181 (0,0))]) (Ts:=[T]) rfl λ w0=>?_
 refine aa 7 [.own 0] λ _=>RN.ct [] [0] (ak 1 ph hM) ?_
 rintro _ T1 Tw
 refine aa 8 [.own 0] λ _=>RN.ct [] [0] (ak 2 0 Tw) ?_
 rintro _ T3 C_
 refine aa 8 [.own 0] λ _=>RN.ct [] [0] (ak 3 j C_) ?_
 rintro _ T5 P5
 refine aa 1 [] λ _=>RN.ret [] [0] [0] (v:=.tuple #[]) (H':=(ap [(tb,.lit (Stp.l t mb) 181 (0,0))] [T5])) ?_
 refine⟨T5,rfl,?_⟩
 have e:(aQ t ph j M)=(((M.set 1 ph).set 2 0).set 3 j):=by
  first|(simp only[aQ];try rfl;done)|rfl
 rw[e]
 exact P5.weak (by omega)
theorem lL(t:Stp)(i:Int)(m:Mot)(tb mb:Nat)(M:MemS)(k:Nat)(T F:HL)(hM:MemH mb M (k+4) T)(hS:SetIn F t.S) :Sp Tryz.prog 173 #[vP tb 0,vI i,.agg #[vI m.px,vI m.py,vI m.vx,vI m.vy,vI m.inv]] (ap [(tb,.lit (Stp.l t mb) 181 (0,0))] [T]) F (λ u H'=>∃x,H'=ap [(tb,.lit (Stp.l t mb) 181 (0,0))] [x] /\ (MemH mb (bG t i m M) k x)):=by
 have hp:=hS.pl
 have hn:=hS.nb
 have hr:=hS.room
 refine Sp.run Tryz.func173 rfl (mc hS.blk mn) (A:=[(tb,.lit (Stp.l t mb) 181 (0,0))]) (Ts:=[T]) rfl λ w0=>?_
 refine aa 12 (ow 1 16) λ n1=>al (cy t.S i _ hS.toSetN) ?_
 have SY:=cw hS.toSetN i
 refine aa 4 [] λ _=>RN.draw [9] []<|aL [] [0,4,6,1,5,7,2,8,3] [.nw,.own 0,.own 1] [bF ((ae t.S i)+0)]<|RD.one 9 (RDO.ct [] [] [0] (ak ((ae t.S i)+0) m.px hM) ?_)
 rintro _ T3 C_
 refine RD.fin<|aa 2 [] λ _=>RN.draw [9] []<|aL [] [0,4,6,1,5,7,2,8,3] [.nw,.own 0,.own 1] [bF ((ae t.S i)+1)]<|RD.one 9 (RDO.ct [] [] [0] (ak ((ae t.S i)+1) m.py C_) ?_)
 rintro _ T5 P5
 refine RD.fin<|aa 2 [] λ _=>RN.draw [9] []<|aL [] [0,4,6,1,5,7,2,8,3] [.nw,.own 0,.own 1] [bF ((ae t.S i)+2)]<|RD.one 9 (RDO.ct [] [] [0] (ak ((ae t.S i)+2) m.vx P5) ?_)
 rintro _ T7 P4
 refine RD.fin<|aa 1 [] λ _=>RN.draw [9] []<|aL [] [0,4,6,1,5,7,2,8,3] [.nw,.own 0,.own 1] [bF ((ae t.S i)+3)]<|RD.one 9 (RDO.ct [] [] [0] (ak ((ae t.S i)+3) m.vy P4) ?_)
 rintro _ T9 PV
 refine RD.fin<|RN.ret [] [1] [0] (v:=.tuple #[]) (H':=(ap [(tb,.lit (Stp.l t mb) 181 (0,0))] [T9])) ?_
 refine⟨T9,rfl,?_⟩
 have e:(bG t i m M)=((((M.set ((ae t.S i)+0) m.px).set ((ae t.S i)+1) m.py).set ((ae t.S i)+2) m.vx).set ((ae t.S i)+3) m.vy):=by
  first|(simp only[bG];try rfl;done)|rfl
 rw[e]
 exact PV.weak (by omega)
theorem rH(t:Stp)(c:Int)(s:Int)(pos:Int)(lo:Int)(hi:Int)(tb mb:Nat)(M:MemS)(k:Nat)(T F:HL)(hM:MemH mb M (k+2) T)(hS:SetIn F t.S) :Sp Tryz.prog 174 #[vP tb 0,vI c,vI s,vI pos,vI lo,vI hi] (ap [(tb,.lit (Stp.l t mb) 181 (0,0))] [T]) F (λ u H'=>∃x,H'=ap [(tb,.lit (Stp.l t mb) 181 (0,0))] [x] /\ (MemH mb (b7 t c s pos lo hi M) k x)):=by
 have hp:=hS.pl
 have hn:=hS.nb
 have hr:=hS.room
 refine Sp.run Tryz.func174 rfl (mc hS.blk mn) (A:=[(tb,.lit (Stp.l t mb) 181 (0,0))]) (Ts:=[T]) rfl λ w0=>?_
 refine aa 5 [] λ _=>al (cJ pos lo hi  _)<|aa 11 [.own 0] λ _=>RN.ct [] [0] (ak c (az pos lo hi) hM) ?_
 rintro _ T1 Tw
 refine aa 9 [] λ _=>RN.en (az pos lo hi=pos) 26 (λ h3=>?_) λ h3=>?_
 ·refine aa 2 [] λ _=>RN.ret [] [0] [0] (v:=.tuple #[]) (H':=(ap [(tb,.lit (Stp.l t mb) 181 (0,0))] [T1])) ?_
  refine⟨T1,rfl,?_⟩
  have e:(b7 t c s pos lo hi M)=(M.set c (az pos lo hi)):=by
   first|(simp only[b7,if_pos h3];try rfl;done)|rfl
  rw[e]
  exact Tw.weak (by omega)
 ·refine aa 1 [] λ _=>RN.draw [20] []<|af [] [0,4,5,9,11,1,6,12,2,7,13,3,8,14,15,18,19] [.own 0,.own 0,.own 0]<|au [] 10 (λ X_=>(aB s Tw (bt 0)))<|au [] 16 (λ X_=>(k8 ((M.set c (az pos lo hi)).get s) t.S.rest  _))<|af [] [17] []<|RD.one 20 (RDO.ct [] [] [0] (ak s (i64.wrap (0-(eS ((M.set c (az pos lo hi)).get s) t.S.rest))) Tw) ?_)
  rintro _ T4 QW
  refine RD.fin<|RN.ret [] [0] [0] (v:=.tuple #[]) (H':=(ap [(tb,.lit (Stp.l t mb) 181 (0,0))] [T4])) ?_
  refine⟨T4,rfl,?_⟩
  have e:(b7 t c s pos lo hi M)=((M.set c (az pos lo hi)).set s (i64.wrap (0-(eS ((M.set c (az pos lo hi)).get s) t.S.rest)))):=by
   first|(simp only[b7,if_neg h3];try rfl;done)|rfl
  rw[e]
  exact QW.weak (by omega)
theorem Bp(t:Stp)  (tb mb:Nat) (M:MemS) (k:Nat) (T F:HL) (hM:MemH mb M (k+8) T) (hS:SetIn F t.S) (hI:(t.ib,.rows 3 t.iR (mO t.ins) 93 (0,0))∈F) (hir:t.io+t.ni <= t.iR /\ t.ni <= 1000000):Sp Tryz.prog 84 #[vP tb 0] (ap [(tb,.lit (Stp.l t mb) 181 (0,0))] [T]) F (λ u H'=>∃x,H'=ap [(tb,.lit (Stp.l t mb) 181 (0,0))] [x] /\ (MemH mb (aW t M) k x)):=by
 have hp:=hS.pl
 have hn:=hS.nb
 have hr:=hS.room
 refine Sp.run Tryz.func84 rfl (mc hS.blk (mc hI mn)) (A:=[(tb,.lit (Stp.l t mb) 181 (0,0))]) (Ts:=[T]) rfl λ w0=>?_
 refine aa 10 [.own 0] λ _=>RN.em (t.i=0) 8 (λ h1=>?_) λ h1=>?_
 ·refine aa 2 [] λ _=>RN.draw [10] []<|af [] [0,4,1,5,2,6,3,7,8,9] [.own 0,.own 0]<|RD.one 10 (RDO.ct [] [] [0] (ak 13 t.version hM) ?_)
  rintro _ T2 P6
  refine RD.fin<|aa 6 [.own 0] λ _=>RN.ct [] [0] (ak 11 0 P6) ?_
  rintro _ T4 QW
  refine aa 4 [] λ _=>RN.draw [] []<|af [] [0,4,1,5,2,6,3,7] (ow 0 17)<|au [] 8 (λ X_=>(gi t.S t.i _ hS.toSetN)) ?_
  have hb6:=gh hS.toSetN t.i
  refine af [] [9] []<|RD.fin<|aa 2 [] λ _=>RN.draw [] []<|af [] [0,1,2] []<|RD.em (ah t.S t.i >= 0) 36 (λ h7=>?_) λ h7=>?_
  ·refine af [] [3,7,4,8,5,9,6,10,11,12,13] [.own 0,.own 0]<|RD.fin<|aa 1 [] λ _=>RN.em (t.i<(t.ni:Int)) 47 (λ h8=>?_) λ h8=>?_
   ·refine aa 2 [] λ _=>RN.draw [11] []<|aL [] [0,4,1,5,2,6,3,7,8,9] [.own 0,.own 0,.ix ((t.i).toNat),.rorow 1 (t.io+((t.i).toNat)) 0,.rorow 1 (t.io+((t.i).toNat)) 1,.rorow 1 (t.io+((t.i).toNat)) 2] [((t.io*3+((t.i).toNat)*3)+2)=(t.io+((t.i).toNat))*3+2 /\ (t.io+((t.i).toNat))<t.iR,((t.io*3+((t.i).toNat)*3)+1)=(t.io+((t.i).toNat))*3+1 /\ (t.io+((t.i).toNat))<t.iR,(t.io*3+((t.i).toNat)*3)=(t.io+((t.i).toNat))*3+0 /\ (t.io+((t.i).toNat))<t.iR,t.i=(((t.i).toNat:Nat):Int) /\ (t.i).toNat<t.ni]<|RD.one 10 (RDO.ev [] [] λ n9=>?_)
    refine RD.one 11 (RDO.ev [] [.own 0,.own 0,.own 0] λ _=>?_)
    refine RD.fin<|aa 2 [] λ _=>RN.draw [8] []<|aL [] [0,4,6,1,5,7,2,3] [.nw,.own 0,.own 1] [bF ((ah t.S t.i)+0)]<|RD.one 8 (RDO.ct [] [] [0] (ak ((ah t.S t.i)+0) ((t.ins.getD (t.io+((t.i).toNat)) dI).dx) QW) ?_)
    rintro _ Sb PU
    refine RD.fin<|aa 2 [] λ _=>RN.draw [8] []<|aL [] [0,4,6,1,5,7,2,3] [.nw,.own 0,.own 1] [bF ((ah t.S t.i)+1)]<|RD.one 8 (RDO.ct [] [] [0] (ak ((ah t.S t.i)+1) ((t.ins.getD (t.io+((t.i).toNat)) dI).dy) PU) ?_)
    rintro _ T12 We
    refine RD.fin<|aa 1 [] λ _=>RN.draw [8] []<|aL [] [0,4,6,1,5,7,2,3] [.nw,.own 0,.own 1] [bF ((ah t.S t.i)+2)]<|RD.one 8 (RDO.ct [] [] [0] (ak ((ah t.S t.i)+2) ((t.ins.getD (t.io+((t.i).toNat)) dI).act) We) ?_)
    rintro _ Sk RB
    refine RD.fin<|aa 2 [] λ _=>RN.draw [] []<|af [] [0,5,1,6,2,7,3,8,4,9,10] [.own 1,.own 1]<|RD.fin<|aa 1 [] λ _=>RN.em (i64.wrap (t.i+1)<t.S.players) 95 (λ PZ=>?_) λ PZ=>?_
    ·refine aa 1 [] λ _=>RN.draw [11] []<|af [] [0,4,1,5,2,6,3,7,8,9,10] [.own 1,.own 1]<|RD.one 11 (RDO.ct [] [] [0] (ak 2 (i64.wrap (t.i+1)) RB) ?_)
     rintro _ Q7 Qm
     refine RD.fin<|RN.ret [] [1] [0] (v:=.tuple #[]) (H':=(ap [(tb,.lit (Stp.l t mb) 181 (0,0))] [Q7])) ?_
     refine⟨Q7,rfl,?_⟩
     have e:(aW t M)=((((((M.set 13 t.version).set 11 0).set ((ah t.S t.i)+0) ((t.ins.getD (t.io+((t.i).toNat)) dI).dx)).set ((ah t.S t.i)+1) ((t.ins.getD (t.io+((t.i).toNat)) dI).dy)).set ((ah t.S t.i)+2) ((t.ins.getD (t.io+((t.i).toNat)) dI).act)).set 2 (i64.wrap (t.i+1))):=by
      first|(simp only[aW,aZ,bu,b8,Stp.inp,if_pos h1,if_pos h7,if_pos h8,if_pos PZ];try rfl;done)|rfl
     rw[e]
     exact Qm.weak (by omega)
    ·refine aa 3 [] λ _=>RN.ct [1] [0] (b9 t 1 0 tb mb (((((M.set 13 t.version).set 11 0).set ((ah t.S t.i)+0) ((t.ins.getD (t.io+((t.i).toNat)) dI).dx)).set ((ah t.S t.i)+1) ((t.ins.getD (t.io+((t.i).toNat)) dI).dy)).set ((ah t.S t.i)+2) ((t.ins.getD (t.io+((t.i).toNat)) dI).act)) k Sk _ RB hS.up ) ?_
     rintro _ RS Rz
     refine aa 1 [] λ _=>RN.ret [] [0] [0] (v:=.tuple #[]) (H':=(ap [(tb,.lit (Stp.l t mb) 181 (0,0))] [RS])) ?_
     refine⟨RS,rfl,?_⟩
     have e:(aW t M)=(aQ t 1 0 (((((M.set 13 t.version).set 11 0).set ((ah t.S t.i)+0) ((t.ins.getD (t.io+((t.i).toNat)) dI).dx)).set ((ah t.S t.i)+1) ((t.ins.getD (t.io+((t.i).toNat)) dI).dy)).set ((ah t.S t.i)+2) ((t.ins.getD (t.io+((t.i).toNat)) dI).act))):=by
      first|(simp only[aW,aZ,bu,b8,Stp.inp,if_pos h1,if_pos h7,if_pos h8,if_neg PZ];try rfl;done)|rfl
     rw[e]
     exact Rz.weak (by omega)
   ·refine aa 4 [] λ _=>RN.draw [] []<|af [] [0,5,1,6,2,7,3,8,4,9,10] [.own 0,.own 0]<|RD.fin<|aa 1 [] λ _=>RN.em (i64.wrap (t.i+1)<t.S.players) 95 (λ h21=>?_) λ h21=>?_
    ·refine aa 1 [] λ _=>RN.draw [11] []<|af [] [0,4,1,5,2,6,3,7,8,9,10] [.own 0,.own 0]<|RD.one 11 (RDO.ct [] [] [0] (ak 2 (i64.wrap (t.i+1)) QW) ?_)
     rintro _ Wq Ta
     refine RD.fin<|RN.ret [] [0] [0] (v:=.tuple #[]) (H':=(ap [(tb,.lit (Stp.l t mb) 181 (0,0))] [Wq])) ?_
     refine⟨Wq,rfl,?_⟩
     have e:(aW t M)=(((M.set 13 t.version).set 11 0).set 2 (i64.wrap (t.i+1))):=by
      first|(simp only[aW,aZ,bu,b8,Stp.inp,if_pos h1,if_pos h7,if_neg h8,if_pos h21];try rfl;done)|rfl
     rw[e]
     exact Ta.weak (by omega)
    ·refine aa 3 [] λ _=>RN.ct [0] [0] (b9 t 1 0 tb mb ((M.set 13 t.version).set 11 0) (k+3) T4 _ QW hS.up ) ?_
     rintro _ Va S9
     refine aa 1 [] λ _=>RN.ret [] [0] [0] (v:=.tuple #[]) (H':=(ap [(tb,.lit (Stp.l t mb) 181 (0,0))] [Va])) ?_
     refine⟨Va,rfl,?_⟩
     have e:(aW t M)=(aQ t 1 0 ((M.set 13 t.version).set 11 0)):=by
      first|(simp only[aW,aZ,bu,b8,Stp.inp,if_pos h1,if_pos h7,if_neg h8,if_neg h21];try rfl;done)|rfl
     rw[e]
     exact S9.weak (by omega)
  ·refine af [] [3,7,4,8,5,9,6,10,11,12,13] []<|RD.fin<|aa 5 [] λ _=>RN.draw [] []<|af [] [0,5,1,6,2,7,3,8,4,9,10] [.own 0,.own 0]<|RD.fin<|aa 1 [] λ _=>RN.em (i64.wrap (t.i+1)<t.S.players) 95 (λ P_=>?_) λ P_=>?_
   ·refine aa 1 [] λ _=>RN.draw [11] []<|af [] [0,4,1,5,2,6,3,7,8,9,10] [.own 0,.own 0]<|RD.one 11 (RDO.ct [] [] [0] (ak 2 (i64.wrap (t.i+1)) QW) ?_)
    rintro _ RO Qu
    refine RD.fin<|RN.ret [] [0] [0] (v:=.tuple #[]) (H':=(ap [(tb,.lit (Stp.l t mb) 181 (0,0))] [RO])) ?_
    refine⟨RO,rfl,?_⟩
    have e:(aW t M)=(((M.set 13 t.version).set 11 0).set 2 (i64.wrap (t.i+1))):=by
     first|(simp only[aW,aZ,bu,b8,Stp.inp,if_pos h1,if_neg h7,if_pos P_];try rfl;done)|rfl
    rw[e]
    exact Qu.weak (by omega)
   ·refine aa 3 [] λ _=>RN.ct [0] [0] (b9 t 1 0 tb mb ((M.set 13 t.version).set 11 0) (k+3) T4 _ QW hS.up ) ?_
    rintro _ U9 Qt
    refine aa 1 [] λ _=>RN.ret [] [0] [0] (v:=.tuple #[]) (H':=(ap [(tb,.lit (Stp.l t mb) 181 (0,0))] [U9])) ?_
    refine⟨U9,rfl,?_⟩
    have e:(aW t M)=(aQ t 1 0 ((M.set 13 t.version).set 11 0)):=by
     first|(simp only[aW,aZ,bu,b8,Stp.inp,if_pos h1,if_neg h7,if_neg P_];try rfl;done)|rfl
    rw[e]
    exact Qt.weak (by omega)
 ·refine aa 5 [] λ _=>RN.draw [] []<|af [] [0,4,1,5,2,6,3,7] (ow 0 17)<|au [] 8 (λ X_=>(gi t.S t.i _ hS.toSetN)) ?_
  have hb31:=gh hS.toSetN t.i
  refine af [] [9] []<|RD.fin<|aa 2 [] λ _=>RN.draw [] []<|af [] [0,1,2] []<|RD.em (ah t.S t.i >= 0) 36 (λ Uv=>?_) λ Uv=>?_
  ·refine af [] [3,7,4,8,5,9,6,10,11,12,13] [.own 0,.own 0]<|RD.fin<|aa 1 [] λ _=>RN.em (t.i<(t.ni:Int)) 47 (λ Yd=>?_) λ Yd=>?_
   ·refine aa 2 [] λ _=>RN.draw [11] []<|aL [] [0,4,1,5,2,6,3,7,8,9] [.own 0,.own 0,.ix ((t.i).toNat),.rorow 1 (t.io+((t.i).toNat)) 0,.rorow 1 (t.io+((t.i).toNat)) 1,.rorow 1 (t.io+((t.i).toNat)) 2] [((t.io*3+((t.i).toNat)*3)+2)=(t.io+((t.i).toNat))*3+2 /\ (t.io+((t.i).toNat))<t.iR,((t.io*3+((t.i).toNat)*3)+1)=(t.io+((t.i).toNat))*3+1 /\ (t.io+((t.i).toNat))<t.iR,(t.io*3+((t.i).toNat)*3)=(t.io+((t.i).toNat))*3+0 /\ (t.io+((t.i).toNat))<t.iR,t.i=(((t.i).toNat:Nat):Int) /\ (t.i).toNat<t.ni]<|RD.one 10 (RDO.ev [] [] λ n34=>?_)
    refine RD.one 11 (RDO.ev [] [.own 0,.own 0,.own 0] λ _=>?_)
    refine RD.fin<|aa 2 [] λ _=>RN.draw [8] []<|aL [] [0,4,6,1,5,7,2,3] [.nw,.own 0,.own 1] [bF ((ah t.S t.i)+0)]<|RD.one 8 (RDO.ct [] [] [0] (ak ((ah t.S t.i)+0) ((t.ins.getD (t.io+((t.i).toNat)) dI).dx) hM) ?_)
    rintro _ WO S8
    refine RD.fin<|aa 2 [] λ _=>RN.draw [8] []<|aL [] [0,4,6,1,5,7,2,3] [.nw,.own 0,.own 1] [bF ((ah t.S t.i)+1)]<|RD.one 8 (RDO.ct [] [] [0] (ak ((ah t.S t.i)+1) ((t.ins.getD (t.io+((t.i).toNat)) dI).dy) S8) ?_)
    rintro _ T37 S7
    refine RD.fin<|aa 1 [] λ _=>RN.draw [8] []<|aL [] [0,4,6,1,5,7,2,3] [.nw,.own 0,.own 1] [bF ((ah t.S t.i)+2)]<|RD.one 8 (RDO.ct [] [] [0] (ak ((ah t.S t.i)+2) ((t.ins.getD (t.io+((t.i).toNat)) dI).act) S7) ?_)
    rintro _ Uy QO
    refine RD.fin<|aa 2 [] λ _=>RN.draw [] []<|af [] [0,5,1,6,2,7,3,8,4,9,10] [.own 1,.own 1]<|RD.fin<|aa 1 [] λ _=>RN.em (i64.wrap (t.i+1)<t.S.players) 95 (λ P9=>?_) λ P9=>?_
    ·refine aa 1 [] λ _=>RN.draw [11] []<|af [] [0,4,1,5,2,6,3,7,8,9,10] [.own 1,.own 1]<|RD.one 11 (RDO.ct [] [] [0] (ak 2 (i64.wrap (t.i+1)) QO) ?_)
     rintro _ U7 S6
     refine RD.fin<|RN.ret [] [1] [0] (v:=.tuple #[]) (H':=(ap [(tb,.lit (Stp.l t mb) 181 (0,0))] [U7])) ?_
     refine⟨U7,rfl,?_⟩
     have e:(aW t M)=((((M.set ((ah t.S t.i)+0) ((t.ins.getD (t.io+((t.i).toNat)) dI).dx)).set ((ah t.S t.i)+1) ((t.ins.getD (t.io+((t.i).toNat)) dI).dy)).set ((ah t.S t.i)+2) ((t.ins.getD (t.io+((t.i).toNat)) dI).act)).set 2 (i64.wrap (t.i+1))):=by
      first|(simp only[aW,aZ,bu,b8,Stp.inp,if_neg h1,if_pos Uv,if_pos Yd,if_pos P9];try rfl;done)|rfl
     rw[e]
     exact S6.weak (by omega)
    ·refine aa 3 [] λ _=>RN.ct [1] [0] (b9 t 1 0 tb mb (((M.set ((ah t.S t.i)+0) ((t.ins.getD (t.io+((t.i).toNat)) dI).dx)).set ((ah t.S t.i)+1) ((t.ins.getD (t.io+((t.i).toNat)) dI).dy)).set ((ah t.S t.i)+2) ((t.ins.getD (t.io+((t.i).toNat)) dI).act)) (k+2) Uy _ QO hS.up ) ?_
     rintro _ Ym S5
     refine aa 1 [] λ _=>RN.ret [] [0] [0] (v:=.tuple #[]) (H':=(ap [(tb,.lit (Stp.l t mb) 181 (0,0))] [Ym])) ?_
     refine⟨Ym,rfl,?_⟩
     have e:(aW t M)=(aQ t 1 0 (((M.set ((ah t.S t.i)+0) ((t.ins.getD (t.io+((t.i).toNat)) dI).dx)).set ((ah t.S t.i)+1) ((t.ins.getD (t.io+((t.i).toNat)) dI).dy)).set ((ah t.S t.i)+2) ((t.ins.getD (t.io+((t.i).toNat)) dI).act))):=by
      first|(simp only[aW,aZ,bu,b8,Stp.inp,if_neg h1,if_pos Uv,if_pos Yd,if_neg P9];try rfl;done)|rfl
     rw[e]
     exact S5.weak (by omega)
   ·refine aa 4 [] λ _=>RN.draw [] []<|af [] [0,5,1,6,2,7,3,8,4,9,10] [.own 0,.own 0]<|RD.fin<|aa 1 [] λ _=>RN.em (i64.wrap (t.i+1)<t.S.players) 95 (λ h46=>?_) λ h46=>?_
    ·refine aa 1 [] λ _=>RN.draw [11] []<|af [] [0,4,1,5,2,6,3,7,8,9,10] [.own 0,.own 0]<|RD.one 11 (RDO.ct [] [] [0] (ak 2 (i64.wrap (t.i+1)) hM) ?_)
     rintro _ T47 Wc
     refine RD.fin<|RN.ret [] [0] [0] (v:=.tuple #[]) (H':=(ap [(tb,.lit (Stp.l t mb) 181 (0,0))] [T47])) ?_
     refine⟨T47,rfl,?_⟩
     have e:(aW t M)=(M.set 2 (i64.wrap (t.i+1))):=by
      first|(simp only[aW,aZ,bu,b8,Stp.inp,if_neg h1,if_pos Uv,if_neg Yd,if_pos h46];try rfl;done)|rfl
     rw[e]
     exact Wc.weak (by omega)
    ·refine aa 3 [] λ _=>RN.ct [0] [0] (b9 t 1 0 tb mb M (k+5) T _ hM hS.up ) ?_
     rintro _ Ux QN
     refine aa 1 [] λ _=>RN.ret [] [0] [0] (v:=.tuple #[]) (H':=(ap [(tb,.lit (Stp.l t mb) 181 (0,0))] [Ux])) ?_
     refine⟨Ux,rfl,?_⟩
     have e:(aW t M)=(aQ t 1 0 M):=by
      first|(simp only[aW,aZ,bu,b8,Stp.inp,if_neg h1,if_pos Uv,if_neg Yd,if_neg h46];try rfl;done)|rfl
     rw[e]
     exact QN.weak (by omega)
  ·refine af [] [3,7,4,8,5,9,6,10,11,12,13] []<|RD.fin<|aa 5 [] λ _=>RN.draw [] []<|af [] [0,5,1,6,2,7,3,8,4,9,10] [.own 0,.own 0]<|RD.fin<|aa 1 [] λ _=>RN.em (i64.wrap (t.i+1)<t.S.players) 95 (λ R9=>?_) λ R9=>?_
   ·refine aa 1 [] λ _=>RN.draw [11] []<|af [] [0,4,1,5,2,6,3,7,8,9,10] [.own 0,.own 0]<|RD.one 11 (RDO.ct [] [] [0] (ak 2 (i64.wrap (t.i+1)) hM) ?_)
    rintro _ U6 S4
    refine RD.fin<|RN.ret [] [0] [0] (v:=.tuple #[]) (H':=(ap [(tb,.lit (Stp.l t mb) 181 (0,0))] [U6])) ?_
    refine⟨U6,rfl,?_⟩
    have e:(aW t M)=(M.set 2 (i64.wrap (t.i+1))):=by
     first|(simp only[aW,aZ,bu,b8,Stp.inp,if_neg h1,if_neg Uv,if_pos R9];try rfl;done)|rfl
    rw[e]
    exact S4.weak (by omega)
   ·refine aa 3 [] λ _=>RN.ct [0] [0] (b9 t 1 0 tb mb M (k+5) T _ hM hS.up ) ?_
    rintro _ Yl S3
    refine aa 1 [] λ _=>RN.ret [] [0] [0] (v:=.tuple #[]) (H':=(ap [(tb,.lit (Stp.l t mb) 181 (0,0))] [Yl])) ?_
    refine⟨Yl,rfl,?_⟩
    have e:(aW t M)=(aQ t 1 0 M):=by
     first|(simp only[aW,aZ,bu,b8,Stp.inp,if_neg h1,if_neg Uv,if_neg R9];try rfl;done)|rfl
    rw[e]
    exact S3.weak (by omega)
end Go.Proofs.YthoijjeddhfcnaaGreatDoor
