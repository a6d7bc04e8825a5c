import Derived.Test.YtghjbimijeinfaaGreatDoorV04
set_option maxHeartbeats 4000000
set_option maxRecDepth 100000
set_option linter.all false
namespace Go.Proofs.YtghjbimijeinfaaGreatDoor
open IntKind
open Go.RowKit
section
variable {r:Option Nat} {P:Program} {N:Nat} {D:List Deferred} {F:HL} {w0:World} {R:HL} {s:Cfg} {Q:Exit -> Act -> World -> Prop} {hards:List Nat} {Rd:HL}
def dnC(i:Nat)(b:Blk)(s:Cfg):Cfg:=match s with
 | ⟨c,k,L,A,Ts⟩=>⟨c,k,L,match A[i]? with|some x=>aR A i (x.1,b)|none=>A,Ts⟩
theorem uG{A:HL}{i:Nat}{x:Nat × Blk}{b:Blk}(h:A[i]?=some x)(e:x.2.den=b.den):i2 A=i2 (aR A i (x.1,b)):=by
 rw[iU];unfold i2;rw[List.map_set];have h1:(A.map λ x=>(x.1,x.2.den))[i]?=some (x.1,b.den):=by rw[abv,h];simp[e]
 have g_:i<(A.map λ x=>(x.1,x.2.den)).length:=(List.getElem?_eq_some_iff.1 h1).1;have h2:(x.1,b.den)=(A.map λ x=>(x.1,x.2.den))[i]:=((List.getElem?_eq_some_iff.1 h1).2).symm;show _=(A.map λ x=>(x.1,x.2.den)).set i (x.1,b.den);rw[h2,List.set_getElem_self]
def dnB(i:Nat)(s:Cfg):Option Obj:=(s.A[i]?).map (·.2.den)
theorem RN.dn(i:Nat)(b:Blk)(hk:RN r P N D F w0 R (dnC i b s) Q)(h:dnB i s=some b.den:=by kernel_rfl):RN r P N D F w0 R s Q:=by
 refine⟨λ hR a w h1 h2 h3=>hk.h hR a w h1 ?_ h3⟩;obtain⟨c,k,L,A,Ts⟩:=s;unfold dnB at h;simp only[Option.map_eq_some_iff] at h;obtain⟨x,hx,e⟩:=h;unfold dnC;simp only[hx];exact h2.denA (uG hx e)
def ptC(jp:List Nat)(s:Cfg):Cfg:=match s with
 | ⟨c,k,L,A,Ts⟩=>⟨c,k,L,A,jp.filterMap (Ts[·]?)⟩
theorem oO(jp:List Nat)(hk:RN r P N D F w0 R (ptC jp s) Q)(h:jp.isPerm (List.range s.Ts.length)=true:=by kernel_rfl):RN r P N D F w0 R s Q :=
 ⟨λ hR a w h1 h2 h3=>hk.h hR a w h1 (h2.perm ((GC jp h rfl).append_right F)) h3⟩
def otC(j:Nat)(x:Nat × Blk)(s:Cfg):Cfg:=match s with
 | ⟨c,k,L,A,Ts⟩=>⟨c,k,L,x::A,(oth [j] Ts.length).filterMap (Ts[·]?)⟩
theorem qO(j:Nat){x:Nat × Blk}(hk:RN r P N D F w0 R (otC j x s) Q)(h:(s.Ts[j]?,([j]++oth [j] s.Ts.length).isPerm (List.range s.Ts.length))=(some [x],true):=by kernel_rfl):RN r P N D F w0 R s Q:=by
 simp only[Prod.mk.injEq] at h;exact⟨λ hR a w h1 h2 h3=>hk.h hR a w h1 (h2.perm ((AG _ j h.2 h.1 rfl).append_right F)) h3⟩
def R5(j:Nat)(B:HL)(Bs:List HL)(s:Cfg):Cfg:=match s with
 | ⟨c,k,L,A,Ts⟩=>⟨c,k,L,B++A,Bs++(oth [j] Ts.length).filterMap (Ts[·]?)⟩
theorem N6(j:Nat)(B:HL)(Bs:List HL){T:HL}(e:T=ap B Bs)(hk:RN r P N D F w0 R (R5 j B Bs s) Q)(h:(s.Ts[j]?,([j]++oth [j] s.Ts.length).isPerm (List.range s.Ts.length))=(some T,true):=by kernel_rfl):RN r P N D F w0 R s Q:=by
 simp only[Prod.mk.injEq] at h;refine⟨λ hR a w h1 h2 h3=>hk.h hR a w h1 (h2.perm (aa8 F ?_)) h3⟩;have h3:=(fc s.Ts [j] _ h.2).flatten;simp only[List.filterMap_cons,h.1,List.filterMap_nil,List.cons_append,List.nil_append,List.flatten_cons] at h3;show ((B++s.A)++(Bs++(oth [j] s.Ts.length).filterMap (s.Ts[·]?)).flatten).Perm (s.A++s.Ts.flatten);refine List.Perm.trans ?_ (List.Perm.append_left _ h3);subst e;rw[List.flatten_append];show ((B++s.A)++(Bs.flatten++_)).Perm (s.A++((B++Bs.flatten)++_));rw[aaF,aaF];refine List.perm_append_comm_assoc _ _ _ |>.trans ?_;exact List.Perm.refl _
def jtC(s:Cfg):Cfg:=match s with
 | ⟨c,k,L,A,T1::T2::Ts⟩=>⟨c,k,L,A,(T1++T2)::Ts⟩
 | s=>s
theorem qP(hk:RN r P N D F w0 R (jtC s) Q):RN r P N D F w0 R s Q:=by
 refine⟨λ hR a w h1 h2 h3=>?_⟩;have h4:=hk.h hR a w;unfold jtC at h4;split at h4
 ·exact h4 h1 (by simpa [ap] using h2) h3
 ·exact h4 h1 h2 h3
def ntC(s:Cfg):Cfg:=match s with
 | ⟨c,k,L,A,Ts⟩=>⟨c,k,L,A,[]::Ts⟩
theorem RN.nt(hk:RN r P N D F w0 R (ntC s) Q):RN r P N D F w0 R s Q:=⟨λ hR a w h1 h2 h3=>hk.h hR a w h1 h2 h3⟩
def svC(t:Nat)(v:Value)(s:Cfg):Cfg:=match s with
 | ⟨c,k,L,A,Ts⟩=>⟨c,k,(t,v)::L,A,Ts⟩
theorem aS(t:Nat){u v:Value}(e:u=v)(hk:RN r P N D F w0 R (svC t v s) Q)(h:s.L.lookup t=some u:=by kernel_rfl):RN r P N D F w0 R s Q:=by
 subst e;exact⟨λ hR a w h1 h2 h3=>hk.h hR a w (h1.fix h) h2 h3⟩
def Qe(i:Nat)(b:Blk)(s:Cfg):Cfg:=match s with
 | ⟨c,k,L,A,Ts⟩=>⟨c,k,L,match A[i]? with|some x=>aR A i (x.1,b)|none=>A,Ts⟩
theorem ez(i:Nat){b b':Blk}(e:b=b')(hk:RN r P N D F w0 R (Qe i b' s) Q)(h:(s.A[i]?).map (·.2)=some b:=by kernel_rfl):RN r P N D F w0 R s Q:=by
 subst e;refine⟨λ hR a w h1 h2 h3=>hk.h hR a w h1 ?_ h3⟩;obtain⟨c,k,L,A,Ts⟩:=s;simp only[Option.map_eq_some_iff] at h;obtain⟨x,hx,e⟩:=h;unfold Qe;simp only[hx];refine h2.denA (uG hx (by rw[e]))
variable {α:Type} {e:Enc α} {T:TypeId} {inf:TypeInfo} {z:Value}
def KR(P:Program)(o:Oper)(L:FL):Option (Option Addr × Nat × Nat × TypeId × Option Addr × Nat × Nat × TypeId):=match o.guard,o.op with
 | none,.call c=>match c.callee,c.args.toList,c.argTypes.toList with
  | .builtin .append,[a1,a2],[t,tx]=>match gB L a1 && gB L a2,fG L a1,fG L a2 with
   | true,.slice A n cap,.slice B m c'=>match P.underlying t,P.underlying tx with
    | some (.slice T),some (.slice _)=>some (A,n,cap,T,B,m,c',tx)
    | _,_=>none
   | _,_,_=>none
  | _,_,_=>none
 | _,_=>none
theorem uH{o:Oper}{L:FL}{A:Option Addr}{n cap:Nat}{B:Option Addr}{m c':Nat}{tx:TypeId}(h:KR P o L=some (A,n,cap,T,B,m,c',tx)) :
  ∃a1 a2 t e',o.guard=none /\ o.op=.call { callee:=.builtin .append,args:=#[a1,a2],argTypes:=#[t,tx] } /\ (gB L a1 && gB L a2)=true /\ fG L a1=.slice A n cap /\ fG L a2=.slice B m c' /\ P.underlying t=some (.slice T) /\ P.underlying tx=some (.slice e'):=by
 unfold KR at h;split at h
 case h_2=>cases h
 rename_i c hg j_;split at h
 case h_2=>cases h
 rename_i a1 a2 t tx' h1 h2 h3;split at h
 case h_2=>cases h
 rename_i A' n' f_ B' m' c2 h4 h5 h6;split at h
 case h_2=>cases h
 rename_i T' e' h7 h8;simp only[Option.some.injEq,Prod.mk.injEq] at h;obtain⟨e1,e2,e3,e4,e5,e6,e7,e8⟩:=h;subst e1;subst e2;subst e3;subst e4;subst e5;subst e6;subst e7;subst e8;refine⟨a1,a2,t,e',hg,?_,h4,h5,h6,h7,h8⟩;obtain⟨cal,args,ats⟩:=c;simp only at h1 h2 h3;subst h1;have:args=#[a1,a2]:=by cases args;simp_all
 subst this;have:ats=#[t,tx']:=by cases ats;simp_all
 subst this;exact j_
def fN(s:Cfg):Option Oper:=match s.c with
 | .ops ops i=>ops.toList[i]?
 | _=>none
def cX(i:Nat)(s:Cfg):Option Oper:=match s.c with
 | .drw ops _=>ops.toList[i]?
 | _=>none
def N7(p:Nat)(s:Cfg):Option (Nat × List Value):=match s.A[p]? with
 | some (b,.lit cs _ _)=>some (b,cs)
 | _=>none
def KS(P:Program)(N j p:Nat)(oo:Option Oper)(s:Cfg):Option (Option Addr × Nat × Nat × TypeId × Nat × List Value × HL × Nat):=match oo with
 | some o=>match KR P o s.L,N7 p s,s.Ts[j]?,([j]++oth [j] s.Ts.length).isPerm (List.range s.Ts.length) && (dV N o.dst undef s.L).isSome with
  | some (A,n,cap,T,some ⟨b,0,none⟩,m,_,_),some (_,cs),some Hl,true=>some (A,n,cap,T,m,cs,Hl,b)
  | _,_,_,_=>none
 | none=>none
def KT(p:Nat)(s:Cfg):Nat:=match N7 p s with
 | some (b,_)=>b
 | none=>0
theorem uI{j p:Nat}{oo:Option Oper}{A:Option Addr}{n cap m:Nat}{cs:List Value}{Hl:HL}(h:KS P N j p oo s=some (A,n,cap,T,m,cs,Hl,KT p s)) :
  ∃o a1 a2 t tx e' c' b ty fz,oo=some o /\ o.guard=none /\ o.op=.call { callee:=.builtin .append,args:=#[a1,a2],argTypes:=#[t,tx] } /\ (gB s.L a1 && gB s.L a2)=true /\ fG s.L a1=.slice A n cap /\ fG s.L a2=.slice (some ⟨b,0,none⟩) m c' /\ P.underlying t=some (.slice T) /\ P.underlying tx=some (.slice e') /\
   s.A[p]?=some (b,.lit cs ty fz) /\ s.Ts[j]?=some Hl /\ ([j]++oth [j] s.Ts.length).isPerm (List.range s.Ts.length)=true /\ (dV N o.dst undef s.L).isSome=true:=by
 unfold KS at h;split at h
 case h_2=>cases h
 rename_i o;split at h
 case h_2=>cases h
 rename_i A' n' f_ T' b m' c' tx b' cs' Is h1 h2 h3 h4;simp only[Option.some.injEq,Prod.mk.injEq] at h;obtain⟨e1,e2,e3,e4,e5,e6,e7,e8⟩:=h;subst e1;subst e2;subst e3;subst e4;subst e5;subst e6;subst e7;obtain⟨a1,a2,t,e',q1,q2,q3,q4,q5,q6,q7⟩:=uH h1;rw[abe] at h4;unfold KT at e8;rw[h2] at e8;simp only at e8;subst e8;unfold N7 at h2;split at h2
 case h_2=>cases h2
 rename_i b2 cs2 ty fz h5;simp only[Option.some.injEq,Prod.mk.injEq] at h2;obtain⟨e1,e2⟩:=h2;subst e1;subst e2;exact⟨o,a1,a2,t,tx,e',c',_,ty,fz,rfl,q1,q2,q3,q4,q5,q6,q7,h5,h3,h4.1,h4.2⟩
def Qf(j:Nat)(Hl:HL)(s:Cfg):Cfg:=match s with
 | ⟨c,k,L,A,Ts⟩=>⟨c,k,L,A,Hl::(oth [j] Ts.length).filterMap (Ts[·]?)⟩
theorem j8{A:HL}{Ts:List HL}{Hl:HL}{j:Nat}(hj:Ts[j]?=some Hl)(hp:([j]++oth [j] Ts.length).isPerm (List.range Ts.length)=true):(Hl++(A++((oth [j] Ts.length).filterMap (Ts[·]?)).flatten)).Perm (ap A Ts):=by
 have h3:=fc Ts [j] _ hp;simp only[List.filterMap_cons,hj,List.filterMap_nil] at h3;have h4:=h3.flatten;simp only[List.cons_append,List.nil_append,List.flatten_cons] at h4;refine List.Perm.trans ?_ (List.Perm.append_left A h4);rw[<- aaF,<- aaF];exact aa8 _ aa7
theorem eA(ok:EncOk e P T inf z)(l src:List α)(j p:Nat){A:Option Addr}{n cap:Nat}{Hl:HL}(hn:n=l.length)(hsl:SlIs e T l A cap Hl)(hb:l.length+src.length <= 100000000)
  (hk:∀ (A':Option Addr) (f_:Nat) (Is:HL),(SlIs e T (l++src) A' f_ Is /\ (bx A -> bx A')) -> RN r P N D F w0 R (Qf j Is (eH N (.slice A' (n+src.length) f_) s)) Q)
  (h:KS P N j p (fN s) s=some (A,n,cap,T,src.length,aw e src,Hl,KT p s):=by kernel_rfl):RN r P N D F w0 R s Q:=by
 obtain⟨o,a1,a2,t,tx,e',c',b,ty,fz,q0,q1,q2,q3,q4,q5,q6,q7,q8,q9,D_,SY⟩:=uI h;refine⟨λ hR a w hF aT hB=>?_⟩;obtain⟨c,k,L,B,Ts⟩:=s;unfold fN at q0;cases c with
 | code c=>cases q0
 | ex c=>cases q0
 | drw _ _=>cases q0
 | ops ops i =>
  simp only at q0 q3 q4 q5 q8 q9 D_ SY hF aT;have rW:ops.toList.drop i=o::ops.toList.drop (i+1):=by
   have g_:i<ops.toList.length:=(List.getElem?_eq_some_iff.1 q0).1;rw[List.drop_eq_getElem_cons g_,(List.getElem?_eq_some_iff.1 q0).2]
  show wpListIn _ _ _ _ _ _ _ _;rw[rW,wpListIn,if_pos (by simp[Region.wanted,q1])];refine⟨λ _ _=>trivial,?_⟩;have AT:=j8 (A:=B) q9 D_;refine iY (by rw[q2];intro c hc;cases hc) (pK (x:=vS b 0 src.length c') (src:=src) (G:=B++((oth [j] Ts.length).filterMap (Ts[·]?)).flatten) ok q2 q6 q3 q4 hn q5 AT hsl (λ w hw=>CF ok q7 p (by rw[aa4 (List.getElem?_eq_some_iff.1 q8).1];exact q8) hw) hb a hF w aT) ?_;rintro u w' ⟨⟨A',f_,Is⟩,⟨rfl,WY⟩,G_,Wl⟩;obtain⟨L',p1⟩:=dU SY (.slice A' (n+src.length) f_);have hh:=(hk A' f_ Is WY).h hR;have Tf:eH N (.slice A' (n+src.length) f_) ⟨.ops ops i,k,L,B,Ts⟩=⟨.ops ops (i+1),k,L',B,Ts⟩:=by
   unfold eH;simp only[q0,p1]
  rw[Tf] at hh;refine hh _ w' (hF.put p1) (G_.perm (aa8 F ?_)) (hB.trans Wl);show (B++(Is::(oth [j] Ts.length).filterMap (Ts[·]?)).flatten).Perm _;rw[List.flatten_cons,<- aaF,<- aaF];exact aa8 _ aa7
theorem wB{i:Nat}(ix:List Nat)(ok:EncOk e P T inf z)(l src:List α)(j p:Nat){A:Option Addr}{n cap:Nat}{Hl:HL}(hn:n=l.length)(hsl:SlIs e T l A cap Hl)(hb:l.length+src.length <= 100000000)
  (hk:∀ (A':Option Addr) (f_:Nat) (Is:HL),(SlIs e T (l++src) A' f_ Is /\ (bx A -> bx A')) -> RD r P N D F w0 R hards Rd (Qf j Is (rL N i (.slice A' (n+src.length) f_) s)) Q)
  (h:KS P N j p (cX i s) s=some (A,n,cap,T,src.length,aw e src,Hl,KT p s):=by kernel_rfl) (hx:(hards.contains i,Eh ix s)=(true,Rd):=by kernel_rfl):RDO r P N D F w0 R hards Rd i s Q:=by
 obtain⟨o,a1,a2,t,tx,e',c',b,ty,fz,q0,q1,q2,q3,q4,q5,q6,q7,q8,q9,D_,SY⟩:=uI h;obtain⟨c,k,L,B,Ts⟩:=s;unfold cX at q0;simp only[Prod.mk.injEq] at hx;cases c with
 | code c=>cases q0
 | ex c=>cases q0
 | ops _ _=>cases q0
 | drw ops li =>
  refine⟨λ hR=>?_⟩;simp only at q0 q3 q4 q5 q8 q9 D_ SY;have AT:=j8 (A:=B) q9 D_;have Tf:∀v L',dV N o.dst v L=some L' -> rL N i v ⟨.drw ops li,k,L,B,Ts⟩=⟨.drw ops (aR li i true),k,L',B,Ts⟩:=by
   intro v L' hl;unfold rL;simp only[q0,hl]
  refine(lR (Q:=Q) (by simpa using q0) (σ:=Option Addr × Nat × HL) (λ u y=>u=.slice y.1 (n+src.length) y.2.1 /\ (SlIs e T (l++src) y.1 y.2.1 y.2.2 /\ (bx A -> bx y.1))) (λ y=>ap B (y.2.2::(oth [j] Ts.length).filterMap (Ts[·]?))) SY (λ a hF=>⟨by simp[Region.wanted,q1],λ w aT hB=>?_⟩) (λ y=>⟨λ hi=>?_,λ hi x hm=>aav _ (xL ix hx.2 x hm)⟩) ?_:RDO r P N D F w0 R hards Rd i ⟨.drw ops li,k,L,B,Ts⟩ Q).h hR
  ·refine f6 (pK (x:=vS b 0 src.length c') (src:=src) (G:=B++((oth [j] Ts.length).filterMap (Ts[·]?)).flatten) ok q2 q6 q3 q4 hn q5 AT hsl (λ w hw=>CF ok q7 p (by rw[aa4 (List.getElem?_eq_some_iff.1 q8).1];exact q8) hw) hb a hF w aT) ?_;rintro u w' ⟨y,h3,G_,Wl⟩;refine⟨y,h3,G_.perm (aa8 F ?_),Wl⟩;show (B++(y.2.2::(oth [j] Ts.length).filterMap (Ts[·]?)).flatten).Perm _;rw[List.flatten_cons,<- aaF,<- aaF];exact aa8 _ aa7
  ·exact absurd (List.contains_iff_mem.1 hx.1) hi
  ·rintro u ⟨A',f_,Is⟩ ⟨rfl,h3⟩ L' hl hs;have h1:=(hk A' f_ Is h3).h hR;rw[Tf _ L' hl] at h1;exact h1 hs
end
structure MemS where
 cs:List Int
 lg:List (Int × Int)
 base:Int
def MemS.get(M:MemS)(i:Int):Int:=if 0 <= i /\ i<M.cs.length then M.cs.getD i.toNat 0 else 0
def MemS.set(M:MemS)(i v:Int):MemS:=if 0 <= i /\ i<M.cs.length then ⟨M.cs.set i.toNat v,M.lg++[(i,M.cs.getD i.toNat 0)],M.base⟩ else M
def aM(cs:List Int):Nat -> Nat -> Value:=λ i k=>match k with|0=>vI (cs.getD i 0)|_=>default
theorem gt{cs:List Int}{i:Nat}(h:i<cs.length)(v:Int):eF (aM cs) i 0 (vI v)=aM (cs.set i v):=by
 funext i' k';unfold eF aM
 by_cases h1:i'=i
 ·subst h1;rcases k' with _|k'
  ·simp[h]
  ·simp
 ·rcases k' with _|k'
  ·have:¬ i=i':=λ e=>h1 e.symm;simp[h1,List.getElem?_set,this]
  ·simp
def kQ:Enc (Int × Int):=⟨2,λ p k=>match k with|0=>vI p.1|_=>vI p.2,(0,0)⟩
noncomputable def Nc:TypeInfo:=match Tryz.prog.info? 207 with | some i=>i | none=>⟨.bool,"",0,0,false,0,0,none,false,#[]⟩
noncomputable def Nd:Value:=match Nc.zero with|some z=>z|none=>.bool false
theorem AM:EncOk kQ Tryz.prog 207 Nc Nd where
 info:=by kernel_rfl
 zero:=by kernel_rfl
 size:=by kernel_rfl
 zsize:=by kernel_rfl
 zcell:=λ k hk=>by
  have h:∀k<2,Nd.cells[k]?=some (kQ.cell kQ.dflt k):=by intro k hk;(iterate 2 (rcases k with _|k;· kernel_rfl));omega
  exact h k hk
 one:=λ x k=>by unfold kQ;dsimp only;split <;> rfl
 bytes:=aaN (by kernel_rfl)
inductive MemH(mb:Nat)(M:MemS)(k:Nat):HL -> Prop
 | mk (cb:Nat) (A:Option Addr) (cap:Nat) (Hl:HL) (hs:SlIs kQ 207 M.lg A cap Hl) (hc:M.cs.length <= 1000000) (hl:M.lg.length+k <= 100000000):MemH mb M k (ap [(mb,.lit [vS cb 0 M.cs.length M.cs.length,.slice A M.lg.length cap,vI M.base] 119 (0,0)),(cb,.rows 1 M.cs.length (aM M.cs) 3 (0,0))] [Hl])
theorem MemH.weak{mb:Nat}{M:MemS}{k k':Nat}{T:HL}(h:MemH mb M k T)(hk:k' <= k):MemH mb M k' T:=by
 cases h with
 | mk cb A cap Hl hs hc hl=>exact .mk cb A cap Hl hs hc (by omega)
theorem MemH.cast{mb:Nat}{M M':MemS}{k k':Nat}{T:HL}(h:MemH mb M k T)(e:M'=M)(hk:k' <= k):MemH mb M' k' T:=e ▸ h.weak hk
theorem MemH.put{mb:Nat}{M:MemS}{k:Nat}{i v:Int}{cb:Nat}{A:Option Addr}{cap:Nat}{Hl:HL}(h:0 <= i /\ i<M.cs.length)(hc:M.cs.length <= 1000000)(hl:M.lg.length+(k+1) <= 100000000)(hs:SlIs kQ 207 (M.lg++[(i,M.cs.getD i.toNat 0)]) A cap Hl) :
  MemH mb (M.set i v) k (ap [(mb,.lit [vS cb 0 M.cs.length M.cs.length,.slice A (M.lg.length+[(i,M.cs.getD i.toNat 0)].length) cap,vI M.base] 119 (0,0)),(cb,.rows 1 M.cs.length (eF (aM M.cs) i.toNat 0 (vI v)) 3 (0,0))] [Hl]):=by
 have e:M.set i v=⟨M.cs.set i.toNat v,M.lg++[(i,M.cs.getD i.toNat 0)],M.base⟩:=by unfold MemS.set;rw[if_pos h]
 rw[e,gt (by omega)];have:=MemH.mk (M:=⟨M.cs.set i.toNat v,M.lg++[(i,M.cs.getD i.toNat 0)],M.base⟩) (k:=k) cb A cap Hl hs (by simpa using hc) (by simp;omega) (mb:=mb);simpa using this
theorem CK(mb cb n:Nat)(A:Option Addr)(m cap:Nat)(base i:Int)(F:HL)(hm:(mb,.lit [vS cb 0 n n,.slice A m cap,vI base] 119 (0,0))∈F):Sp Tryz.prog 75 #[vP mb 0,vI i] [] F (λ u H'=>u=.bool (decide (0 <= i /\ i<n)) /\ H'=[]):=by
 refine aas Tryz.func75 rfl (mc hm mn) (A:=[]) (Ts:=[]) rfl λ w0=>?_;refine ae 10 [] λ _=>aal (0 <= i) 7 (λ h1=>?_) λ h1=>?_
 ·refine ae 11 [.ro 0] λ _=>aap [] [] [] (v:=.bool (decide (i<(n:Int)))) (H':=[]) ?_;exact⟨by simp[*],rfl⟩
 ·refine ae 11 [] λ _=>aap [] [] [] (v:=.bool false) (H':=[]) ?_;exact⟨by simp[*],rfl⟩
theorem KU(mb cb:Nat)(cs:List Int)(A:Option Addr)(m cap:Nat)(base i:Int)(lg:List (Int × Int))(F:HL)(hm:(mb,.lit [vS cb 0 cs.length cs.length,.slice A m cap,vI base] 119 (0,0))∈F)(hc:(cb,.rows 1 cs.length (aM cs) 3 (0,0))∈F)(hn:cs.length <= 1000000):Sp Tryz.prog 29 #[vP mb 0,vI i] [] F (λ u H'=>u=vI (MemS.get ⟨cs,lg,base⟩ i) /\ H'=[]):=by
 refine aas Tryz.func29 rfl (mc hm (mc hc mn)) (A:=[]) (Ts:=[]) rfl λ w0=>?_;refine ae 10 [] λ _=>aah (CK mb cb cs.length A m cap base i _ (aq hm))<|ae 3 [] λ _=>aam (0 <= i /\ i<cs.length) 8 (λ h1=>?_) λ h1=>?_
 ·refine ai 15 [.ro 0,.ix ((i).toNat),.rorow 1 ((i).toNat) 0] [(0+((i).toNat)*1)=((i).toNat)*1+0 /\ ((i).toNat)<cs.length,i=(((i).toNat:Nat):Int) /\ (i).toNat<cs.length] λ _=>aap [] [] [] (v:=vI (cs.getD ((i).toNat) 0)) (H':=[]) ?_;exact⟨by simp[MemS.get, *],rfl⟩
 ·refine ae 6 [] λ _=>aap [] [] [] (v:=vI 0) (H':=[]) ?_;exact⟨by simp[MemS.get, *],rfl⟩
theorem ar{mb:Nat}{M:MemS}{k:Nat}{T:HL}(i:Int){F:HL}(h:MemH mb M k T)(hs:∀x∈T,x∈F):Sp Tryz.prog 29 #[vP mb 0,vI i] [] F (λ u H'=>u=vI (M.get i) /\ H'=[]):=by
 cases h with
 | mk cb A cap Hl hsl hc hl=>exact KU mb cb M.cs A M.lg.length cap M.base i M.lg F (hs _ (by simp)) (hs _ (by simp)) hc
theorem jF{mb:Nat}{M:MemS}{k:Nat}{T:HL}(i:Int){c:Int}(e:M.get i=c){F:HL}(h:MemH mb M k T)(hs:∀x∈T,x∈F):Sp Tryz.prog 29 #[vP mb 0,vI i] [] F (λ u H'=>u=vI c /\ H'=[]):=e ▸ ar i h hs
theorem KV(mb cb:Nat)(M:MemS)(k:Nat)(A:Option Addr)(cap:Nat)(i v:Int)(Hl:HL)(F:HL)(hs:SlIs kQ 207 M.lg A cap Hl)(hc:M.cs.length <= 1000000)(hl:M.lg.length+(k+1) <= 100000000):Sp Tryz.prog 178 #[vP mb 0,vI i,vI v] (ap [(mb,.lit [vS cb 0 M.cs.length M.cs.length,.slice A M.lg.length cap,vI M.base] 119 (0,0)),(cb,.rows 1 M.cs.length (aM M.cs) 3 (0,0))] [Hl]) F (λ u H'=>MemH mb (M.set i v) k H'):=by
 refine aas Tryz.func178 rfl mn (A:=[(mb,.lit [vS cb 0 M.cs.length M.cs.length,.slice A M.lg.length cap,vI M.base] 119 (0,0)),(cb,.rows 1 M.cs.length (aM M.cs) 3 (0,0))]) (Ts:=[Hl]) rfl λ w0=>?_;refine ae 5 [] λ _=>aah (CK mb cb M.cs.length A M.lg.length cap M.base i _ (au 0))<|ae 3 [] λ _=>aam (0 <= i /\ i<M.cs.length) 9 (λ h1=>?_) λ h1=>?_
 ·refine ae 4 [] λ _=>aak [15,18] []<|aF [] [0,1,5,6,10,2,7,3,8,4,9,11,12,13] [.own 0,.own 0,.ix ((i).toNat),.row 1 ((i).toNat) 0] [(0+((i).toNat)*1)=((i).toNat)*1+0 /\ ((i).toNat)<M.cs.length,i=(((i).toNat:Nat):Int) /\ (i).toNat<M.cs.length]<|aae 14 (aag [] [] λ n3=>?_);refine aae 15 (wB [] AM M.lg [(i,M.cs.getD i.toNat 0)] 0 0 rfl hs (by simp;omega) ?_);rintro A4 c5 T6 ⟨hs7,hz8⟩;refine ag [] [16,17] []<|aae 18 (aag [] [.own 1] λ _=>?_);refine aad<|ai 11 [.own 1,.ix ((i).toNat),.row 2 ((i).toNat) 0] [(0+((i).toNat)*1)=((i).toNat)*1+0 /\ ((i).toNat)<M.cs.length,i=(((i).toNat:Nat):Int) /\ (i).toNat<M.cs.length] λ _=>aap [] [1,2] [0] (v:=.tuple #[]) (H':=(ap [(mb,.lit [vS cb 0 M.cs.length M.cs.length,.slice A4 (M.lg.length+([(i,M.cs.getD i.toNat 0)]).length) c5,vI M.base] 119 (0,0)),(cb,.rows 1 M.cs.length (eF (aM M.cs) ((i).toNat) 0 (vI v)) 3 (0,0))] [T6])) ?_;exact MemH.put (by omega) hc (by omega) hs7
 ·refine ae 1 [] λ _=>aap [] [0,1] [0] (v:=.tuple #[]) (H':=(ap [(mb,.lit [vS cb 0 M.cs.length M.cs.length,.slice A M.lg.length cap,vI M.base] 119 (0,0)),(cb,.rows 1 M.cs.length (aM M.cs) 3 (0,0))] [Hl])) ?_;have e:M.set i v=M:=by unfold MemS.set;rw[if_neg (by assumption)]
  rw[e];exact .mk cb A cap Hl hs hc (by omega)
theorem aj{mb:Nat}{M:MemS}{k:Nat}{T:HL}(i v:Int){F:HL}(h:MemH mb M (k+1) T):Sp Tryz.prog 178 #[vP mb 0,vI i,vI v] (ap [] [T]) F (λ u H'=>∃x,H'=ap ((λ _=>[]) x) ((λ x=>[x]) x) /\ MemH mb (M.set i v) k x):=by
 cases h with
 | mk cb A cap Hl hsl hc hl =>
  have e:∀T:HL,ap [] [T]=T:=λ T=>by simp
  have:=KV mb cb M k A cap i v Hl F hsl hc hl;rw[e];exact this.mono λ u H' h=>⟨H',(e H').symm,h⟩
structure Bod where (sh:Shp) (mot:Mot) (a b:Int)
abbrev dB:Bod:=⟨⟨0,[],none,0⟩,⟨0,0,0,0,0⟩,0,0⟩
def lI:Enc Bod:=⟨9,λ p k=>match k with|0=>vI p.sh.r|1=>.slice p.sh.A p.sh.poly.length p.sh.cap|2=>vI p.mot.px|3=>vI p.mot.py|4=>vI p.mot.vx|5=>vI p.mot.vy|6=>vI p.mot.inv|7=>vI p.a|_=>vI p.b,dB⟩
noncomputable def Nf:TypeInfo:=match Tryz.prog.info? 106 with | some i=>i | none=>⟨.bool,"",0,0,false,0,0,none,false,#[]⟩
noncomputable def Ng:Value:=match Nf.zero with|some z=>z|none=>.bool false
theorem wC:EncOk lI Tryz.prog 106 Nf Ng where
 info:=by kernel_rfl
 zero:=by kernel_rfl
 size:=by kernel_rfl
 zsize:=by kernel_rfl
 zcell:=λ k hk=>by
  have h:∀k<9,Ng.cells[k]?=some (lI.cell lI.dflt k):=by intro k hk;(iterate 9 (rcases k with _|k;· kernel_rfl));omega
  exact h k hk
 one:=λ x k=>by unfold lI;dsimp only;split <;> rfl
 bytes:=aaN (by kernel_rfl)
abbrev gz(l:List Bod):Nat -> Nat -> Value:=bu lI l
structure Setup where
 players:Int
 bb:Nat
 bo:Nat
 nb:Nat
 bc:Nat
 bR:Nat
 bods:List Bod
 box:Bx
 rA:Option Addr
 rn:Nat
 rc:Nat
 dA:Option Addr
 dn:Nat
 dc:Nat
 fog:Int
 g:V2
 push:Int
 drag:Int
 rest:Int
 rounds:Int
 fuel:Int
def Setup.body(S:Setup)(k:Nat):Bod:=S.bods.getD (S.bo+k) dB
structure SetN(S:Setup):Prop where
 pl:0 <= S.players /\ S.players <= 1000000
 nb:S.nb <= 1000000
structure SetIn(F:HL)(S:Setup):Prop extends SetN S where
 blk:(S.bb,.rows 9 S.bR (gz S.bods) 106 (0,0))∈F
 room:S.bo+S.nb <= S.bR
 shp:∀k,k<S.nb -> ShIn F (S.body k).sh
theorem SetIn.up{F X:HL}{S:Setup}(h:SetIn F S):SetIn (X++F) S :=
 ⟨h.toSetN,aau _ h.blk,h.room,λ k hk=>(h.shp k hk).mono λ x hx=>aau _ hx⟩
def ah(S:Setup)(k:Int):Int:=if k<0 then -1 else if k >= S.players then -1 else 48+4*k
def af(S:Setup)(k:Int):Int:=if k<0 then -1 else if k >= S.nb then -1 else 48+4*S.players+8*k
def sizeOf(S:Setup):Int:=48+4*S.players+8*S.nb
theorem ge{S:Setup}(h:SetN S)(k:Int):(-1 <= ah S k /\ ah S k <= 1000000000) /\ (ah S k<0 \/ (0 <= k /\ k<S.players)):=by
 have:=h.pl;unfold ah;split
 ·omega
 ·split <;> omega
theorem cK{S:Setup}(h:SetN S)(k:Int):(-1 <= af S k /\ af S k <= 1000000000) /\ (af S k<0 \/ (0 <= k /\ k<S.nb)):=by
 have:=h.pl;have:=h.nb;unfold af;split
 ·omega
 ·split <;> omega
abbrev Setup.v(S:Setup):Value:=.agg #[vI S.players,vS S.bb (S.bo*9) S.nb S.bc,vI S.box.x0,vI S.box.y0,vI S.box.x1,vI S.box.y1,.slice S.rA S.rn S.rc,.slice S.dA S.dn S.dc,vI S.fog,vI S.g.x,vI S.g.y,vI S.push,vI S.drag,vI S.rest,vI S.rounds,vI S.fuel]
abbrev Setup.l(S:Setup):List Value:=[vI S.players,vS S.bb (S.bo*9) S.nb S.bc,vI S.box.x0,vI S.box.y0,vI S.box.x1,vI S.box.y1,.slice S.rA S.rn S.rc,.slice S.dA S.dn S.dc,vI S.fog,vI S.g.x,vI S.g.y,vI S.push,vI S.drag,vI S.rest,vI S.rounds,vI S.fuel]
theorem gh(S:Setup)(k:Int)(F:HL)(hn:SetN S):Sp Tryz.prog 46 #[(Setup.v S),vI k] [] F (λ u H'=>u=vI (ah S k) /\ H'=[]):=by
 have h1:=hn.pl;have h2:=hn.nb;refine aas Tryz.func46 rfl mn (A:=[]) (Ts:=[]) rfl λ w0=>?_;refine ae 12 [] λ n1=>aal (k<0) 7 (λ h2=>?_) λ h2=>?_
 ·refine ae 13 [] λ _=>aap [] [] [] (v:=vI (-1)) (H':=[]) ?_;refine⟨?_,rfl⟩;simp only[ah,if_pos h2]
 ·refine ae 7 [.own 0] λ _=>aal (k >= S.players) 12 (λ h3=>?_) λ h3=>?_
  ·refine ae 6 [] λ _=>aap [] [] [] (v:=vI (-1)) (H':=[]) ?_;refine⟨?_,rfl⟩;simp only[ah,if_neg h2,if_pos h3]
  ·refine ai 11 [.nw,.nw] [bm (48+(4*k)),bm (4*k)] λ _=>aap [] [] [] (v:=vI (48+(4*k))) (H':=[]) ?_;refine⟨?_,rfl⟩;simp only[ah,if_neg h2,if_neg h3]
theorem cL(S:Setup)(k:Int)(F:HL)(hn:SetN S):Sp Tryz.prog 32 #[(Setup.v S),vI k] [] F (λ u H'=>u=vI (af S k) /\ H'=[]):=by
 have h1:=hn.pl;have h2:=hn.nb;refine aas Tryz.func32 rfl mn (A:=[]) (Ts:=[]) rfl λ w0=>?_;refine ae 12 [] λ n1=>aal (k<0) 7 (λ h2=>?_) λ h2=>?_
 ·refine ae 14 [] λ _=>aap [] [] [] (v:=vI (-1)) (H':=[]) ?_;refine⟨?_,rfl⟩;simp only[af,if_pos h2]
 ·refine ae 8 [.own 0] λ _=>aal (k >= (S.nb:Int)) 13 (λ h3=>?_) λ h3=>?_
  ·refine ae 6 [] λ _=>aap [] [] [] (v:=vI (-1)) (H':=[]) ?_;refine⟨?_,rfl⟩;simp only[af,if_neg h2,if_pos h3]
  ·refine ai 15 [.own 0,.nw,.nw,.nw,.nw] [bm ((48+(4*S.players))+(8*k)),bm (8*k),bm (48+(4*S.players)),bm (4*S.players)] λ _=>aap [] [] [] (v:=vI ((48+(4*S.players))+(8*k))) (H':=[]) ?_;refine⟨?_,rfl⟩;simp only[af,if_neg h2,if_neg h3]
theorem uJ(S:Setup)(F:HL)(hn:SetN S):Sp Tryz.prog 27 #[(Setup.v S)] [] F (λ u H'=>u=vI (sizeOf S) /\ H'=[]):=by
 have h1:=hn.pl;have h2:=hn.nb;refine aas Tryz.func27 rfl mn (A:=[]) (Ts:=[]) rfl λ w0=>?_;refine ai 20 [.own 0,.nw,.nw,.own 0,.nw,.nw] [bm ((48+(4*S.players))+(8*(S.nb:Int))),bm (8*(S.nb:Int)),bm (48+(4*S.players)),bm (4*S.players)] λ n1=>?_;exact aap [] [] [] ⟨rfl,rfl⟩
structure Inp where (dx dy act:Int)
abbrev dI:Inp:=⟨0,0,0⟩
structure Ins where (op n:Int)
abbrev dIns:Ins:=⟨0,0⟩
structure Eff where (t i k v:Int)
abbrev aaa(x:Eff):List Value:=[vI x.t,vI x.i,vI x.k,vI x.v]
abbrev bz:Eff:=⟨0,0,0,0⟩
def iE:Enc Inp:=⟨3,λ p k=>match k with|0=>vI p.dx|1=>vI p.dy|_=>vI p.act,dI⟩
noncomputable def Nh:TypeInfo:=match Tryz.prog.info? 151 with | some i=>i | none=>⟨.bool,"",0,0,false,0,0,none,false,#[]⟩
noncomputable def Ni:Value:=match Nh.zero with|some z=>z|none=>.bool false
theorem sk:EncOk iE Tryz.prog 151 Nh Ni where
 info:=by kernel_rfl
 zero:=by kernel_rfl
 size:=by kernel_rfl
 zsize:=by kernel_rfl
 zcell:=λ k hk=>by
  have h:∀k<3,Ni.cells[k]?=some (iE.cell iE.dflt k):=by intro k hk;(iterate 3 (rcases k with _|k;· kernel_rfl));omega
  exact h k hk
 one:=λ x k=>by unfold iE;dsimp only;split <;> rfl
 bytes:=aaN (by kernel_rfl)
abbrev j9(l:List Inp):Nat -> Nat -> Value:=bu iE l
structure Stp where
 S:Setup
 cA:Option Addr
 cn:Nat
 cc:Nat
 e0:Int
 e1:Int
 e2:Int
 version:Int
 ib:Nat
 io:Nat
 ni:Nat
 ic:Nat
 iR:Nat
 ins:List Inp
 i:Int
 j:Int
 ended:Bool
 f0:Int
 f1:Int
 f2:Int
 f3:Int
 emitted:Bool
 code:List Ins
def Stp.inp(t:Stp)(k:Nat):Inp:=t.ins.getD (t.io+k) dI
def movP(S:Setup)(k:Int):Prop:=(0 <= k /\ k<S.nb) /\ (S.body k.toNat).mot.inv>0
instance (S:Setup) (k:Int):Decidable (movP S k):=inferInstanceAs (Decidable (_ /\ _))
theorem movP.has{S:Setup}{k:Int}(h:movP S k):0 <= k /\ k<S.nb:=h.1
def al(S:Setup)(M:MemS)(k:Int):Mot:=⟨M.get (af S k+0),M.get (af S k+1),M.get (af S k+2),M.get (af S k+3),(S.body k.toNat).mot.inv⟩
def aO(t:Stp)(ph j:Int)(M:MemS):MemS:=((M.set 1 ph).set 2 0).set 3 j
def du(t:Stp)(k:Int)(m:Mot)(M:MemS):MemS:=(((M.set (af t.S k+0) m.px).set (af t.S k+1) m.py).set (af t.S k+2) m.vx).set (af t.S k+3) m.vy
def dK(t:Stp)(c sp pos lo hi:Int)(M:MemS):MemS:=if aG pos lo hi=pos then M.set c (aG pos lo hi) else (M.set c (aG pos lo hi)).set sp (aV (0-gy ((M.set c (aG pos lo hi)).get sp) t.S.rest))
def aW(t:Stp)(M:MemS):MemS:=if t.i=0 then (M.set 13 t.version).set 11 0 else M
def br(t:Stp)(M:MemS):MemS:=if ah t.S t.i >= 0 then if t.i<t.ni then ((M.set (ah t.S t.i+0) (t.inp t.i.toNat).dx).set (ah t.S t.i+1) (t.inp t.i.toNat).dy).set (ah t.S t.i+2) (t.inp t.i.toNat).act else M else M
def b6(t:Stp)(M:MemS):MemS:=if aV (t.i+1)<t.S.players then M.set 2 (aV (t.i+1)) else aO t 1 0 M
def aP(t:Stp)(M:MemS):MemS:=b6 t (br t (aW t M))
abbrev Stp.l(t:Stp)(mb:Nat):List Value:=[.iface 40 (vP mb 0),vI t.S.players,vS t.S.bb (t.S.bo*9) t.S.nb t.S.bc,vI t.S.box.x0,vI t.S.box.y0,vI t.S.box.x1,vI t.S.box.y1,.slice t.S.rA t.S.rn t.S.rc,.slice t.S.dA t.S.dn t.S.dc,vI t.S.fog,vI t.S.g.x,vI t.S.g.y,vI t.S.push,vI t.S.drag,vI t.S.rest,vI t.S.rounds,vI t.S.fuel,.slice t.cA t.cn t.cc,vI t.e0,vI t.e1,vI t.e2,vI t.version,vS t.ib (t.io*3) t.ni t.ic,vI t.i,vI t.j,.bool t.ended,vI t.f0,vI t.f1,vI t.f2,vI t.f3,.bool t.emitted]
abbrev Stp.lp(t:Stp)(mb:Nat):List Value:=[.iface 40 (vP mb 0),vI t.S.players,vS t.S.bb (t.S.bo*9) t.S.nb t.S.bc,vI t.S.box.x0,vI t.S.box.y0,vI t.S.box.x1,vI t.S.box.y1,.slice t.S.rA t.S.rn t.S.rc,.slice t.S.dA t.S.dn t.S.dc,vI t.S.fog,vI t.S.g.x,vI t.S.g.y,vI t.S.push,vI t.S.drag,vI t.S.rest,vI t.S.rounds,vI t.S.fuel,.slice t.cA t.cn t.cc,vI t.e0,vI t.e1,vI t.e2,vI t.version,vS t.ib (t.io*3) t.ni t.ic,vI t.i,vI t.j,.bool t.ended]
theorem rM(t:Stp)(k:Int)(tb mb:Nat)(F:HL)(hb:(tb,.lit (Stp.l t mb) 140 (0,0))∈F):Sp Tryz.prog 95 #[vP tb 0,vI k] [] F (λ u H'=>u=.bool (decide (0 <= k /\ k<t.S.nb)) /\ H'=[]):=by
 refine aas Tryz.func95 rfl (mc hb mn) (A:=[]) (Ts:=[]) rfl λ w0=>?_;refine ae 10 [] λ _=>aal (k >= 0) 7 (λ h1=>?_) λ h1=>?_
 ·refine ae 12 [.ro 0] λ _=>aap [] [] [] (v:=.bool (decide (k<(t.S.nb:Int)))) (H':=[]) ?_;exact⟨by simp[*],rfl⟩
 ·refine ae 12 [] λ _=>aap [] [] [] (v:=.bool false) (H':=[]) ?_;exact⟨by simp[*],rfl⟩
theorem jG(t:Stp)(k:Int)(tb mb:Nat)(F:HL)(hb:(tb,.lit (Stp.l t mb) 140 (0,0))∈F)(hS:SetIn F t.S):Sp Tryz.prog 88 #[vP tb 0,vI k] [] F (λ u H'=>u=.bool (decide (movP t.S k)) /\ H'=[]):=by
 have hn:=hS.nb;have hr:=hS.room;refine aas Tryz.func88 rfl (mc hb (mc hS.blk mn)) (A:=[]) (Ts:=[]) rfl λ w0=>?_;refine ae 9 [] λ _=>aah (rM t k tb mb _ (aau _ hb))<|ae 1 [] λ _=>aal (0 <= k /\ k<t.S.nb) 8 (λ h1=>?_) λ h1=>?_
 ·refine ai 15 [.ro 0,.ix ((k).toNat),.rorow 1 (t.S.bo+((k).toNat)) 6] [((t.S.bo*9+((k).toNat)*9)+6)=(t.S.bo+((k).toNat))*9+6 /\ (t.S.bo+((k).toNat))<t.S.bR,k=(((k).toNat:Nat):Int) /\ (k).toNat<t.S.nb] λ _=>aap [] [] [] (v:=.bool (decide ((t.S.bods.getD (t.S.bo+((k).toNat)) dB).mot.inv>0))) (H':=[]) ?_;refine⟨?_,rfl⟩;simp[movP,Setup.body, *]
 ·refine ae 15 [] λ _=>aap [] [] [] (v:=.bool false) (H':=[]) ?_;refine⟨?_,rfl⟩;simp[movP,Setup.body, *]
theorem f7(t:Stp)(i:Int)(tb mb:Nat)(M:MemS)(k:Nat)(T F:HL)(hb:(tb,.lit (Stp.l t mb) 140 (0,0))∈F)(hS:SetIn F t.S)(hM:MemH mb M k T)(hT:∀x∈T,x∈F)(hi:0 <= i /\ i<t.S.nb):Sp Tryz.prog 89 #[vP tb 0,vI i] [] F (λ u H'=>u=.agg #[vI ((al t.S M i).px),vI ((al t.S M i).py),vI ((al t.S M i).vx),vI ((al t.S M i).vy),vI ((al t.S M i).inv)] /\ H'=[]):=by
 have hp:=hS.pl;have hn:=hS.nb;have hr:=hS.room;refine aas Tryz.func89 rfl (mc hb (mc hS.blk mn)) (A:=[]) (Ts:=[]) rfl λ w0=>?_;refine ae 12 [.ro 0,.ro 0,.ro 0,.ro 0,.ro 0,.ro 0,.ro 0,.ro 0,.ro 0,.ro 0,.ro 0,.ro 0,.ro 0,.ro 0,.ro 0,.ro 0] λ n1=>aah (cL t.S i _ hS.toSetN) ?_;have VF:=cK hS.toSetN i;refine ae 4 [] λ _=>aak [41] []<|aF [] [0,4,7,11,15,19,22,26,30,35,1,5,8,12,16,20,23,27,31,2,9,17,24,32,3,10,18,25,33,34,36,37,38,39] [.nw,.nw,.nw,.nw,.ro 0,.ro 0,.ro 0,.ro 0,.ro 0,.ix ((i).toNat),.rorow 1 (t.S.bo+((i).toNat)) 6] [((t.S.bo*9+((i).toNat)*9)+6)=(t.S.bo+((i).toNat))*9+6 /\ (t.S.bo+((i).toNat))<t.S.bR,i=(((i).toNat:Nat):Int) /\ (i).toNat<t.S.nb,bm ((af t.S i)+3),bm ((af t.S i)+2),bm ((af t.S i)+1),bm ((af t.S i)+0)]<|aac [] 6 (λ X_=>(ar ((af t.S i)+0) hM (λ x hx=>aau _ (aau _ (hT x hx)))))<|aac [] 13 (λ X_=>(ar ((af t.S i)+1) hM (λ x hx=>aau _ (aau _ (hT x hx)))))<|ag [] [14] []<|aac [] 21 (λ X_=>(ar ((af t.S i)+2) hM (λ x hx=>aau _ (aau _ (hT x hx)))))<|aac [] 28 (λ X_=>(ar ((af t.S i)+3) hM (λ x hx=>aau _ (aau _ (hT x hx)))))<|ag [] [29,40] []<|aae 41 (aag [] (ow 0 5) λ _=>?_);refine aad<|ae 1 [] λ _=>?_;exact aap (ow 0 5) [] [] ⟨rfl,rfl⟩
theorem bV(t:Stp)(ph:Int)(j:Int)(tb mb:Nat)(M:MemS)(k:Nat)(T F:HL)(hM:MemH mb M (k+3) T)(hS:SetIn F t.S) :Sp Tryz.prog 85 #[vP tb 0,vI ph,vI j] (ap [(tb,.lit (Stp.l t mb) 140 (0,0))] [T]) F (λ u H'=>∃x,H'=ap [(tb,.lit (Stp.l t mb) 140 (0,0))] [x] /\ (MemH mb (aO t ph j M) k x)):=by
 have hp:=hS.pl;have hn:=hS.nb;have hr:=hS.room;refine aas Tryz.func85 rfl (mc hS.blk mn) (A:=[(tb,.lit (Stp.l t mb) 140 (0,0))]) (Ts:=[T]) rfl λ w0=>?_;refine ae 7 [.own 0] λ _=>aai [] [0] (aj 1 ph hM) ?_;rintro _ T1 XP;refine ae 8 [.own 0] λ _=>aai [] [0] (aj 2 0 XP) ?_;rintro _ T3 H_;refine ae 8 [.own 0] λ _=>aai [] [0] (aj 3 j H_) ?_;rintro _ T5 TU;refine ae 1 [] λ _=>aap [] [0] [0] (v:=.tuple #[]) (H':=(ap [(tb,.lit (Stp.l t mb) 140 (0,0))] [T5])) ?_;refine⟨T5,rfl,?_⟩;have e:(aO t ph j M)=(((M.set 1 ph).set 2 0).set 3 j):=by
  first|(simp only[aO];try rfl;done)|rfl
 rw[e];exact TU.weak (by omega)
theorem ne(t:Stp)(i:Int)(m:Mot)(tb mb:Nat)(M:MemS)(k:Nat)(T F:HL)(hM:MemH mb M (k+4) T)(hS:SetIn F t.S) :Sp Tryz.prog 157 #[vP tb 0,vI i,.agg #[vI m.px,vI m.py,vI m.vx,vI m.vy,vI m.inv]] (ap [(tb,.lit (Stp.l t mb) 140 (0,0))] [T]) F (λ u H'=>∃x,H'=ap [(tb,.lit (Stp.l t mb) 140 (0,0))] [x] /\ (MemH mb (du t i m M) k x)):=by
 have hp:=hS.pl;have hn:=hS.nb;have hr:=hS.room;refine aas Tryz.func157 rfl (mc hS.blk mn) (A:=[(tb,.lit (Stp.l t mb) 140 (0,0))]) (Ts:=[T]) rfl λ w0=>?_;refine ae 12 (ow 1 16) λ n1=>aah (cL t.S i _ hS.toSetN) ?_;have VF:=cK hS.toSetN i;refine ae 4 [] λ _=>aak [9] []<|aF [] [0,4,6,1,5,7,2,8,3] [.nw,.own 0,.own 1] [bm ((af t.S i)+0)]<|aae 9 (aaf [] [] [0] (aj ((af t.S i)+0) m.px hM) ?_);rintro _ T3 H_;refine aad<|ae 2 [] λ _=>aak [9] []<|aF [] [0,4,6,1,5,7,2,8,3] [.nw,.own 0,.own 1] [bm ((af t.S i)+1)]<|aae 9 (aaf [] [] [0] (aj ((af t.S i)+1) m.py H_) ?_);rintro _ T5 TU;refine aad<|ae 2 [] λ _=>aak [9] []<|aF [] [0,4,6,1,5,7,2,8,3] [.nw,.own 0,.own 1] [bm ((af t.S i)+2)]<|aae 9 (aaf [] [] [0] (aj ((af t.S i)+2) m.vx TU) ?_);rintro _ T7 UU;refine aad<|ae 1 [] λ _=>aak [9] []<|aF [] [0,4,6,1,5,7,2,8,3] [.nw,.own 0,.own 1] [bm ((af t.S i)+3)]<|aae 9 (aaf [] [] [0] (aj ((af t.S i)+3) m.vy UU) ?_);rintro _ T9 Ug;refine aad<|aap [] [1] [0] (v:=.tuple #[]) (H':=(ap [(tb,.lit (Stp.l t mb) 140 (0,0))] [T9])) ?_;refine⟨T9,rfl,?_⟩;have e:(du t i m M)=((((M.set ((af t.S i)+0) m.px).set ((af t.S i)+1) m.py).set ((af t.S i)+2) m.vx).set ((af t.S i)+3) m.vy):=by
  first|(simp only[du];try rfl;done)|rfl
 rw[e];exact Ug.weak (by omega)
theorem uK(t:Stp)(c:Int)(s:Int)(pos:Int)(lo:Int)(hi:Int)(tb mb:Nat)(M:MemS)(k:Nat)(T F:HL)(hM:MemH mb M (k+2) T)(hS:SetIn F t.S) :Sp Tryz.prog 160 #[vP tb 0,vI c,vI s,vI pos,vI lo,vI hi] (ap [(tb,.lit (Stp.l t mb) 140 (0,0))] [T]) F (λ u H'=>∃x,H'=ap [(tb,.lit (Stp.l t mb) 140 (0,0))] [x] /\ (MemH mb (dK t c s pos lo hi M) k x)):=by
 have hp:=hS.pl;have hn:=hS.nb;have hr:=hS.room;refine aas Tryz.func160 rfl (mc hS.blk mn) (A:=[(tb,.lit (Stp.l t mb) 140 (0,0))]) (Ts:=[T]) rfl λ w0=>?_;refine ae 5 [] λ _=>aah (cJ pos lo hi  _)<|ae 11 [.own 0] λ _=>aai [] [0] (aj c (aG pos lo hi) hM) ?_;rintro _ T1 XP;refine ae 9 [] λ _=>aam (aG pos lo hi=pos) 26 (λ h3=>?_) λ h3=>?_
 ·refine ae 2 [] λ _=>aap [] [0] [0] (v:=.tuple #[]) (H':=(ap [(tb,.lit (Stp.l t mb) 140 (0,0))] [T1])) ?_;refine⟨T1,rfl,?_⟩;have e:(dK t c s pos lo hi M)=(M.set c (aG pos lo hi)):=by
   first|(simp only[dK,if_pos h3];try rfl;done)|rfl
  rw[e];exact XP.weak (by omega)
 ·refine ae 1 [] λ _=>aak [20] []<|ag [] [0,4,5,9,11,1,6,12,2,7,13,3,8,14,15,18,19] (aab 3)<|aac [] 10 (λ X_=>(ar s XP (aQ 0)))<|aac [] 16 (λ X_=>(oM ((M.set c (aG pos lo hi)).get s) t.S.rest  _))<|ag [] [17] []<|aae 20 (aaf [] [] [0] (aj s (i64.wrap (0-(gy ((M.set c (aG pos lo hi)).get s) t.S.rest))) XP) ?_);rintro _ T4 UW;refine aad<|aap [] [0] [0] (v:=.tuple #[]) (H':=(ap [(tb,.lit (Stp.l t mb) 140 (0,0))] [T4])) ?_;refine⟨T4,rfl,?_⟩;have e:(dK t c s pos lo hi M)=((M.set c (aG pos lo hi)).set s (i64.wrap (0-(gy ((M.set c (aG pos lo hi)).get s) t.S.rest)))):=by
   first|(simp only[dK,if_neg h3];try rfl;done)|rfl
  rw[e];exact UW.weak (by omega)
theorem Eu(t:Stp)  (tb mb:Nat) (M:MemS) (k:Nat) (T F:HL) (hM:MemH mb M (k+8) T) (hS:SetIn F t.S) (hI:(t.ib,.rows 3 t.iR (j9 t.ins) 151 (0,0))∈F) (hir:t.io+t.ni <= t.iR /\ t.ni <= 1000000):Sp Tryz.prog 49 #[vP tb 0] (ap [(tb,.lit (Stp.l t mb) 140 (0,0))] [T]) F (λ u H'=>∃x,H'=ap [(tb,.lit (Stp.l t mb) 140 (0,0))] [x] /\ (MemH mb (aP t M) k x)):=by
 have hp:=hS.pl;have hn:=hS.nb;have hr:=hS.room;refine aas Tryz.func49 rfl (mc hS.blk (mc hI mn)) (A:=[(tb,.lit (Stp.l t mb) 140 (0,0))]) (Ts:=[T]) rfl λ w0=>?_;refine ae 10 [.own 0] λ _=>aal (t.i=0) 8 (λ h1=>?_) λ h1=>?_
 ·refine ae 2 [] λ _=>aak [10] []<|ag [] [0,4,1,5,2,6,3,7,8,9] (aab 2)<|aae 10 (aaf [] [] [0] (aj 13 t.version hM) ?_);rintro _ T2 Us;refine aad<|ae 6 [.own 0] λ _=>aai [] [0] (aj 11 0 Us) ?_;rintro _ T4 UW;refine ae 4 [] λ _=>aak [] []<|ag [] [0,4,1,5,2,6,3,7] (ow 0 17)<|aac [] 8 (λ X_=>(gh t.S t.i _ hS.toSetN)) ?_;have hb6:=ge hS.toSetN t.i;refine ag [] [9] []<|aad<|ae 2 [] λ _=>aak [] []<|ag [] [0,1,2] []<|RD.em (ah t.S t.i >= 0) 36 (λ h7=>?_) λ h7=>?_
  ·refine ag [] [3,7,4,8,5,9,6,10,11,12,13] (aab 2)<|aad<|ae 1 [] λ _=>aal (t.i<(t.ni:Int)) 47 (λ h8=>?_) λ h8=>?_
   ·refine ae 2 [] λ _=>aak [11] []<|aF [] [0,4,1,5,2,6,3,7,8,9] [.own 0,.own 0,.ix ((t.i).toNat),.rorow 1 (t.io+((t.i).toNat)) 0,.rorow 1 (t.io+((t.i).toNat)) 1,.rorow 1 (t.io+((t.i).toNat)) 2] [((t.io*3+((t.i).toNat)*3)+2)=(t.io+((t.i).toNat))*3+2 /\ (t.io+((t.i).toNat))<t.iR,((t.io*3+((t.i).toNat)*3)+1)=(t.io+((t.i).toNat))*3+1 /\ (t.io+((t.i).toNat))<t.iR,(t.io*3+((t.i).toNat)*3)=(t.io+((t.i).toNat))*3+0 /\ (t.io+((t.i).toNat))<t.iR,t.i=(((t.i).toNat:Nat):Int) /\ (t.i).toNat<t.ni]<|aae 10 (aag [] [] λ n9=>?_);refine aae 11 (aag [] (aab 3) λ _=>?_);refine aad<|ae 2 [] λ _=>aak [8] []<|aF [] [0,4,6,1,5,7,2,3] [.nw,.own 0,.own 1] [bm ((ah t.S t.i)+0)]<|aae 8 (aaf [] [] [0] (aj ((ah t.S t.i)+0) ((t.ins.getD (t.io+((t.i).toNat)) dI).dx) UW) ?_);rintro _ Wq TE;refine aad<|ae 2 [] λ _=>aak [8] []<|aF [] [0,4,6,1,5,7,2,3] [.nw,.own 0,.own 1] [bm ((ah t.S t.i)+1)]<|aae 8 (aaf [] [] [0] (aj ((ah t.S t.i)+1) ((t.ins.getD (t.io+((t.i).toNat)) dI).dy) TE) ?_);rintro _ T12 XB;refine aad<|ae 1 [] λ _=>aak [8] []<|aF [] [0,4,6,1,5,7,2,3] [.nw,.own 0,.own 1] [bm ((ah t.S t.i)+2)]<|aae 8 (aaf [] [] [0] (aj ((ah t.S t.i)+2) ((t.ins.getD (t.io+((t.i).toNat)) dI).act) XB) ?_);rintro _ VP VJ;refine aad<|ae 2 [] λ _=>aak [] []<|ag [] [0,5,1,6,2,7,3,8,4,9,10] [.own 1,.own 1]<|aad<|ae 1 [] λ _=>aal (i64.wrap (t.i+1)<t.S.players) 95 (λ TX=>?_) λ TX=>?_
    ·refine ae 1 [] λ _=>aak [11] []<|ag [] [0,4,1,5,2,6,3,7,8,9,10] [.own 1,.own 1]<|aae 11 (aaf [] [] [0] (aj 2 (i64.wrap (t.i+1)) VJ) ?_);rintro _ Vc S9;refine aad<|aap [] [1] [0] (v:=.tuple #[]) (H':=(ap [(tb,.lit (Stp.l t mb) 140 (0,0))] [Vc])) ?_;refine⟨Vc,rfl,?_⟩;have e:(aP t M)=((((((M.set 13 t.version).set 11 0).set ((ah t.S t.i)+0) ((t.ins.getD (t.io+((t.i).toNat)) dI).dx)).set ((ah t.S t.i)+1) ((t.ins.getD (t.io+((t.i).toNat)) dI).dy)).set ((ah t.S t.i)+2) ((t.ins.getD (t.io+((t.i).toNat)) dI).act)).set 2 (i64.wrap (t.i+1))):=by
      first|(simp only[aP,aW,br,b6,Stp.inp,if_pos h1,if_pos h7,if_pos h8,if_pos TX];try rfl;done)|rfl
     rw[e];exact S9.weak (by omega)
    ·refine ae 3 [] λ _=>aai [1] [0] (bV t 1 0 tb mb (((((M.set 13 t.version).set 11 0).set ((ah t.S t.i)+0) ((t.ins.getD (t.io+((t.i).toNat)) dI).dx)).set ((ah t.S t.i)+1) ((t.ins.getD (t.io+((t.i).toNat)) dI).dy)).set ((ah t.S t.i)+2) ((t.ins.getD (t.io+((t.i).toNat)) dI).act)) k VP _ VJ hS.up ) ?_;rintro _ VM Xz;refine ae 1 [] λ _=>aap [] [0] [0] (v:=.tuple #[]) (H':=(ap [(tb,.lit (Stp.l t mb) 140 (0,0))] [VM])) ?_;refine⟨VM,rfl,?_⟩;have e:(aP t M)=(aO t 1 0 (((((M.set 13 t.version).set 11 0).set ((ah t.S t.i)+0) ((t.ins.getD (t.io+((t.i).toNat)) dI).dx)).set ((ah t.S t.i)+1) ((t.ins.getD (t.io+((t.i).toNat)) dI).dy)).set ((ah t.S t.i)+2) ((t.ins.getD (t.io+((t.i).toNat)) dI).act))):=by
      first|(simp only[aP,aW,br,b6,Stp.inp,if_pos h1,if_pos h7,if_pos h8,if_neg TX];try rfl;done)|rfl
     rw[e];exact Xz.weak (by omega)
   ·refine ae 4 [] λ _=>aak [] []<|ag [] [0,5,1,6,2,7,3,8,4,9,10] (aab 2)<|aad<|ae 1 [] λ _=>aal (i64.wrap (t.i+1)<t.S.players) 95 (λ h21=>?_) λ h21=>?_
    ·refine ae 1 [] λ _=>aak [11] []<|ag [] [0,4,1,5,2,6,3,7,8,9,10] (aab 2)<|aae 11 (aaf [] [] [0] (aj 2 (i64.wrap (t.i+1)) UW) ?_);rintro _ UX Xx;refine aad<|aap [] [0] [0] (v:=.tuple #[]) (H':=(ap [(tb,.lit (Stp.l t mb) 140 (0,0))] [UX])) ?_;refine⟨UX,rfl,?_⟩;have e:(aP t M)=(((M.set 13 t.version).set 11 0).set 2 (i64.wrap (t.i+1))):=by
      first|(simp only[aP,aW,br,b6,Stp.inp,if_pos h1,if_pos h7,if_neg h8,if_pos h21];try rfl;done)|rfl
     rw[e];exact Xx.weak (by omega)
    ·refine ae 3 [] λ _=>aai [0] [0] (bV t 1 0 tb mb ((M.set 13 t.version).set 11 0) (k+3) T4 _ UW hS.up ) ?_;rintro _ ZR Xw;refine ae 1 [] λ _=>aap [] [0] [0] (v:=.tuple #[]) (H':=(ap [(tb,.lit (Stp.l t mb) 140 (0,0))] [ZR])) ?_;refine⟨ZR,rfl,?_⟩;have e:(aP t M)=(aO t 1 0 ((M.set 13 t.version).set 11 0)):=by
      first|(simp only[aP,aW,br,b6,Stp.inp,if_pos h1,if_pos h7,if_neg h8,if_neg h21];try rfl;done)|rfl
     rw[e];exact Xw.weak (by omega)
  ·refine ag [] [3,7,4,8,5,9,6,10,11,12,13] []<|aad<|ae 5 [] λ _=>aak [] []<|ag [] [0,5,1,6,2,7,3,8,4,9,10] (aab 2)<|aad<|ae 1 [] λ _=>aal (i64.wrap (t.i+1)<t.S.players) 95 (λ TG=>?_) λ TG=>?_
   ·refine ae 1 [] λ _=>aak [11] []<|ag [] [0,4,1,5,2,6,3,7,8,9,10] (aab 2)<|aae 11 (aaf [] [] [0] (aj 2 (i64.wrap (t.i+1)) UW) ?_);rintro _ V4 Ut;refine aad<|aap [] [0] [0] (v:=.tuple #[]) (H':=(ap [(tb,.lit (Stp.l t mb) 140 (0,0))] [V4])) ?_;refine⟨V4,rfl,?_⟩;have e:(aP t M)=(((M.set 13 t.version).set 11 0).set 2 (i64.wrap (t.i+1))):=by
     first|(simp only[aP,aW,br,b6,Stp.inp,if_pos h1,if_neg h7,if_pos TG];try rfl;done)|rfl
    rw[e];exact Ut.weak (by omega)
   ·refine ae 3 [] λ _=>aai [0] [0] (bV t 1 0 tb mb ((M.set 13 t.version).set 11 0) (k+3) T4 _ UW hS.up ) ?_;rintro _ ZP Ur;refine ae 1 [] λ _=>aap [] [0] [0] (v:=.tuple #[]) (H':=(ap [(tb,.lit (Stp.l t mb) 140 (0,0))] [ZP])) ?_;refine⟨ZP,rfl,?_⟩;have e:(aP t M)=(aO t 1 0 ((M.set 13 t.version).set 11 0)):=by
     first|(simp only[aP,aW,br,b6,Stp.inp,if_pos h1,if_neg h7,if_neg TG];try rfl;done)|rfl
    rw[e];exact Ur.weak (by omega)
 ·refine ae 5 [] λ _=>aak [] []<|ag [] [0,4,1,5,2,6,3,7] (ow 0 17)<|aac [] 8 (λ X_=>(gh t.S t.i _ hS.toSetN)) ?_;have anJ:=ge hS.toSetN t.i;refine ag [] [9] []<|aad<|ae 2 [] λ _=>aak [] []<|ag [] [0,1,2] []<|RD.em (ah t.S t.i >= 0) 36 (λ XE=>?_) λ XE=>?_
  ·refine ag [] [3,7,4,8,5,9,6,10,11,12,13] (aab 2)<|aad<|ae 1 [] λ _=>aal (t.i<(t.ni:Int)) 47 (λ h33=>?_) λ h33=>?_
   ·refine ae 2 [] λ _=>aak [11] []<|aF [] [0,4,1,5,2,6,3,7,8,9] [.own 0,.own 0,.ix ((t.i).toNat),.rorow 1 (t.io+((t.i).toNat)) 0,.rorow 1 (t.io+((t.i).toNat)) 1,.rorow 1 (t.io+((t.i).toNat)) 2] [((t.io*3+((t.i).toNat)*3)+2)=(t.io+((t.i).toNat))*3+2 /\ (t.io+((t.i).toNat))<t.iR,((t.io*3+((t.i).toNat)*3)+1)=(t.io+((t.i).toNat))*3+1 /\ (t.io+((t.i).toNat))<t.iR,(t.io*3+((t.i).toNat)*3)=(t.io+((t.i).toNat))*3+0 /\ (t.io+((t.i).toNat))<t.iR,t.i=(((t.i).toNat:Nat):Int) /\ (t.i).toNat<t.ni]<|aae 10 (aag [] [] λ n34=>?_);refine aae 11 (aag [] (aab 3) λ _=>?_);refine aad<|ae 2 [] λ _=>aak [8] []<|aF [] [0,4,6,1,5,7,2,3] [.nw,.own 0,.own 1] [bm ((ah t.S t.i)+0)]<|aae 8 (aaf [] [] [0] (aj ((ah t.S t.i)+0) ((t.ins.getD (t.io+((t.i).toNat)) dI).dx) hM) ?_);rintro _ T35 Xv;refine aad<|ae 2 [] λ _=>aak [8] []<|aF [] [0,4,6,1,5,7,2,3] [.nw,.own 0,.own 1] [bm ((ah t.S t.i)+1)]<|aae 8 (aaf [] [] [0] (aj ((ah t.S t.i)+1) ((t.ins.getD (t.io+((t.i).toNat)) dI).dy) Xv) ?_);rintro _ T37 Xu;refine aad<|ae 1 [] λ _=>aak [8] []<|aF [] [0,4,6,1,5,7,2,3] [.nw,.own 0,.own 1] [bm ((ah t.S t.i)+2)]<|aae 8 (aaf [] [] [0] (aj ((ah t.S t.i)+2) ((t.ins.getD (t.io+((t.i).toNat)) dI).act) Xu) ?_);rintro _ Wy UO;refine aad<|ae 2 [] λ _=>aak [] []<|ag [] [0,5,1,6,2,7,3,8,4,9,10] [.own 1,.own 1]<|aad<|ae 1 [] λ _=>aal (i64.wrap (t.i+1)<t.S.players) 95 (λ TW=>?_) λ TW=>?_
    ·refine ae 1 [] λ _=>aak [11] []<|ag [] [0,4,1,5,2,6,3,7,8,9,10] [.own 1,.own 1]<|aae 11 (aaf [] [] [0] (aj 2 (i64.wrap (t.i+1)) UO) ?_);rintro _ ZO Xt;refine aad<|aap [] [1] [0] (v:=.tuple #[]) (H':=(ap [(tb,.lit (Stp.l t mb) 140 (0,0))] [ZO])) ?_;refine⟨ZO,rfl,?_⟩;have e:(aP t M)=((((M.set ((ah t.S t.i)+0) ((t.ins.getD (t.io+((t.i).toNat)) dI).dx)).set ((ah t.S t.i)+1) ((t.ins.getD (t.io+((t.i).toNat)) dI).dy)).set ((ah t.S t.i)+2) ((t.ins.getD (t.io+((t.i).toNat)) dI).act)).set 2 (i64.wrap (t.i+1))):=by
      first|(simp only[aP,aW,br,b6,Stp.inp,if_neg h1,if_pos XE,if_pos h33,if_pos TW];try rfl;done)|rfl
     rw[e];exact Xt.weak (by omega)
    ·refine ae 3 [] λ _=>aai [1] [0] (bV t 1 0 tb mb (((M.set ((ah t.S t.i)+0) ((t.ins.getD (t.io+((t.i).toNat)) dI).dx)).set ((ah t.S t.i)+1) ((t.ins.getD (t.io+((t.i).toNat)) dI).dy)).set ((ah t.S t.i)+2) ((t.ins.getD (t.io+((t.i).toNat)) dI).act)) (k+2) Wy _ UO hS.up ) ?_;rintro _ T44 Xs;refine ae 1 [] λ _=>aap [] [0] [0] (v:=.tuple #[]) (H':=(ap [(tb,.lit (Stp.l t mb) 140 (0,0))] [T44])) ?_;refine⟨T44,rfl,?_⟩;have e:(aP t M)=(aO t 1 0 (((M.set ((ah t.S t.i)+0) ((t.ins.getD (t.io+((t.i).toNat)) dI).dx)).set ((ah t.S t.i)+1) ((t.ins.getD (t.io+((t.i).toNat)) dI).dy)).set ((ah t.S t.i)+2) ((t.ins.getD (t.io+((t.i).toNat)) dI).act))):=by
      first|(simp only[aP,aW,br,b6,Stp.inp,if_neg h1,if_pos XE,if_pos h33,if_neg TW];try rfl;done)|rfl
     rw[e];exact Xs.weak (by omega)
   ·refine ae 4 [] λ _=>aak [] []<|ag [] [0,5,1,6,2,7,3,8,4,9,10] (aab 2)<|aad<|ae 1 [] λ _=>aal (i64.wrap (t.i+1)<t.S.players) 95 (λ h46=>?_) λ h46=>?_
    ·refine ae 1 [] λ _=>aak [11] []<|ag [] [0,4,1,5,2,6,3,7,8,9,10] (aab 2)<|aae 11 (aaf [] [] [0] (aj 2 (i64.wrap (t.i+1)) hM) ?_);rintro _ T47 abj;refine aad<|aap [] [0] [0] (v:=.tuple #[]) (H':=(ap [(tb,.lit (Stp.l t mb) 140 (0,0))] [T47])) ?_;refine⟨T47,rfl,?_⟩;have e:(aP t M)=(M.set 2 (i64.wrap (t.i+1))):=by
      first|(simp only[aP,aW,br,b6,Stp.inp,if_neg h1,if_pos XE,if_neg h33,if_pos h46];try rfl;done)|rfl
     rw[e];exact abj.weak (by omega)
    ·refine ae 3 [] λ _=>aai [0] [0] (bV t 1 0 tb mb M (k+5) T _ hM hS.up ) ?_;rintro _ YQ UN;refine ae 1 [] λ _=>aap [] [0] [0] (v:=.tuple #[]) (H':=(ap [(tb,.lit (Stp.l t mb) 140 (0,0))] [YQ])) ?_;refine⟨YQ,rfl,?_⟩;have e:(aP t M)=(aO t 1 0 M):=by
      first|(simp only[aP,aW,br,b6,Stp.inp,if_neg h1,if_pos XE,if_neg h33,if_neg h46];try rfl;done)|rfl
     rw[e];exact UN.weak (by omega)
  ·refine ag [] [3,7,4,8,5,9,6,10,11,12,13] []<|aad<|ae 5 [] λ _=>aak [] []<|ag [] [0,5,1,6,2,7,3,8,4,9,10] (aab 2)<|aad<|ae 1 [] λ _=>aal (i64.wrap (t.i+1)<t.S.players) 95 (λ Wm=>?_) λ Wm=>?_
   ·refine ae 1 [] λ _=>aak [11] []<|ag [] [0,4,1,5,2,6,3,7,8,9,10] (aab 2)<|aae 11 (aaf [] [] [0] (aj 2 (i64.wrap (t.i+1)) hM) ?_);rintro _ ZN Xr;refine aad<|aap [] [0] [0] (v:=.tuple #[]) (H':=(ap [(tb,.lit (Stp.l t mb) 140 (0,0))] [ZN])) ?_;refine⟨ZN,rfl,?_⟩;have e:(aP t M)=(M.set 2 (i64.wrap (t.i+1))):=by
     first|(simp only[aP,aW,br,b6,Stp.inp,if_neg h1,if_neg XE,if_pos Wm];try rfl;done)|rfl
    rw[e];exact Xr.weak (by omega)
   ·refine ae 3 [] λ _=>aai [0] [0] (bV t 1 0 tb mb M (k+5) T _ hM hS.up ) ?_;rintro _ T54 Xq;refine ae 1 [] λ _=>aap [] [0] [0] (v:=.tuple #[]) (H':=(ap [(tb,.lit (Stp.l t mb) 140 (0,0))] [T54])) ?_;refine⟨T54,rfl,?_⟩;have e:(aP t M)=(aO t 1 0 M):=by
     first|(simp only[aP,aW,br,b6,Stp.inp,if_neg h1,if_neg XE,if_neg Wm];try rfl;done)|rfl
    rw[e];exact Xq.weak (by omega)
def aaj:=@RN.dn
def aao:=@RN.nt
end Go.Proofs.YtghjbimijeinfaaGreatDoor
