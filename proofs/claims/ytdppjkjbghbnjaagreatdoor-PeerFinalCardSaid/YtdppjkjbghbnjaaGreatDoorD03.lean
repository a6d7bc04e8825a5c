import Derived.Laws.IdiomCopy
import Derived.Test.YtdppjkjbghbnjaaGreatDoorD02
set_option maxHeartbeats 4000000
set_option maxRecDepth 100000
set_option linter.all false
namespace Go.Proofs.YtdppjkjbghbnjaaGreatDoor
open Go.RowKit
section
variable {r:Option Nat} {P:Program} {N:Nat} {D:List Deferred} {F:HL} {w0:World} {R:HL} {s:Cfg} {Q:Exit -> Act -> World -> Prop} {hards:List Nat} {Rd:HL}
def OI(i:Nat)(b:Blk)(s:Cfg):Cfg:=match s with
 | ⟨c,k,L,A,Ts⟩=>⟨c,k,L,match A[i]? with|some x=>bn A i (x.1,b)|none=>A,Ts⟩
theorem oy{A:HL}{i:Nat}{x:Nat × Blk}{b:Blk}(h:A[i]?=some x)(e:x.2.den=b.den):eF A=eF (bn A i (x.1,b)):=by
 rw[nu];unfold eF;rw[List.map_set];have h1:(A.map λ x=>(x.1,x.2.den))[i]?=some (x.1,b.den):=by rw[List.getElem?_map,h];simp[e]
 have iF:i<(A.map λ x=>(x.1,x.2.den)).length:=(List.getElem?_eq_some_iff.1 h1).1;have h2:(x.1,b.den)=(A.map λ x=>(x.1,x.2.den))[i]:=((List.getElem?_eq_some_iff.1 h1).2).symm;show _=(A.map λ x=>(x.1,x.2.den)).set i (x.1,b.den);rw[h2,List.set_getElem_self]
def OJ(i:Nat)(s:Cfg):Option Obj:=(s.A[i]?).map (·.2.den)
theorem RN.dn(i:Nat)(b:Blk)(hk:RN r P N D F w0 R (OI i b s) Q)(h:OJ i s=some b.den:=by kernel_rfl):RN r P N D F w0 R s Q:=by
 refine⟨λ hR a w h1 h2 h3=>hk.h hR a w h1 ?_ h3⟩;obtain⟨c,k,L,A,Ts⟩:=s;unfold OJ at h;simp only[Option.map_eq_some_iff] at h;obtain⟨x,hx,e⟩:=h;unfold OI;simp only[hx];exact h2.denA (oy hx e)
theorem RD.dn(i:Nat)(b:Blk)(hk:RD r P N D F w0 R hards Rd (OI i b s) Q)(h:OJ i s=some b.den:=by kernel_rfl):RD r P N D F w0 R hards Rd s Q:=by
 refine⟨λ hR hs=>?_⟩;obtain⟨c,k,L,A,Ts⟩:=s;unfold OJ at h;simp only[Option.map_eq_some_iff] at h;obtain⟨x,hx,e⟩:=h;have h1:=hk.h hR hs;unfold OI at h1;simp only[hx] at h1;exact TD.den _ (oy hx e) h1
def ptC(jp:List Nat)(s:Cfg):Cfg:=match s with
 | ⟨c,k,L,A,Ts⟩=>⟨c,k,L,A,jp.filterMap (Ts[·]?)⟩
theorem sS(jp:List Nat)(hk:RN r P N D F w0 R (ptC jp s) Q)(h:jp.isPerm (List.range s.Ts.length)=true:=by kernel_rfl):RN r P N D F w0 R s Q :=
 ⟨λ hR a w h1 h2 h3=>hk.h hR a w h1 (h2.perm ((Fw jp h rfl).append_right F)) h3⟩
def otC(j:Nat)(x:Nat × Blk)(s:Cfg):Cfg:=match s with
 | ⟨c,k,L,A,Ts⟩=>⟨c,k,L,x::A,(oth [j] Ts.length).filterMap (Ts[·]?)⟩
theorem sT(j:Nat){x:Nat × Blk}(hk:RN r P N D F w0 R (otC j x s) Q)(h:(s.Ts[j]?,([j]++oth [j] s.Ts.length).isPerm (List.range s.Ts.length))=(some [x],true):=by kernel_rfl):RN r P N D F w0 R s Q:=by
 simp only[Prod.mk.injEq] at h;exact⟨λ hR a w h1 h2 h3=>hk.h hR a w h1 (h2.perm ((zo _ j h.2 h.1 rfl).append_right F)) h3⟩
def Qv(j:Nat)(B:HL)(Bs:List HL)(s:Cfg):Cfg:=match s with
 | ⟨c,k,L,A,Ts⟩=>⟨c,k,L,B++A,Bs++(oth [j] Ts.length).filterMap (Ts[·]?)⟩
theorem MD(j:Nat)(B:HL)(Bs:List HL){T:HL}(e:T=ap B Bs)(hk:RN r P N D F w0 R (Qv j B Bs s) Q)(h:(s.Ts[j]?,([j]++oth [j] s.Ts.length).isPerm (List.range s.Ts.length))=(some T,true):=by kernel_rfl):RN r P N D F w0 R s Q:=by
 simp only[Prod.mk.injEq] at h;refine⟨λ hR a w h1 h2 h3=>hk.h hR a w h1 (h2.perm (abO F ?_)) h3⟩;have h3:=(fm s.Ts [j] _ h.2).flatten;simp only[List.filterMap_cons,h.1,List.filterMap_nil,List.cons_append,List.nil_append,acb] at h3;show ((B++s.A)++(Bs++(oth [j] s.Ts.length).filterMap (s.Ts[·]?)).flatten).Perm (s.A++s.Ts.flatten);refine List.Perm.trans ?_ (List.Perm.append_left _ h3);subst e;rw[List.flatten_append];show ((B++s.A)++(Bs.flatten++_)).Perm (s.A++((B++Bs.flatten)++_));rw[aaC,aaC];refine List.perm_append_comm_assoc _ _ _ |>.trans ?_;exact List.Perm.refl _
def jtC(s:Cfg):Cfg:=match s with
 | ⟨c,k,L,A,T1::T2::Ts⟩=>⟨c,k,L,A,(T1++T2)::Ts⟩
 | s=>s
theorem wo(hk:RN r P N D F w0 R (jtC s) Q):RN r P N D F w0 R s Q:=by
 refine⟨λ hR a w h1 h2 h3=>?_⟩;have h4:=hk.h hR a w;unfold jtC at h4;split at h4
 ·exact h4 h1 (by simpa [ap] using h2) h3
 ·exact h4 h1 h2 h3
def ntC(s:Cfg):Cfg:=match s with
 | ⟨c,k,L,A,Ts⟩=>⟨c,k,L,A,[]::Ts⟩
theorem RN.nt(hk:RN r P N D F w0 R (ntC s) Q):RN r P N D F w0 R s Q:=⟨λ hR a w h1 h2 h3=>hk.h hR a w h1 h2 h3⟩
theorem RD.nt(hk:RD r P N D F w0 R hards Rd (ntC s) Q):RD r P N D F w0 R hards Rd s Q:=by
 obtain⟨c,k,L,A,Ts⟩:=s;exact⟨λ hR hs=>hk.h hR hs⟩
def svC(t:Nat)(v:Value)(s:Cfg):Cfg:=match s with
 | ⟨c,k,L,A,Ts⟩=>⟨c,k,(t,v)::L,A,Ts⟩
theorem aN(t:Nat){u v:Value}(e:u=v)(hk:RN r P N D F w0 R (svC t v s) Q)(h:s.L.lookup t=some u:=by kernel_rfl):RN r P N D F w0 R s Q:=by
 subst e;exact⟨λ hR a w h1 h2 h3=>hk.h hR a w (h1.fix h) h2 h3⟩
def bvC(i:Nat)(b:Blk)(s:Cfg):Cfg:=match s with
 | ⟨c,k,L,A,Ts⟩=>⟨c,k,L,match A[i]? with|some x=>bn A i (x.1,b)|none=>A,Ts⟩
theorem RN.bv(i:Nat){b b':Blk}(e:b=b')(hk:RN r P N D F w0 R (bvC i b' s) Q)(h:(s.A[i]?).map (·.2)=some b:=by kernel_rfl):RN r P N D F w0 R s Q:=by
 subst e;refine⟨λ hR a w h1 h2 h3=>hk.h hR a w h1 ?_ h3⟩;obtain⟨c,k,L,A,Ts⟩:=s;simp only[Option.map_eq_some_iff] at h;obtain⟨x,hx,e⟩:=h;unfold bvC;simp only[hx];refine h2.denA (oy hx (by rw[e]))
variable {α:Type} {e:Enc α} {T:TypeId} {inf:TypeInfo} {z:Value}
def JW(P:Program)(o:Oper)(L:FL):Option (Option Addr × Nat × Nat × TypeId × Option Addr × Nat × Nat × TypeId):=match o.guard,o.op with
 | none,.call c=>match c.callee,c.args.toList,c.argTypes.toList with
  | .builtin .append,[a1,a2],[t,tx]=>match gB L a1 && gB L a2,fA L a1,fA L a2 with
   | true,.slice A n cap,.slice B m c'=>match P.underlying t,P.underlying tx with
    | some (.slice T),some (.slice _)=>some (A,n,cap,T,B,m,c',tx)
    | _,_=>none
   | _,_,_=>none
  | _,_,_=>none
 | _,_=>none
theorem sU{o:Oper}{L:FL}{A:Option Addr}{n cap:Nat}{B:Option Addr}{m c':Nat}{tx:TypeId}(h:JW P o L=some (A,n,cap,T,B,m,c',tx)) :
  ∃a1 a2 t e',o.guard=none /\ o.op=.call { callee:=.builtin .append,args:=#[a1,a2],argTypes:=#[t,tx] } /\ (gB L a1 && gB L a2)=true /\ fA L a1=.slice A n cap /\ fA L a2=.slice B m c' /\ P.underlying t=some (.slice T) /\ P.underlying tx=some (.slice e'):=by
 unfold JW at h;split at h
 case h_2=>cases h
 rename_i c hg H_;split at h
 case h_2=>cases h
 rename_i a1 a2 t tx' h1 h2 h3;split at h
 case h_2=>cases h
 rename_i A' n' f_ B' m' c2 h4 h5 h6;split at h
 case h_2=>cases h
 rename_i T' e' h7 h8;simp only[Option.some.injEq,Prod.mk.injEq] at h;obtain⟨e1,e2,e3,e4,e5,e6,e7,e8⟩:=h;subst e1;subst e2;subst e3;subst e4;subst e5;subst e6;subst e7;subst e8;refine⟨a1,a2,t,e',hg,?_,h4,h5,h6,h7,h8⟩;obtain⟨cal,args,ZZ⟩:=c;simp only at h1 h2 h3;subst h1;have:args=#[a1,a2]:=by cases args;simp_all
 subst this;have:ZZ=#[t,tx']:=by cases ZZ;simp_all
 subst this;exact H_
def gI(s:Cfg):Option Oper:=match s.c with
 | .ops ops i=>ops.toList[i]?
 | _=>none
def k9(i:Nat)(s:Cfg):Option Oper:=match s.c with
 | .drw ops _=>ops.toList[i]?
 | _=>none
def ME(p:Nat)(s:Cfg):Option (Nat × List Value):=match s.A[p]? with
 | some (b,.lit cs _ _)=>some (b,cs)
 | _=>none
def C3(P:Program)(N j p:Nat)(oo:Option Oper)(s:Cfg):Option (Option Addr × Nat × Nat × TypeId × Nat × List Value × HL × Nat):=match oo with
 | some o=>match JW P o s.L,ME p s,s.Ts[j]?,([j]++oth [j] s.Ts.length).isPerm (List.range s.Ts.length) && (eh N o.dst undef s.L).isSome with
  | some (A,n,cap,T,some ⟨b,0,none⟩,m,_,_),some (_,cs),some Hl,true=>some (A,n,cap,T,m,cs,Hl,b)
  | _,_,_,_=>none
 | none=>none
def C4(p:Nat)(s:Cfg):Nat:=match ME p s with
 | some (b,_)=>b
 | none=>0
theorem lK{j p:Nat}{oo:Option Oper}{A:Option Addr}{n cap m:Nat}{cs:List Value}{Hl:HL}(h:C3 P N j p oo s=some (A,n,cap,T,m,cs,Hl,C4 p s)) :
  ∃o a1 a2 t tx e' c' b ty fz,oo=some o /\ o.guard=none /\ o.op=.call { callee:=.builtin .append,args:=#[a1,a2],argTypes:=#[t,tx] } /\ (gB s.L a1 && gB s.L a2)=true /\ fA s.L a1=.slice A n cap /\ fA s.L a2=.slice (some ⟨b,0,none⟩) m c' /\ P.underlying t=some (.slice T) /\ P.underlying tx=some (.slice e') /\
   s.A[p]?=some (b,.lit cs ty fz) /\ s.Ts[j]?=some Hl /\ ([j]++oth [j] s.Ts.length).isPerm (List.range s.Ts.length)=true /\ (eh N o.dst undef s.L).isSome=true:=by
 unfold C3 at h;split at h
 case h_2=>cases h
 rename_i o;split at h
 case h_2=>cases h
 rename_i A' n' f_ T' b m' c' tx b' cs' q_ h1 h2 h3 h4;simp only[Option.some.injEq,Prod.mk.injEq] at h;obtain⟨e1,e2,e3,e4,e5,e6,e7,e8⟩:=h;subst e1;subst e2;subst e3;subst e4;subst e5;subst e6;subst e7;obtain⟨a1,a2,t,e',q1,q2,q3,q4,q5,q6,q7⟩:=sU h1;rw[ab1] at h4;unfold C4 at e8;rw[h2] at e8;simp only at e8;subst e8;unfold ME at h2;split at h2
 case h_2=>cases h2
 rename_i b2 cs2 ty fz h5;simp only[Option.some.injEq,Prod.mk.injEq] at h2;obtain⟨e1,e2⟩:=h2;subst e1;subst e2;exact⟨o,a1,a2,t,tx,e',c',_,ty,fz,rfl,q1,q2,q3,q4,q5,q6,q7,h5,h3,h4.1,h4.2⟩
def MF(j:Nat)(Hl:HL)(s:Cfg):Cfg:=match s with
 | ⟨c,k,L,A,Ts⟩=>⟨c,k,L,A,Hl::(oth [j] Ts.length).filterMap (Ts[·]?)⟩
theorem gh{A:HL}{Ts:List HL}{Hl:HL}{j:Nat}(hj:Ts[j]?=some Hl)(hp:([j]++oth [j] Ts.length).isPerm (List.range Ts.length)=true):(Hl++(A++((oth [j] Ts.length).filterMap (Ts[·]?)).flatten)).Perm (ap A Ts):=by
 have h3:=fm Ts [j] _ hp;simp only[List.filterMap_cons,hj,List.filterMap_nil] at h3;have h4:=h3.flatten;simp only[List.cons_append,List.nil_append,acb] at h4;refine List.Perm.trans ?_ (List.Perm.append_left A h4);rw[<- aaC,<- aaC];exact abO _ abL
theorem iU(ok:EncOk e P T inf z)(l src:List α)(j p:Nat){A:Option Addr}{n cap:Nat}{Hl:HL}(hn:n=l.length)(Tk:SlIs e T l A cap Hl)(hb:l.length+src.length <= 100000000)
  (hk:∀ (A':Option Addr) (f_:Nat) (q_:HL),(SlIs e T (l++src) A' f_ q_ /\ (bB A -> bB A')) -> RN r P N D F w0 R (MF j q_ (dX N (.slice A' (n+src.length) f_) s)) Q)
  (h:C3 P N j p (gI s) s=some (A,n,cap,T,src.length,ar e src,Hl,C4 p s):=by kernel_rfl):RN r P N D F w0 R s Q:=by
 obtain⟨o,a1,a2,t,tx,e',c',b,ty,fz,q0,q1,q2,q3,q4,q5,q6,q7,q8,q9,IS,RJ⟩:=lK h;refine⟨λ hR a w hF aT hB=>?_⟩;obtain⟨c,k,L,B,Ts⟩:=s;unfold gI at q0;cases c with
 | code c=>cases q0
 | ex c=>cases q0
 | drw _ _=>cases q0
 | ops ops i =>
  simp only at q0 q3 q4 q5 q8 q9 IS RJ hF aT;have oR:ops.toList.drop i=o::ops.toList.drop (i+1):=by
   have iF:i<ops.toList.length:=(List.getElem?_eq_some_iff.1 q0).1;rw[List.drop_eq_getElem_cons iF,(List.getElem?_eq_some_iff.1 q0).2]
  show wpListIn _ _ _ _ _ _ _ _;rw[oR,wpListIn,if_pos (by simp[Region.wanted,q1])];refine⟨λ _ _=>trivial,?_⟩;have oF:=gh (A:=B) q9 IS;refine fc (by rw[q2];intro c hc;cases hc) (oq (x:=vS b 0 src.length c') (src:=src) (G:=B++((oth [j] Ts.length).filterMap (Ts[·]?)).flatten) ok q2 q6 q3 q4 hn q5 oF Tk (λ w hw=>pW ok q7 p (by rw[abD (List.getElem?_eq_some_iff.1 q8).1];exact q8) hw) hb a hF w aT) ?_;rintro u w' ⟨⟨A',f_,q_⟩,⟨rfl,Uk⟩,D_,SU⟩;obtain⟨L',p1⟩:=dg RJ (.slice A' (n+src.length) f_);have hh:=(hk A' f_ q_ Uk).h hR;have Ru:dX N (.slice A' (n+src.length) f_) ⟨.ops ops i,k,L,B,Ts⟩=⟨.ops ops (i+1),k,L',B,Ts⟩:=by
   unfold dX;simp only[q0,p1]
  rw[Ru] at hh;refine hh _ w' (hF.put p1) (D_.perm (abO F ?_)) (hB.trans SU);show (B++(q_::(oth [j] Ts.length).filterMap (Ts[·]?)).flatten).Perm _;rw[acb,<- aaC,<- aaC];exact abO _ abL
theorem uB{i:Nat}(ix:List Nat)(ok:EncOk e P T inf z)(l src:List α)(j p:Nat){A:Option Addr}{n cap:Nat}{Hl:HL}(hn:n=l.length)(Tk:SlIs e T l A cap Hl)(hb:l.length+src.length <= 100000000)
  (hk:∀ (A':Option Addr) (f_:Nat) (q_:HL),(SlIs e T (l++src) A' f_ q_ /\ (bB A -> bB A')) -> RD r P N D F w0 R hards Rd (MF j q_ (vX N i (.slice A' (n+src.length) f_) s)) Q)
  (h:C3 P N j p (k9 i s) s=some (A,n,cap,T,src.length,ar e src,Hl,C4 p s):=by kernel_rfl) (hx:(hards.contains i,zu ix s)=(true,Rd):=by kernel_rfl):RDO r P N D F w0 R hards Rd i s Q:=by
 obtain⟨o,a1,a2,t,tx,e',c',b,ty,fz,q0,q1,q2,q3,q4,q5,q6,q7,q8,q9,IS,RJ⟩:=lK h;obtain⟨c,k,L,B,Ts⟩:=s;unfold k9 at q0;simp only[Prod.mk.injEq] at hx;cases c with
 | code c=>cases q0
 | ex c=>cases q0
 | ops _ _=>cases q0
 | drw ops li =>
  refine⟨λ hR=>?_⟩;simp only at q0 q3 q4 q5 q8 q9 IS RJ;have oF:=gh (A:=B) q9 IS;have Ru:∀v L',eh N o.dst v L=some L' -> vX N i v ⟨.drw ops li,k,L,B,Ts⟩=⟨.drw ops (bn li i true),k,L',B,Ts⟩:=by
   intro v L' hl;unfold vX;simp only[q0,hl]
  refine(kZ (Q:=Q) (by simpa using q0) (σ:=Option Addr × Nat × HL) (λ u y=>u=.slice y.1 (n+src.length) y.2.1 /\ (SlIs e T (l++src) y.1 y.2.1 y.2.2 /\ (bB A -> bB y.1))) (λ y=>ap B (y.2.2::(oth [j] Ts.length).filterMap (Ts[·]?))) RJ (λ a hF=>⟨by simp[Region.wanted,q1],λ w aT hB=>?_⟩) (λ y=>⟨λ hi=>?_,λ hi x hm=>aaw _ (sO ix hx.2 x hm)⟩) ?_:RDO r P N D F w0 R hards Rd i ⟨.drw ops li,k,L,B,Ts⟩ Q).h hR
  ·refine eZ (oq (x:=vS b 0 src.length c') (src:=src) (G:=B++((oth [j] Ts.length).filterMap (Ts[·]?)).flatten) ok q2 q6 q3 q4 hn q5 oF Tk (λ w hw=>pW ok q7 p (by rw[abD (List.getElem?_eq_some_iff.1 q8).1];exact q8) hw) hb a hF w aT) ?_;rintro u w' ⟨y,h3,D_,SU⟩;refine⟨y,h3,D_.perm (abO F ?_),SU⟩;show (B++(y.2.2::(oth [j] Ts.length).filterMap (Ts[·]?)).flatten).Perm _;rw[acb,<- aaC,<- aaC];exact abO _ abL
  ·exact absurd (List.contains_iff_mem.1 hx.1) hi
  ·rintro u ⟨A',f_,q_⟩ ⟨rfl,h3⟩ L' hl hs;have h1:=(hk A' f_ q_ h3).h hR;rw[Ru _ L' hl] at h1;exact h1 hs
end
open Go.Shelf
section
variable {r:Option Nat} {P:Program} {N:Nat} {D:List Deferred} {F:HL} {w0:World} {R:HL} {s:Cfg} {Q:Exit -> Act -> World -> Prop}
def FH(P:Program)(n0 N:Nat)(R:HL)(s:Cfg):Option (Option Tmp × Nat × Array Value × List Prop):=match s.c with
 | .ops ops i=>zp P n0 N ops.toList i s.L (ap s.A s.Ts) R []
 | _=>none
def FI(N j:Nat)(s:Cfg)(x:Option (Option Tmp × Nat × Array Value × List Prop)):Option (Nat × Array Value × List Prop × HL):=match x with
 | some (dst,l,args,Ob)=>match s.Ts[j]?,([j]++oth [j] s.Ts.length).isPerm (List.range s.Ts.length) && (eh N dst undef s.L).isSome with
  | some T,true=>some (l,args,Ob,T)
  | _,_=>none
 | none=>none
theorem RN.yield(j:Nat){l:Nat}{args:Array Value}{T:HL}{Rv:Bool -> HL -> Prop}(hc:YL P l args T (ap s.A (fP [j] s)++F) Rv)(hk:∀b H',Rv b H' -> RN r P N D F w0 R (MF j H' (dX N (.bool b) s)) Q)
  (h:∀n0,FI N j s (FH P n0 N R s)=some (l,args,[],T):=by intro n0;kernel_rfl):RN r P N D F w0 R s Q:=by
 refine⟨λ hR a w hF aT hB=>?_⟩;have h':=h w.heap.size;obtain⟨cc,k,L,A,Ts⟩:=s;cases cc with
 | code c=>simp[FH,FI] at h'
 | ex c=>simp[FH,FI] at h'
 | drw _ _=>simp[FH,FI] at h'
 | ops ops i =>
 simp only[FH] at h' hF aT;generalize hx:zp P w.heap.size N ops.toList i L (ap A Ts) R []=x at h';unfold FI at h';split at h'
 case h_2=>cases h'
 rename_i dst l' j_ Ob';split at h'
 case h_2=>cases h'
 rename_i T' hj hpp;simp only[Option.some.injEq,Prod.mk.injEq] at h';obtain⟨e1,e2,e3,e4⟩:=h';subst e1;subst e2;subst e3;subst e4;simp only at hj hpp;rw[ab1] at hpp;have h':=hx;unfold zp at h';split at h'
 ·cases h'
 rename_i o ho;split at h'
 case h_2=>cases h'
 rename_i ss hw;split at h'
 case h_2=>cases h'
 rename_i g_ hh he;split at h'
 case h_2=>cases h'
 rename_i c H_;split at h'
 case h_2=>cases h'
 rename_i f R0;split at h'
 case h_2=>cases h'
 rename_i l2 cap bound hf;split at h'
 case h_2=>cases h'
 rename_i e1 e2;simp only[Option.some.injEq,Prod.mk.injEq] at h';obtain⟨d1,d2,d3,d4⟩:=h';subst d2;have hcap:cap=#[]:=by cases cap;simp_all
 have afs:bound=#[]:=by cases bound;simp_all
 subst hcap;subst afs;have oR:ops.toList.drop i=o::ops.toList.drop (i+1):=by
  have iF:i<ops.toList.length:=(List.getElem?_eq_some_iff.1 ho).1;rw[List.drop_eq_getElem_cons iF,(List.getElem?_eq_some_iff.1 ho).2]
 show wpListIn _ _ _ _ _ _ _ _;rw[oR,wpListIn];have RW:∀p∈ss.ob,p:=by rw[d4];intro p hp;cases hp
 obtain⟨c1,c2,c3⟩:=cz hw hF RW;rw[if_pos c1];refine⟨λ _ _=>trivial,?_⟩;rw[hF.sem g_];have oF:=gh (A:=A) hj hpp.1;have D_:Rel (T'++(ap A ((oth [j] Ts.length).filterMap (Ts[·]?))++F)) w:=by rw[<- aaC];exact aT.perm (oF.symm.append_right F).symm
 obtain⟨fn,tmps,assign,body,hy,Yy⟩:=hc w D_;rw[zq H_ R0 hf,d3,hy,Oper.uponIn_round];refine⟨λ h=>(by cases h),RoundIn.mono (show RoundIn (Wr r) (0-1) P l2 fn tmps assign body w _ from Yy) ?_⟩;rintro e W' ⟨b,H',rfl,hv,SB,Uy⟩;obtain⟨L',p1⟩:=dg hpp.2 (.bool b);have hh:=(hk b H' hv).h hR;have Ru:dX N (.bool b) ⟨.ops ops i,k,L,A,Ts⟩=⟨.ops ops (i+1),k,L',A,Ts⟩:=by
  unfold dX;rw[<- d1] at p1;simp only[ho,p1]
 rw[Ru] at hh;rw[<- d1] at p1;refine hh _ W' (hF.put p1) (SB.perm ?_) (hB.trans Uy);rw[<- aaC];refine abO F ?_;show (A++(H'::(oth [j] Ts.length).filterMap (Ts[·]?)).flatten).Perm (H'++(A++((oth [j] Ts.length).filterMap (Ts[·]?)).flatten));rw[acb,<- aaC,<- aaC];exact abO _ abL
theorem RN.rn{σ:Type}{Ax:σ -> HL}{Tx:σ -> List HL}{I:σ -> Prop}{Ix:Code -> σ -> Prop}(x:σ)(ip jp:List Nat)(hi:I x)(hc:(match s.c,s.k with | .ex .normal,[]=>true|_,_=>false)=true:=by kernel_rfl)
  (hp:b9 ip jp s=true:=by kernel_rfl) (hH:picks ip jp s=(Ax x,Tx x):=by kernel_rfl):RN r P N D F w0 R s (RQ F w0 (λ x=>ap (Ax x) (Tx x)) I Ix):=by
 unfold b9 at hp;unfold picks at hH;rw[ab1] at hp;simp only[Prod.mk.injEq] at hH;refine⟨λ hR a w h1 h2 h3=>?_⟩;obtain⟨c,k,L,A,Ts⟩:=s;split at hc
 case h_2=>cases hc
 rename_i e1 e2;simp only at e1 e2;subst e1;subst e2;exact⟨x,hi,h2.takeT ip _ jp _ hp.1 hp.2 (by rw[hH.1,hH.2]),h3⟩
theorem RN.rr{σ:Type}{Ax:σ -> HL}{Tx:σ -> List HL}{I:σ -> Prop}{Ix:Code -> σ -> Prop}(x:σ)(ip jp:List Nat)(hi:Ix .ret x)(hc:(match s.c with | .code .ret=>true|_=>false)=true:=by kernel_rfl)
  (hp:b9 ip jp s=true:=by kernel_rfl) (hH:picks ip jp s=(Ax x,Tx x):=by kernel_rfl):RN r P N D F w0 R s (RQ F w0 (λ x=>ap (Ax x) (Tx x)) I Ix):=by
 unfold b9 at hp;unfold picks at hH;rw[ab1] at hp;simp only[Prod.mk.injEq] at hH;refine⟨λ hR a w h1 h2 h3=>?_⟩;obtain⟨c,k,L,A,Ts⟩:=s;split at hc
 case h_2=>cases hc
 rename_i e1;simp only at e1;subst e1;exact wpIn_ret (iT k ⟨x,hi,h2.takeT ip _ jp _ hp.1 hp.2 (by rw[hH.1,hH.2]),h3⟩)
end
section
variable {P:Program} {N:Nat} {D:List Deferred} {F:HL} {w0:World} {R:HL} {s:Cfg} {Q:Exit -> Act -> World -> Prop}
def md(s:Cfg):Option (Value × Nat):=match s.c with
 | .code (.rangeFunc g ps _ _)=>match gB s.L g with
  | true=>some (fA s.L g,ps.size)
  | false=>none
 | _=>none
def JX(N:Nat)(s:Cfg):Bool:=match s.c with
 | .code (.rangeFunc _ ps _ _)=>ps.toList.all λ p=>decide (p<N)
 | _=>false
def OL(K:Act -> World -> Prop)(vs:List Value)(A:HL)(Ts:List HL)(s:Cfg):Cfg:=match s with
 | ⟨.code (.rangeFunc _ ps assign _),_,L,_,_⟩=>⟨.code assign,[.met K],pJ ps.toList vs L,A,Ts⟩
 | s=>s
def OM(V:Inv)(s:Cfg):Cfg:=match s with
 | ⟨.code (.rangeFunc _ _ _ body),_,_,_,_⟩=>⟨.code body,[],V.L,V.A,V.Ts⟩
 | s=>s
def ON(c:Fo)(d:Nat)(ip jp:List Nat)(A:HL)(Ts:List HL)(s:Cfg):Cfg:=match s with
 | ⟨_,k,L,A',Uf⟩=>⟨c,k,L,cF d::(A++(oth ip A'.length).filterMap (A'[·]?)),Ts++(oth jp Uf.length).filterMap (Uf[·]?)⟩
theorem RN.range{α σ τ:Type}{encs:α -> Array Value}{xs:List α}{gf:FuncId}{lb:Array Value}(eg:∀args w,(callFunc gf args).run P w=.ok (.enter gf args) w)
  (S:σ -> HL × List HL) (I:Nat -> σ -> Prop) (Ix:Code -> σ -> Prop) (W:τ -> Inv) (Ia:Nat -> α -> τ -> Prop) (x0:σ) (h0:I 0 x0) (ip jp:List Nat)
  (hit:It P gf lb (ap (fd ip s) (fP jp s)++F) encs xs)
  (z_:∀ (l i:Nat) (x:α) (s1:σ) (Y:HL) (w1:World),xs[i]?=some x -> I i s1 ->
   (∀ {s':Cfg} {R':HL} (t:τ) (WM WL:List Nat),Ia i x t -> (hm:CY s'=some (MV N [] (Y++(ap (fd ip s) (fP jp s)++F)) w1 W (Ia i x)):=by kernel_rfl) -> (h:uz (W t) WM WL s'=nE (W t):=by kernel_rfl) -> (hp:b9 WM WL s'=true:=by kernel_rfl) -> RN (some l) P N [] (Y++(ap (fd ip s) (fP jp s)++F)) w1 R' s' (λ _ _ _=>False)) ->
   RN (some l) P N [] (Y++(ap (fd ip s) (fP jp s)++F)) w1 (fd ip s++R) (OL (MV N [] (Y++(ap (fd ip s) (fP jp s)++F)) w1 W (Ia i x)) (encs x).toList (S s1).1 (S s1).2 s) (λ _ _ _=>False))
  (Ry:∀ (l i:Nat) (x:α) (t:τ) (Y:HL) (w1:World),xs[i]?=some x -> Ia i x t -> RN (some l) P N [] (Y++(ap (fd ip s) (fP jp s)++F)) w1 (fd ip s++R) (OM (W t) s) (RQ (Y++(ap (fd ip s) (fP jp s)++F)) w1 (λ s=>ap (S s).1 (S s).2) (I (i+1)) Ix))
  (Rx:∀ (d:Nat) (s1:σ),I xs.length s1 -> RN none P N (coll d::D) F w0 R (ON (.ex .normal) d ip jp (S s1).1 (S s1).2 s) Q)
  (Rp:∀ (d:Nat) (c:Code) (s1:σ),Ix c s1 -> RN none P N (coll d::D) F w0 R (ON (.code c) d ip jp (S s1).1 (S s1).2 s) Q)
  (TX:JX N s=true:=by kernel_rfl) (hp:b9 ip jp s=true:=by kernel_rfl) (hH:picks ip jp s=((S x0).1,(S x0).2):=by kernel_rfl) (hG:(md s).map (·.1)=some (.func (.func gf) #[] lb):=by kernel_rfl) (At:∀x:α,(md s).map (·.2)=some (encs x).size:=by intro x;kernel_rfl):RN none P N D F w0 R s Q:=by
 refine⟨λ hR=>?_⟩;obtain⟨c,k,L,A,Ts⟩:=s;unfold b9 at hp;unfold picks at hH;rw[ab1] at hp;simp only[Prod.mk.injEq] at hH;cases c with
 | ops _ _=>simp[md] at hG
 | ex _=>simp[md] at hG
 | drw _ _=>simp[md] at hG
 | code c =>
 cases c with
 | rangeFunc g ps assign body =>
  have hi:gB L g=true:=by
   cases h:gB L g with
   | true=>rfl
   | false=>simp[md,h] at hG
  simp only[md,hi,Option.map_some,Option.some.injEq] at hG At;simp only[JX] at TX;have Xk:∀ (Y:HL),∀y∈fd ip ⟨.code (.rangeFunc g ps assign body),k,L,A,Ts⟩++R,y∈Y++(ap (fd ip ⟨.code (.rangeFunc g ps assign body),k,L,A,Ts⟩) (fP jp ⟨.code (.rangeFunc g ps assign body),k,L,A,Ts⟩)++F):=by
   intro Y y hy;rcases List.mem_append.1 hy with hy|hy
   ·exact aav _ (aaw _ (aaw _ hy))
   ·exact aav _ (aav _ (hR y hy))
  exact CW (assign:=assign) (body:=body) hi hG eg (λ s=>(S s).1) (λ s=>(S s).2) I Ix (λ t=>(W t).L) (λ t=>ap (W t).A (W t).Ts) Ia (λ x=>(At x).symm) TX x0 h0 ip (oth ip A.length) jp (oth jp Ts.length) hp.1 hp.2 _ _ rfl rfl hH.1 hH.2 hit
   (λ l i x s1 Y w1 hx hi=>(z_ l i x s1 Y w1 hx hi (λ t WM WL ht hm h hp=>pZ t WM WL ht hm h hp)).h (Xk Y))
   (λ l i x t Y w1 hx ht=>(Ry l i x t Y w1 hx ht).h (Xk Y))
   (λ d s1 hs=>(Rx d s1 hs).h hR) (λ d c s1 hs=>(Rp d c s1 hs).h hR)
 | _=>simp[md] at hG
theorem Sp.runM{f:FuncId}{fn:Func}{c:Code}{args:Array Value}{H:HL}{R':Value -> HL -> Prop}(hf:P.funcs[f]?=some fn)(hb:fn.body=some c)(hR:∀y∈R,y∈F){A:HL}{Ts:List HL}(hH:H=ap A Ts)
  (h:∀w0,RN none P fn.ntmps [] F w0 R ⟨.code c,[],qp 0 args.toList,A,Ts⟩ (bodyPostM (Wr none) 0 P fn (Bp F w0 R'))) (ha:decide (args.size <= fn.ntmps)=true:=by kernel_rfl):Sp P f args H F R':=by
 subst hH;exact wj hf hb rfl ha _ rfl λ w0=>(h w0).h hR
def kI(dx:List Nat)(s:Cfg):Cfg:=match s with
 | ⟨c,k,L,A,Ts⟩=>⟨c,k,L,(oth dx A.length).filterMap (A[·]?),Ts⟩
theorem FJ{fn:Func}{R':Value -> HL -> Prop}(ds dx:List Nat)(hints:List Hint)(Ob:List Prop)(iN:AllP Ob)(ip jp:List Nat){v:Value}{H':HL}(hv:R' v H')
  (hD:D=ds.map coll:=by rfl) (hc:mN s=true:=by kernel_rfl) (hd:((dx++oth dx s.A.length).isPerm (List.range s.A.length),dx.filterMap (s.A[·]?))=(true,ds.map cF):=by kernel_rfl)
  (h:∀n0,jK P n0 fn.results.toList R hints (kI dx s)=some (v,nD (jK P 0 fn.results.toList R hints (kI dx s)),nD (jK P 0 fn.results.toList R hints (kI dx s)),Ob):=by intro n0;kernel_rfl)
  (hp:b9 ip jp (kI dx s)=true:=by kernel_rfl) (hH:ap (picks ip jp (kI dx s)).1 (picks ip jp (kI dx s)).2=H':=by kernel_rfl):RN none P N D F w0 R s (bodyPostM (Wr none) 0 P fn (Bp F w0 R')):=by
 unfold b9 at hp;unfold picks at hH;simp only[Prod.mk.injEq] at hd;rw[ab1] at hp;obtain⟨c,k,L,A,Ts⟩:=s;refine⟨λ hR a w hF aT hB=>?_⟩;have key:LeavesInM (Wr none) 0 P fn a.tmps (Bp F w0 R') a.defers .returning w:=by
  exact Go.Proofs.YtdppjkjbghbnjaaGreatDoor.retM (by simp) ds hD dx (oth dx A.length) R hints v _ Ob hd.1 hd.2 rfl h hR iN ip _ jp _ H' hp.1 hp.2 hH hv a w hF aT hB
 exact ox hc key key
theorem RN.retM{fn:Func}{R':Value -> HL -> Prop}(ds dx:List Nat)(hints:List Hint)(ip jp:List Nat){v:Value}{H':HL}(hv:R' v H')
 (hD:D=ds.map coll:=by rfl) (hc:mN s=true:=by kernel_rfl) (hd:((dx++oth dx s.A.length).isPerm (List.range s.A.length),dx.filterMap (s.A[·]?))=(true,ds.map cF):=by kernel_rfl)
 (h:∀n0,jK P n0 fn.results.toList R hints (kI dx s)=some (v,nD (jK P 0 fn.results.toList R hints (kI dx s)),nD (jK P 0 fn.results.toList R hints (kI dx s)),[]):=by intro n0;kernel_rfl)
 (hp:b9 ip jp (kI dx s)=true:=by kernel_rfl) (hH:ap (picks ip jp (kI dx s)).1 (picks ip jp (kI dx s)).2=H':=by kernel_rfl):RN none P N D F w0 R s (bodyPostM (Wr none) 0 P fn (Bp F w0 R')):=FJ ds dx hints [] trivial ip jp hv hD hc hd h hp hH
end
def SpD(P:Program)(f:FuncId)(args:Array Value)(H F:HL)(R:Value -> HL -> Prop):Prop :=
 ∀w,Rel (H++F) w -> CallsDIn (Wr none) 0 P f args .returning w λ e u' w'=>u'=.returning /\ ∃v H',e=.returned v /\ R v H' /\ Rel (H'++F) w' /\ Below 0 w w'
theorem SpD.mono{P:Program}{f:FuncId}{args:Array Value}{H F:HL}{R R':Value -> HL -> Prop}(h:SpD P f args H F R)(hr:∀v H',R v H' -> R' v H'):SpD P f args H F R' :=
 λ w hR=>(h w hR).mono λ e u' w' ⟨h0,v,H',h1,h2,h3,h4⟩=>⟨h0,v,H',h1,hr _ _ h2,h3,h4⟩
section
variable {r:Option Nat} {P:Program} {N:Nat} {D:List Deferred} {F:HL} {w0:World} {R:HL} {s:Cfg} {Q:Exit -> Act -> World -> Prop}
def dfR(N:Nat)(s:Cfg):Option (FuncId × Array Value × Array Value):=match gI s with
 | some o=>match o.guard,o.op,(eh N o.dst undef s.L).isSome with
  | none,.defer c,true=>match c.callee with
   | .value f=>match gB s.L f && c.args.toList.all (gB s.L) with
    | true=>match fA s.L f with
     | .func (.func g) first cap=>some (g,first++c.args.map (fA s.L),cap)
     | _=>none
    | false=>none
   | _=>none
  | _,_,_=>none
 | none=>none
abbrev OO(g:FuncId)(args cap:Array Value):Deferred:={ target:=.fn (.func g) cap,args:=args }
theorem Bw{L:FL}{a:Act}(hF:Fm N D L a):∀ (l:List Operand),l.all (gB L)=true -> l.map a.eval=l.map (fA L)
 | [],_=>rfl
 | x::l,h=>by
  rw[List.all_cons,ab1] at h;rw[List.map_cons,List.map_cons,hF.eval h.1,Bw hF l h.2]
theorem OP{g:FuncId}{args cap:Array Value}(hk:RN none P N (OO g args cap::D) F w0 R (dX N undef s) Q)(h:dfR N s=some (g,args,cap):=by kernel_rfl):RN none P N D F w0 R s Q:=by
 refine⟨λ hR a w hF aT hB=>?_⟩;obtain⟨cc,kk,L,A,Ts⟩:=s;unfold dfR at h;split at h
 case h_2=>cases h
 rename_i o q0;split at h
 case h_2=>cases h
 rename_i c q1 q2 q3;split at h
 case h_2=>cases h
 rename_i f q4;split at h
 case h_2=>cases h
 rename_i q5;split at h
 case h_2=>cases h
 rename_i g' first f_ q6
 simp only[Option.some.injEq,Prod.mk.injEq] at h;obtain⟨e1,e2,e3⟩:=h;subst e1;subst e2;subst e3;unfold gI at q0;cases cc with
 | code c=>cases q0
 | ex c=>cases q0
 | drw _ _=>cases q0
 | ops ops j =>
  simp only at q0 q3 q5 q6 hF aT;have oR:ops.toList.drop j=o::ops.toList.drop (j+1):=by
   have iF:j<ops.toList.length:=(List.getElem?_eq_some_iff.1 q0).1;rw[List.drop_eq_getElem_cons iF,(List.getElem?_eq_some_iff.1 q0).2]
  show wpListIn _ _ _ _ _ _ _ _;rw[oR,wpListIn,if_pos (by simp[Region.wanted,q1])];refine⟨λ _ _=>trivial,?_⟩;rw[ab1] at q5;obtain⟨L',hl⟩:=dg q3 undef;have Ru:dX N undef ⟨.ops ops j,kk,L,A,Ts⟩=⟨.ops ops (j+1),kk,L',A,Ts⟩:=by
   unfold dX;simp only[q0,hl]
  have hh:=hk.h hR;rw[Ru] at hh;have UO:c.args.map a.eval=c.args.map (fA L):=by
   apply Array.ext';rw[Array.toList_map,Array.toList_map];exact Bw hF _ q5.2
  have e1:a.eval f=.func (.func g') first f_:=(hF.eval q5.1).trans q6
  have hex:(o.semAt (Wr none).round a.eval).run P w=.ok (.defer (OO g' (first++c.args.map (fA L)) f_)) w:=by
   show (Oper.semAt none a.eval o).run P w=_;rw[Oper.semAt_none];simp only[execOp,q2,resolve,q4,e1,Deferred.ofValue,ace,UO];rfl
  rw[hex,Oper.uponIn_defer];have Xw:Fm N (OO g' (first++c.args.map (fA L)) f_::D) L { a with defers:=OO g' (first++c.args.map (fA L)) f_::a.defers }:=⟨hF.size,by rw[<- hF.defs],hF.has⟩;exact hh _ w (Xw.put hl) aT hB
structure LV(P:Program)(N:Nat)(D:List Deferred)(F:HL)(w0:World)(R:HL)(fn:Func)(R':Value -> HL -> Prop)(s:Cfg):Prop where
 h:(∀y∈R,y∈F) -> ∀a w,Fm N D s.L a -> Rel (ap s.A s.Ts++F) w -> Below 0 w0 w -> LeavesInM (Wr none) 0 P fn a.tmps (Bp F w0 R') a.defers .returning w
theorem LS{fn:Func}{R':Value -> HL -> Prop}(hk:LV P N D F w0 R fn R' s)(hc:mN s=true:=by kernel_rfl):RN none P N D F w0 R s (bodyPostM (Wr none) 0 P fn (Bp F w0 R')):=by
 refine⟨λ hR a w hF aT hB=>?_⟩;have key:=hk.h hR a w hF aT hB;exact ox hc key key
def OQ(ip jp:List Nat)(Hq:HL)(Tq:List HL)(s:Cfg):Cfg:=wm (λ A=>Hq++(oth ip A.length).filterMap (A[·]?)) (λ Ts=>Tq++(oth jp Ts.length).filterMap (Ts[·]?)) s
theorem OS{τ:Type}{fn:Func}{R':Value -> HL -> Prop}{g:FuncId}{args cap:Array Value}(eg:∀args w,(callFunc g args).run P w=.ok (.enter g args) w)(ip jp:List Nat){Hp:HL}{Tp:List HL}{Hq:τ -> HL}{Tq:τ -> List HL}{Rv:Value -> τ -> Prop}
  (hc:SpD P g (args++cap) (ap Hp Tp) (ap (fd ip s) (fP jp s)++F) (λ v H'=>∃x,H'=ap (Hq x) (Tq x) /\ Rv v x)) (hk:∀v x,Rv v x -> LV P N D F w0 R fn R' (OQ ip jp (Hq x) (Tq x) s))
  (hp:b9 ip jp s=true:=by kernel_rfl) (hH:picks ip jp s=(Hp,Tp):=by kernel_rfl):LV P N (OO g args cap::D) F w0 R fn R' s:=by
 unfold b9 at hp;unfold picks at hH;rw[ab1] at hp;simp only[Prod.mk.injEq] at hH;obtain⟨e1,e2⟩:=hH;refine⟨λ hR a w hF aT hB=>?_⟩;have oF:(ap Hp Tp++ap (fd ip s) (fP jp s)).Perm (ap s.A s.Ts):=by
  have h1:=lI s.A s.Ts ip (oth ip s.A.length) jp (oth jp s.Ts.length) hp.1 hp.2;rw[e1,e2] at h1;exact h1
 have Xl:Rel (ap Hp Tp++(ap (fd ip s) (fP jp s)++F)) w:=by rw[<- aaC];exact aT.perm (oF.append_right F)
 rw[hF.defs];refine⟨by simp,.inr ⟨(λ h=>by cases h),.func g,cap,g,args++cap,rfl,?_,λ _ _=>trivial,?_⟩⟩
 ·show (callFunc g (args++cap)).run P w=_;exact eg _ _
 ·refine(hc w Xl).mono ?_;rintro e u' w' ⟨rfl,v,H',rfl,⟨x,rfl,hv⟩,SB,Uy⟩;have:=(hk v x hv).h hR { a with defers:=D } w' ⟨hF.size,rfl,hF.has⟩ ?_ (hB.trans Uy)
  ·exact this
  ·unfold OQ;rw[pY.1,pY.2.1];refine SB.perm ?_;exact(uu _ _ _ _ _).symm
theorem JY{fn:Func}{R':Value -> HL -> Prop}(hints:List Hint)(Ob:List Prop)(iN:AllP Ob)(ip jp:List Nat){v:Value}{H':HL}(hv:R' v H')
  (h:∀n0,jK P n0 fn.results.toList R hints s=some (v,nD (jK P n0 fn.results.toList R hints s),nD (jK P n0 fn.results.toList R hints s),Ob):=by intro n0;kernel_rfl)
  (hp:b9 ip jp s=true:=by kernel_rfl) (hH:ap (picks ip jp s).1 (picks ip jp s).2=H':=by kernel_rfl):LV P N [] F w0 R fn R' s:=by
 unfold b9 at hp;unfold picks at hH;refine⟨λ hR a w hF aT hB=>?_⟩;rw[ab1] at hp;have h':=h w.heap.size;unfold jK zl at h';split at h'
 case h_2=>cases h'
 rename_i vs ss hs;split at h'
 case h_2=>cases h'
 simp only[nD,Option.some.injEq,Prod.mk.injEq] at h';obtain⟨e1,-,e3,e4⟩:=h';have iD:=jJ (P:=P) hF aT fn.results.toList _ _ _ hs rfl rfl hR (λ e=>by cases e) (fR rfl e3) (by rw[e4];exact AllP.mem iN);subst e1;rw[hF.defs];exact⟨_,jl (by simp) iD,_,H',rfl,hv,aT.takeT ip _ jp _ hp.1 hp.2 hH,hB⟩
theorem LV.ret{fn:Func}{R':Value -> HL -> Prop}(hints:List Hint)(ip jp:List Nat){v:Value}{H':HL}(hv:R' v H')
 (h:∀n0,jK P n0 fn.results.toList R hints s=some (v,nD (jK P n0 fn.results.toList R hints s),nD (jK P n0 fn.results.toList R hints s),[]):=by intro n0;kernel_rfl)
 (hp:b9 ip jp s=true:=by kernel_rfl) (hH:ap (picks ip jp s).1 (picks ip jp s).2=H':=by kernel_rfl):LV P N [] F w0 R fn R' s:=JY hints [] trivial ip jp hv h hp hH
end
def Qe(P:Program)(g:FuncId)(lb:Array Value)(own:HL)(F:HL){α:Type}(encs:α -> Array Value)(xs:List α)(Te Tx:HL -> Prop):Prop :=
 ∀ (X:HL) (l:Nat) (J:Nat -> HL -> Prop) (Jx:HL -> Prop) (H0:HL),(∀i x H Y,xs[i]?=some x -> J i H -> YL P l (encs x) H (Y++(X++F)) (λ b H'=>(b=true /\ J (i+1) H') \/ (b=false /\ Jx H'))) -> J 0 H0 ->
  Sp P g (#[.func (.yield l) #[] #[]]++lb) (H0++own) (X++F) (λ _ H'=>∃H1 T1,H'=H1++T1 /\ ((J xs.length H1 /\ Te T1) \/ (Jx H1 /\ Tx T1)))
section
variable {P:Program} {N:Nat} {D:List Deferred} {F:HL} {w0:World} {L:FL} {Q:Exit -> Act -> World -> Prop}
theorem C5{α σ τ:Type}{g:Operand}{ps:Array Tmp}{assign body:Code}{encs:α -> Array Value}{xs:List α}{gf:FuncId}{lb:Array Value}(hi:gB L g=true)(hg:fA L g=.func (.func gf) #[] lb)(eg:∀args w,(callFunc gf args).run P w=.ok (.enter gf args) w)
  (Hx:σ -> HL) (I:Nat -> σ -> Prop) (Ix:Code -> σ -> Prop) (La:τ -> FL) (Ha:τ -> HL) (Ia:Nat -> α -> τ -> Prop) (YA:∀x,(encs x).size=ps.size) (TX:(ps.toList.all λ p=>decide (p<N))=true)
  (x0:σ) (h0:I 0 x0) {A:HL} {Ts:List HL} (ip ir jp jr:List Nat) (hp:(ip++ir).isPerm (List.range A.length)=true) (hj:(jp++jr).isPerm (List.range Ts.length)=true) (Hr:HL) (Tr:List HL) (Zr:ir.filterMap (A[·]?)=Hr) (own:HL) {Te Tx:HL -> Prop} (Zf:jr.filterMap (Ts[·]?)=own::Tr) (hH:ap (ip.filterMap (A[·]?)) (jp.filterMap (Ts[·]?))=Hx x0)
  (hit:Qe P gf lb own (ap Hr Tr++F) encs xs Te Tx)
  (z_:∀ (l i:Nat) (x:α) (s:σ) (Y:HL) (w1:World),xs[i]?=some x -> I i s -> TR (some l) P N [] (Y++(ap Hr Tr++F)) w1 (pJ ps.toList (encs x).toList L) (Hx s) assign (Exit.then (My N [] (Y++(ap Hr Tr++F)) w1 La Ha (Ia i x)) (λ _ _ _=>False)))
  (Ry:∀ (l i:Nat) (x:α) (t:τ) (Y:HL) (w1:World),xs[i]?=some x -> Ia i x t -> TR (some l) P N [] (Y++(ap Hr Tr++F)) w1 (La t) (Ha t) body (RQ (Y++(ap Hr Tr++F)) w1 Hx (I (i+1)) Ix))
  (Rx:∀ (d:Nat) (s:σ) (T1:HL),I xs.length s -> Te T1 -> EX N (coll d::D) F w0 L (cF d::(Hx s++ap Hr (T1::Tr))) Q .normal)
  (Rp:∀ (d:Nat) (c:Code) (s:σ) (T1:HL),Ix c s -> Tx T1 -> TR none P N (coll d::D) F w0 L (cF d::(Hx s++ap Hr (T1::Tr))) c Q) :
  TR none P N D F w0 L (ap A Ts) (.rangeFunc g ps assign body) Q:=by
 intro a w hF hR hB;have hpo:∀ (X:HL) (T1:HL),((X++T1)++(ap Hr Tr++F)).Perm (X++(ap Hr (T1::Tr)++F)):=λ X T1=>by
  rw[aaC];refine List.Perm.append_left X ?_;rw[<- aaC];refine abO F ?_;show (T1++(Hr++Tr.flatten)).Perm (Hr++(T1::Tr).flatten);rw[acb,<- aaC,<- aaC];exact abO _ abL
 have Xl:Rel ((Hx x0++own)++(ap Hr Tr++F)) w:=by
  have h1:=lI A Ts ip ir jp jr hp hj;rw[Zr,Zf,hH] at h1;have h2:=hR.perm (h1.append_right F);rw[aaC] at h2;exact h2.perm (hpo _ _)
 refine wpIn_rangeFunc ?_;intro fn YR;obtain⟨rec,Rt⟩:∃rec:LoopState -> Option Code -> Loop,rec=λ st pe=>{ state:=st,pending:=pe,fn,tmps:=a.tmps,params:=ps,assign,body,defers:=w.heap.size }:=⟨_,rfl⟩;obtain⟨W1,Ze⟩:∃W1,(w.alloc (.deferred (some []))).alloc (.loop (rec .ready none))=W1:=⟨_,rfl⟩;have hB1:Below 0 w W1:=by rw[<- Ze];exact(iw _).trans (iw _)
 have Zh:Rel ((w.heap.size+1,Blk.obj (.loop (rec .ready none)))::cF w.heap.size::((Hx x0++own)++(ap Hr Tr++F))) W1:=by
  rw[<- Ze];have h1:=(Xl.alloc (.obj (.deferred (some [])))).alloc (.obj (.loop (rec .ready none)));rw[World.size_alloc] at h1;exact h1
 refine⟨w.heap.size+1,[coll w.heap.size],W1,{ target:=.fn (.func gf) lb,args:=#[.func (.yield (w.heap.size+1)) #[] #[]] },W1,gf,#[.func (.yield (w.heap.size+1)) #[] #[]]++lb,W1,?_,?_,?_,?_,λ h=>(by cases h),?_⟩
 ·rw[<- Ze,Rt];exact run_enterLoop_outer _ _ _ _ _
 ·have To:a.eval g=.func (.func gf) #[] lb:=(hF.eval hi).trans hg;simp only[resolve,To];simp[Deferred.ofValue];rfl
 ·intro f' _;trivial
 ·simp[invoke,eg]
 ·refine jI ?_;obtain⟨l,hl⟩:∃l,w.heap.size+1=l:=⟨_,rfl⟩;rw[hl] at Zh ⊢;obtain⟨d,hd⟩:∃d,w.heap.size=d:=⟨_,rfl⟩;rw[hd] at Zh Rt ⊢;have key:=hit [] l (λ i H'=>∃s,I i s /\ H'=(l,Blk.obj (.loop (rec .ready none)))::cF d::Hx s) (λ H'=>∃c s,Ix c s /\ H'=(l,Blk.obj (.loop (rec .done (some c))))::cF d::Hx s)
   ((l,Blk.obj (.loop (rec .ready none)))::cF d::Hx x0) ?round ⟨x0,h0,rfl⟩ W1 Zh
  case round =>
   rintro i x H' Y hx ⟨s,hs,rfl⟩ W aT;have RS:Rel ((l,Blk.obj (.loop (rec .ready none)))::(cF d::(Hx s++(Y++(ap Hr Tr++F))))) W:=aT;have hlW:W.heap[l]?=some (.loop (rec .ready none)):=RS.holds _ aax;have hy:=run_yield (P:=P) (args:=encs x) hlW (by rw[Rt];exact YA x);rw[Rt] at hy;refine⟨fn,_,assign,body,hy,roundIn_of_wpIn (F:=Wr none) (n:=0) YR ?_⟩;have hFm:Fm N [] (pJ ps.toList (encs x).toList L) { tmps:=(ps.zip (encs x)).foldl (λ t (p,v)=>t.setIfInBounds p v) a.tmps,defers:=[] }:=by
    have h1:=Fm.zip (D:=[]) ps.toList (encs x).toList L a.tmps (λ p hp=>aci (List.all_eq_true.1 TX p hp)) ⟨hF.size,rfl,hF.has⟩;have e:(ps.zip (encs x)).foldl (λ t (p,v)=>t.setIfInBounds p v) a.tmps=(ps.toList.zip (encs x).toList).foldl (λ t (p,v)=>t.setIfInBounds p v) a.tmps:=by
     rw[<- Array.foldl_toList,Array.toList_zip]
    rw[e];exact h1
   have hRA:Rel (Hx s++(((l,Blk.obj (.loop (rec .ready none)))::cF d::Y)++(ap Hr Tr++F))) W:=by
    have:=RS;refine this.perm ?_;simp only[List.cons_append];refine List.perm_middle.trans ?_;refine List.Perm.cons _ ?_;exact List.perm_middle
   refine wpIn_mono (z_ l i x s ((l,Blk.obj (.loop (rec .ready none)))::cF d::Y) W hx hs _ W hFm hRA (Below.refl _ _)) ?_;intro e a1 Wa hq;cases e with
   | normal =>
    obtain⟨t,ht,m1,m2,m3⟩:=hq;have hRb:Rel ((l,Blk.obj (.loop (rec .ready none)))::(cF d::(Ha t++(Y++(ap Hr Tr++F))))) Wa:=by
     refine m2.perm ?_;simp only[List.cons_append];refine(List.Perm.trans ?_ List.perm_middle.symm);refine List.Perm.cons _ ?_;exact List.perm_middle.symm
    have hla:Wa.heap[l]?=some (.loop (rec .ready none)):=hRb.holds _ aax;refine⟨_,run_beginRound hla (by rw[Rt]),?_⟩;have hRc:=hRb.putObj (F:=[]) (.obj (.loop { rec .ready none with state:=.busy }));have SL:Rel (Ha t++(((l,Blk.obj (.loop { rec .ready none with state:=.busy }))::cF d::Y)++(ap Hr Tr++F))) (Wa.putObj l (.loop { rec .ready none with state:=.busy })):=by
     refine hRc.perm ?_;simp only[List.cons_append];refine List.perm_middle.trans ?_;refine List.Perm.cons _ ?_;exact List.perm_middle
    refine wpIn_mono (Ry l i x t ((l,Blk.obj (.loop { rec .ready none with state:=.busy }))::cF d::Y) W hx ht a1 _ m1 SL (m3.trans (dU _ _))) ?_;have fin:∀ (jump:Option Code) (s':σ) (W3:World),Rel (Hx s'++(((l,Blk.obj (.loop { rec .ready none with state:=.busy }))::cF d::Y)++(ap Hr Tr++F))) W3 -> Below 0 W W3 ->
      ∃v w',(Instr.endRound l jump).run P W3=.ok v w' /\ v=.bool jump.isNone /\ Rel (((l,Blk.obj (.loop (rec (if jump.isNone then .ready else .done) jump)))::cF d::Hx s')++(Y++([]++(ap Hr Tr++F)))) w' /\ Below 0 W w':=by
     intro jump s' W3 h3 hb3;have h4:Rel ((l,Blk.obj (.loop { rec .ready none with state:=.busy }))::(cF d::(Hx s'++(Y++(ap Hr Tr++F))))) W3:=by
      refine h3.perm ?_;simp only[List.cons_append];refine(List.Perm.trans ?_ List.perm_middle.symm);refine List.Perm.cons _ ?_;exact List.perm_middle.symm
     have U1:W3.heap[l]?=some (.loop { rec .ready none with state:=.busy }):=h4.holds _ aax;have iD:=run_endRound (P:=P) jump U1;refine⟨_,_,iD,rfl,?_,hb3.trans (dU _ _)⟩;have h5:=h4.putObj (F:=[]) (.obj (.loop (rec (if jump.isNone then .ready else .done) jump)));rw[Rt] at h5 ⊢;exact h5
    intro e2 a2 W3 RI;cases e2 with
    | normal =>
     obtain⟨s',Rq,n2,n3⟩:=RI;obtain⟨v,w',k1,k2,k3,k4⟩:=fin none s' W3 n2 n3;exact⟨v,w',k1,true,_,by rw[k2];rfl,.inl ⟨rfl,s',Rq,rfl⟩,k3,k4⟩
    | ret =>
     obtain⟨s',Rq,n2,n3⟩:=RI;obtain⟨v,w',k1,k2,k3,k4⟩:=fin (some .ret) s' W3 n2 n3;exact⟨v,w',k1,false,_,by rw[k2];rfl,.inr ⟨rfl,.ret,s',Rq,rfl⟩,k3,k4⟩
    | exit id =>
     obtain⟨s',Rq,n2,n3⟩:=RI;obtain⟨v,w',k1,k2,k3,k4⟩:=fin (some (.exit id)) s' W3 n2 n3;exact⟨v,w',k1,false,_,by rw[k2];rfl,.inr ⟨rfl,.exit id,s',Rq,rfl⟩,k3,k4⟩
    | goto t=>exact RI.elim
    | panic ch=>exact RI.elim
    | outgrown=>exact RI.elim
   | exit id=>exact hq.elim
   | goto t=>exact hq.elim
   | ret=>exact hq.elim
   | panic ch=>exact hq.elim
   | outgrown=>exact hq.elim
  refine key.mono ?_;rintro e W2 ⟨v,H',rfl,hor,SB,Uy⟩;have fin:∀ (st:LoopState) (pe:Option Code) (s:σ) (T1:HL) (n_:st ≠ .busy),Rel ((((l,Blk.obj (.loop (rec st pe)))::cF d::Hx s)++T1)++([]++(ap Hr Tr++F))) W2 ->
    ∃w4,(Instr.endLoop l).run P W2=.ok pe w4 /\ Rel ((cF d::(Hx s++ap Hr (T1::Tr)))++F) w4 /\ Below 0 W1 w4:=by
   intro st pe s T1 n_ h4;have h5:Rel ((l,Blk.obj (.loop (rec st pe)))::(cF d::(Hx s++(ap Hr (T1::Tr)++F)))) W2:=h4.perm (((hpo (Hx s) T1).symm.cons _).cons _);have RX:W2.heap[l]?=some (.loop (rec st pe)):=h5.holds _ aax;have iD:=run_endLoop (P:=P) RX (by rw[Rt];exact n_);refine⟨W2.putObj l (.loop { rec st pe with state:=.exhausted }),?_,?_,Uy.trans (dU _ _)⟩
   ·rw[iD,Rt]
   ·have h6:=h5.putObj (F:=[]) (.obj (.loop { rec st pe with state:=.exhausted }));have h7:=Rel.drop (X:=[(l,Blk.obj (.loop { rec st pe with state:=.exhausted }))]) (H:=cF d::(Hx s++(ap Hr (T1::Tr)++F))) h6;rw[<- aaC] at h7;exact h7
  have hFd:Fm N (coll d::D) L { a with defers:=[coll d]++a.defers }:=⟨hF.size,by rw[hF.defs];rfl,hF.has⟩;rcases hor with ⟨H1,T1,rfl,⟨⟨s,hs,rfl⟩,hT⟩|⟨⟨c,s,hs,rfl⟩,hT⟩⟩
  ·obtain⟨w4,k1,k2,k3⟩:=fin .ready none s T1 (by simp) SB;exact⟨none,w4,k1,Rx d s T1 hs hT _ w4 hFd k2 (hB.trans (hB1.trans k3))⟩
  ·obtain⟨w4,k1,k2,k3⟩:=fin .done (some c) s T1 (by simp) SB;exact⟨some c,w4,k1,Rp d c s T1 hs hT _ w4 hFd k2 (hB.trans (hB1.trans k3))⟩
theorem zw{α σ τ:Type}{g:Operand}{ps:Array Tmp}{assign body:Code}{encs:α -> Array Value}{xs:List α}{gf:FuncId}{lb:Array Value}(hi:gB L g=true)(hg:fA L g=.func (.func gf) #[] lb)(eg:∀args w,(callFunc gf args).run P w=.ok (.enter gf args) w)
  (Ax:σ -> HL) (Tx:σ -> List HL) (I:Nat -> σ -> Prop) (Ix:Code -> σ -> Prop) (La:τ -> FL) (Ha:τ -> HL) (Ia:Nat -> α -> τ -> Prop) (YA:∀x,(encs x).size=ps.size) (TX:(ps.toList.all λ p=>decide (p<N))=true)
  (x0:σ) (h0:I 0 x0) {A:HL} {Ts:List HL} (ip ir jp jr:List Nat) (hp:(ip++ir).isPerm (List.range A.length)=true) (hj:(jp++jr).isPerm (List.range Ts.length)=true) (Hr:HL) (Tr:List HL) (Zr:ir.filterMap (A[·]?)=Hr) (own:HL) {Te Tx':HL -> Prop} (Zf:jr.filterMap (Ts[·]?)=own::Tr) (hA:ip.filterMap (A[·]?)=Ax x0) (hT:jp.filterMap (Ts[·]?)=Tx x0)
  (hit:Qe P gf lb own (ap Hr Tr++F) encs xs Te Tx')
  (z_:∀ (l i:Nat) (x:α) (s:σ) (Y:HL) (w1:World),xs[i]?=some x -> I i s -> TR (some l) P N [] (Y++(ap Hr Tr++F)) w1 (pJ ps.toList (encs x).toList L) (ap (Ax s) (Tx s)) assign (Exit.then (My N [] (Y++(ap Hr Tr++F)) w1 La Ha (Ia i x)) (λ _ _ _=>False)))
  (Ry:∀ (l i:Nat) (x:α) (t:τ) (Y:HL) (w1:World),xs[i]?=some x -> Ia i x t -> TR (some l) P N [] (Y++(ap Hr Tr++F)) w1 (La t) (Ha t) body (RQ (Y++(ap Hr Tr++F)) w1 (λ s=>ap (Ax s) (Tx s)) (I (i+1)) Ix))
  (Rx:∀ (d:Nat) (s:σ) (T1:HL),I xs.length s -> Te T1 -> EX N (coll d::D) F w0 L (ap (cF d::(Ax s++Hr)) (Tx s++T1::Tr)) Q .normal)
  (Rp:∀ (d:Nat) (c:Code) (s:σ) (T1:HL),Ix c s -> Tx' T1 -> TR none P N (coll d::D) F w0 L (ap (cF d::(Ax s++Hr)) (Tx s++T1::Tr)) c Q) :
  TR none P N D F w0 L (ap A Ts) (.rangeFunc g ps assign body) Q:=by
 have hpm:∀ (d:Nat) (s:σ) (Tr:List HL),(ap (cF d::(Ax s++Hr)) (Tx s++Tr)).Perm (cF d::(ap (Ax s) (Tx s)++ap Hr Tr)):=λ d s Tr=>by
  show (cF d::((Ax s++Hr)++(Tx s++Tr).flatten)).Perm _;refine List.Perm.cons _ ?_;rw[List.flatten_append];show ((Ax s++Hr)++((Tx s).flatten++Tr.flatten)).Perm ((Ax s++(Tx s).flatten)++(Hr++Tr.flatten));rw[aaC,aaC];refine List.Perm.append_left _ ?_;rw[<- aaC,<- aaC];exact abO _ abL
 exact C5 hi hg eg (λ s=>ap (Ax s) (Tx s)) I Ix La Ha Ia YA TX x0 h0 ip ir jp jr hp hj Hr Tr Zr own Zf (by rw[hA,hT]) hit z_ Ry
  (λ d s T1 hs hT a w h1 h2 h3=>Rx d s T1 hs hT a w h1 (h2.perm ((hpm d s _).append_right F)) h3) (λ d c s T1 hs hT a w h1 h2 h3=>Rp d c s T1 hs hT a w h1 (h2.perm ((hpm d s _).append_right F)) h3)
end
section
variable {P:Program} {N:Nat} {D:List Deferred} {F:HL} {w0:World} {R:HL} {s:Cfg} {Q:Exit -> Act -> World -> Prop}
def OT(c:Fo)(d:Nat)(ip jp:List Nat)(A:HL)(Ts:List HL)(T1:HL)(s:Cfg):Cfg:=match s with
 | ⟨_,k,L,A',Uf⟩=>⟨c,k,L,cF d::(A++(oth ip A'.length).filterMap (A'[·]?)),Ts++T1::((oth jp Uf.length).filterMap (Uf[·]?)).tail⟩
theorem C6{α σ τ:Type}{encs:α -> Array Value}{xs:List α}{gf:FuncId}{lb:Array Value}(eg:∀args w,(callFunc gf args).run P w=.ok (.enter gf args) w)
  (S:σ -> HL × List HL) (I:Nat -> σ -> Prop) (Ix:Code -> σ -> Prop) (W:τ -> Inv) (Ia:Nat -> α -> τ -> Prop) (x0:σ) (h0:I 0 x0) (ip jp:List Nat)
  (own:HL) {Te Tx:HL -> Prop} (hit:Qe P gf lb own (ap (fd ip s) (fP jp s).tail++F) encs xs Te Tx)
  (z_:∀ (l i:Nat) (x:α) (s1:σ) (Y:HL) (w1:World),xs[i]?=some x -> I i s1 ->
   (∀ {s':Cfg} {R':HL} (t:τ) (WM WL:List Nat),Ia i x t -> (hm:CY s'=some (MV N [] (Y++(ap (fd ip s) (fP jp s).tail++F)) w1 W (Ia i x)):=by kernel_rfl) -> (h:uz (W t) WM WL s'=nE (W t):=by kernel_rfl) -> (hp:b9 WM WL s'=true:=by kernel_rfl) -> RN (some l) P N [] (Y++(ap (fd ip s) (fP jp s).tail++F)) w1 R' s' (λ _ _ _=>False)) ->
   RN (some l) P N [] (Y++(ap (fd ip s) (fP jp s).tail++F)) w1 (fd ip s++R) (OL (MV N [] (Y++(ap (fd ip s) (fP jp s).tail++F)) w1 W (Ia i x)) (encs x).toList (S s1).1 (S s1).2 s) (λ _ _ _=>False))
  (Ry:∀ (l i:Nat) (x:α) (t:τ) (Y:HL) (w1:World),xs[i]?=some x -> Ia i x t -> RN (some l) P N [] (Y++(ap (fd ip s) (fP jp s).tail++F)) w1 (fd ip s++R) (OM (W t) s) (RQ (Y++(ap (fd ip s) (fP jp s).tail++F)) w1 (λ s=>ap (S s).1 (S s).2) (I (i+1)) Ix))
  (Rx:∀ (d:Nat) (s1:σ) (T1:HL),I xs.length s1 -> Te T1 -> RN none P N (coll d::D) F w0 R (OT (.ex .normal) d ip jp (S s1).1 (S s1).2 T1 s) Q)
  (Rp:∀ (d:Nat) (c:Code) (s1:σ) (T1:HL),Ix c s1 -> Tx T1 -> RN none P N (coll d::D) F w0 R (OT (.code c) d ip jp (S s1).1 (S s1).2 T1 s) Q)
  (TX:JX N s=true:=by kernel_rfl) (hp:b9 ip jp s=true:=by kernel_rfl) (hH:picks ip jp s=((S x0).1,(S x0).2):=by kernel_rfl) (ho:(fP jp s).head?=some own:=by kernel_rfl) (hG:(md s).map (·.1)=some (.func (.func gf) #[] lb):=by kernel_rfl) (At:∀x:α,(md s).map (·.2)=some (encs x).size:=by intro x;kernel_rfl):RN none P N D F w0 R s Q:=by
 refine⟨λ hR=>?_⟩;obtain⟨c,k,L,A,Ts⟩:=s;unfold b9 at hp;unfold picks at hH;rw[ab1] at hp;simp only[Prod.mk.injEq] at hH;cases c with
 | ops _ _=>simp[md] at hG
 | ex _=>simp[md] at hG
 | drw _ _=>simp[md] at hG
 | code c =>
 cases c with
 | rangeFunc g ps assign body =>
  have hi:gB L g=true:=by
   cases h:gB L g with
   | true=>rfl
   | false=>simp[md,h] at hG
  simp only[md,hi,Option.map_some,Option.some.injEq] at hG At;simp only[JX] at TX;have Xk:∀ (Y:HL),∀y∈fd ip ⟨.code (.rangeFunc g ps assign body),k,L,A,Ts⟩++R,y∈Y++(ap (fd ip ⟨.code (.rangeFunc g ps assign body),k,L,A,Ts⟩) (fP jp ⟨.code (.rangeFunc g ps assign body),k,L,A,Ts⟩).tail++F):=by
   intro Y y hy;rcases List.mem_append.1 hy with hy|hy
   ·exact aav _ (aaw _ (aaw _ hy))
   ·exact aav _ (aav _ (hR y hy))
  have DO:(oth jp Ts.length).filterMap (Ts[·]?)=own::((oth jp Ts.length).filterMap (Ts[·]?)).tail:=by
   have h1:((oth jp Ts.length).filterMap (Ts[·]?)).head?=some own:=ho;generalize (oth jp Ts.length).filterMap (Ts[·]?)=l at h1 ⊢;cases l with
   | nil=>cases h1
   | cons x l=>simp only[List.head?_cons,Option.some.injEq] at h1;rw[h1];rfl
  exact zw (assign:=assign) (body:=body) hi hG eg (λ s=>(S s).1) (λ s=>(S s).2) I Ix (λ t=>(W t).L) (λ t=>ap (W t).A (W t).Ts) Ia (λ x=>(At x).symm) TX x0 h0 ip (oth ip A.length) jp (oth jp Ts.length) hp.1 hp.2 _ _ rfl own DO hH.1 hH.2 hit
   (λ l i x s1 Y w1 hx hi=>(z_ l i x s1 Y w1 hx hi (λ t WM WL ht hm h hp=>pZ t WM WL ht hm h hp)).h (Xk Y))
   (λ l i x t Y w1 hx ht=>(Ry l i x t Y w1 hx ht).h (Xk Y))
   (λ d s1 T1 hs hT=>(Rx d s1 T1 hs hT).h hR) (λ d c s1 T1 hs hT=>(Rp d c s1 T1 hs hT).h hR)
 | _=>simp[md] at hG
def mkC(i:Nat)(s:Cfg):Cfg:=match s with
 | ⟨c,k,L,A,Ts⟩=>⟨c,k,L,(oth [i] A.length).filterMap (A[·]?),Ts⟩
theorem LV.mark{fn:Func}{R':Value -> HL -> Prop}{d:Nat}(i:Nat)(hk:LV P N D F w0 R fn R' (mkC i s))(h:((s.A[i]?),([i]++oth [i] s.A.length).isPerm (List.range s.A.length))=(some (cF d),true):=by kernel_rfl):LV P N (coll d::D) F w0 R fn R' s:=by
 simp only[Prod.mk.injEq] at h;refine⟨λ hR a w hF aT hB=>?_⟩;obtain⟨c,k,L,A,Ts⟩:=s;simp only at h hF aT;have hp:=fm A [i] (oth [i] A.length) h.2;simp only[List.filterMap_cons,h.1,List.filterMap_nil,List.cons_append,List.nil_append] at hp;have h1:Rel ((d,Blk.obj (.deferred (some [])))::(ap ((oth [i] A.length).filterMap (A[·]?)) Ts++F)) w:=by
  refine aT.perm ?_;have h2:(cF d::ap ((oth [i] A.length).filterMap (A[·]?)) Ts).Perm (ap A Ts):=abO Ts.flatten hp;exact h2.append_right F
 have hd:w.heap[d]?=some (.deferred (some [])):=h1.holds (cF d) (by simp);have h2:=(h1.putObj (F:=[]) (.obj (.deferred none)));rw[hF.defs];refine⟨by simp,.inl ⟨d,_,rfl,run_takeDeferred hd,?_⟩⟩;exact hk.h hR { a with defers:=D } _ ⟨hF.size,rfl,hF.has⟩ (Rel.drop (X:=[(d,Blk.obj (.deferred none))]) h2) (hB.trans (dU _ _))
end
section
variable {r:Option Nat} {P:Program} {N:Nat} {D:List Deferred} {F:HL} {w0:World} {R:HL} {s:Cfg} {Q:Exit -> Act -> World -> Prop}
variable {α:Type} {e:Enc α} {T:TypeId} {inf:TypeInfo} {z:Value}
def Bz(P:Program)(N j:Nat)(oo:Option Oper)(s:Cfg):Option (Option Addr × Nat × Nat × TypeId × Option Addr × Nat × Nat × TypeId × HL):=match oo with
 | some o=>match JW P o s.L,s.Ts[j]?,([j]++oth [j] s.Ts.length).isPerm (List.range s.Ts.length) && (eh N o.dst undef s.L).isSome with
  | some (A,n,cap,T,B,m,c',tx),some Hl,true=>some (A,n,cap,T,B,m,c',tx,Hl)
  | _,_,_=>none
 | none=>none
theorem qy{j:Nat}{oo:Option Oper}{A:Option Addr}{n cap m c':Nat}{B:Option Addr}{tx:TypeId}{Hl:HL}(h:Bz P N j oo s=some (A,n,cap,T,B,m,c',tx,Hl)) :
  ∃o a1 a2 t e',oo=some o /\ o.guard=none /\ o.op=.call { callee:=.builtin .append,args:=#[a1,a2],argTypes:=#[t,tx] } /\ (gB s.L a1 && gB s.L a2)=true /\ fA s.L a1=.slice A n cap /\ fA s.L a2=.slice B m c' /\ P.underlying t=some (.slice T) /\ P.underlying tx=some (.slice e') /\
   s.Ts[j]?=some Hl /\ ([j]++oth [j] s.Ts.length).isPerm (List.range s.Ts.length)=true /\ (eh N o.dst undef s.L).isSome=true:=by
 unfold Bz at h;split at h
 case h_2=>cases h
 rename_i o;split at h
 case h_2=>cases h
 rename_i A' n' f_ T' B' m' c2 tx' q_ h1 h3 h4;simp only[Option.some.injEq,Prod.mk.injEq] at h;obtain⟨e1,e2,e3,e4,e5,e6,e7,e8,e9⟩:=h;subst e1;subst e2;subst e3;subst e4;subst e5;subst e6;subst e7;subst e8;subst e9;obtain⟨a1,a2,t,e',q1,q2,q3,q4,q5,q6,q7⟩:=sU h1;rw[ab1] at h4;exact⟨o,a1,a2,t,e',rfl,q1,q2,q3,q4,q5,q6,q7,h3,h4.1,h4.2⟩
end
inductive RowL{α:Type}(e:Enc α)(T:TypeId)(F:HL):Option Addr -> Nat -> List α -> Prop
 | zero (A:Option Addr):RowL e T F A 0 []
 | rows (q o N:Nat) (full:List α) (fz:Nat × Nat) (n:Nat) (xs:List α) (hq:(q,.rows e.w N (aQ e full) T fz)∈F) (ho:o+n <= N) (hn:xs.length=n) (hx:∀k,k<n -> full.getD (o+k) e.dflt=xs.getD k e.dflt):RowL e T F (some ⟨q,o*e.w,none⟩) n xs
section
variable {α:Type} {e:Enc α} {T:TypeId} {F:HL} {A:Option Addr} {n:Nat} {xs:List α}
theorem RowL.mono{F':HL}(h:RowL e T F A n xs)(hs:∀x∈F,x∈F'):RowL e T F' A n xs:=by
 cases h with
 | zero=>exact .zero _
 | rows q o N full fz n xs hq ho hn hx=>exact .rows q o N full fz n xs (hs _ hq) ho hn hx
theorem RowL.up{X:HL}(h:RowL e T F A n xs):RowL e T (X++F) A n xs:=h.mono λ x hx=>aav _ hx
theorem RowL.len(h:RowL e T F A n xs):xs.length=n:=by
 cases h with
 | zero=>rfl
 | rows q o N full fz n xs hq ho hn hx=>exact hn
theorem RowL.at(h:RowL e T F A n xs){k:Nat}(hk:k<n):∃q o N full fz,A=some ⟨q,o*e.w,none⟩ /\ (q,.rows e.w N (aQ e full) T fz)∈F /\ o+k<N /\ full.getD (o+k) e.dflt=xs.getD k e.dflt:=by
 cases h with
 | zero=>omega
 | rows q o N full fz n xs hq ho hn hx=>exact⟨q,o,N,full,fz,rfl,hq,by omega,hx k hk⟩
theorem RowL.whole{q N:Nat}{fz:Nat × Nat}(hq:(q,.rows e.w N (aQ e xs) T fz)∈F)(h:xs.length <= N):RowL e T F (some ⟨q,0,none⟩) xs.length xs:=by
 have:=RowL.rows (e:=e) (T:=T) (F:=F) q 0 N xs fz xs.length xs hq (by omega) rfl (λ k hk=>by rw[Nat.zero_add]);rwa [Nat.zero_mul] at this
end
section
variable {α:Type} {e:Enc α} {P:Program} {t tx ty T:TypeId} {inf:TypeInfo} {z:Value} {F:HL}
theorem zx(l:List α)(hw:0<e.w):∀ {j:Nat},j<l.length*e.w -> (ar e l)[j]?=some (e.cell (l.getD (j / e.w) e.dflt) (j % e.w)):=by
 induction l with
 | nil=>intro j hj;simp at hj
 | cons x l ih =>
  intro j hj;have hc:ar e (x::l)=(List.range e.w).map (e.cell x)++ar e l:=by simp[ar]
  rw[hc]
  by_cases h:j<e.w
  ·rw[abD (by simpa using h),Nat.div_eq_of_lt h,Nat.mod_eq_of_lt h];simp[h]
  ·rw[abG (by simp;omega)];simp only[List.length_map,List.length_range];have h2:j=(j-e.w)+e.w:=by omega
   rw[ih (by simp only[abr,Nat.add_mul,Nat.one_mul] at hj;omega)]
   conv=>rhs;rw[h2,Nat.add_div_right _ hw,Nat.add_mod_right]
   rfl
theorem FK(ok:EncOk e P T inf z)(hw:0<e.w){F:HL}{A:Option Addr}{n:Nat}{xs:List α}(hl:RowL e T F A n xs){c:Nat}{e':TypeId}(hk:P.underlying tx=some (.slice e'))(X:HL)(w:World)(hR:Rel (X++F) w):Src P inf.size tx (.slice A n c) xs.length (ar e xs) w:=by
 cases hl with
 | zero =>
  cases A with
  | none=>exact Src.ofNil w hk c
  | some a=>exact Src.ofSlice w hk a 0 c [] (by simp) (λ j u h=>by simp at h) (λ u h=>by simp at h)
 | rows q o N full fz n xs hq ho hn hx =>
  subst hn;refine Src.ofSlice w hk _ _ _ _ (by rw[aJ,ok.size]) ?_ ?_
  ·intro j u hj;have Ub:j<xs.length*e.w:=by rw[<- aJ];exact(List.getElem?_eq_some_iff.1 hj).1
   rw[zx xs hw Ub] at hj;have hd:j / e.w<xs.length:=Nat.div_lt_of_lt_mul (by rw[Nat.mul_comm];exact Ub);have hb:=hR.holds _ (aav X hq);rw[Addr.add_lit];have Vj:o*e.w+j=(o+j / e.w)*e.w+j % e.w:=by
    rw[Nat.add_mul,Nat.add_assoc,Nat.mul_comm (j / e.w) e.w,Nat.div_add_mod]
   rw[lG (i:=o+j / e.w) (k:=j % e.w) hb rfl rfl Vj (by omega) (Nat.mod_lt _ hw)];rw[<- hj];show some (aQ e full (o+j / e.w) (j % e.w))=_;unfold aQ;rw[hx _ hd]
  ·intro u hu;simp only[ar,List.mem_flatMap,List.mem_map] at hu;obtain⟨x,_,k,_,rfl⟩:=hu;exact ok.one x k
def SrcIn(P:Program)(e:Enc α)(F:HL)(A:Option Addr)(n:Nat)(xs:List α):Prop :=
 (xs.length=n /\ (A=none -> n=0)) /\ ∀ {tx e':TypeId} (c:Nat),P.underlying tx=some (.slice e') -> ∀X w,Rel (X++F) w -> Src P e.w tx (.slice A n c) xs.length (ar e xs) w
theorem SrcIn.mono{F F':HL}{A:Option Addr}{n:Nat}{xs:List α}(h:SrcIn P e F A n xs)(hs:∃X,F'.Perm (X++F)):SrcIn P e F' A n xs:=by
 obtain⟨X,hX⟩:=hs;refine⟨h.1,λ c hk Y w hR=>h.2 c hk (Y++X) w ?_⟩;rw[aaC];exact hR.perm (List.Perm.append_left Y hX.symm)
theorem SrcIn.up{F X:HL}{A:Option Addr}{n:Nat}{xs:List α}(h:SrcIn P e F A n xs):SrcIn P e (X++F) A n xs:=h.mono ⟨X,List.Perm.refl _⟩
theorem SrcIn.none:SrcIn P e F Option.none 0 []:=⟨⟨rfl,λ _=>rfl⟩,λ c hk X w hR=>Src.ofNil w hk c⟩
theorem RowL.src(ok:EncOk e P T inf z)(hw:0<e.w){F:HL}{A:Option Addr}{n:Nat}{xs:List α}(hl:RowL e T F A n xs):SrcIn P e F A n xs:=by
 refine⟨⟨hl.len,λ h=>?_⟩,λ c hk X w hR=>?_⟩
 ·subst h;cases hl;rfl
 ·have:=FK (c:=c) ok hw hl hk X w hR;rwa [ok.size] at this
theorem SrcIn.lit(ok:EncOk e P T inf z){F:HL}{q:Nat}{xs:List α}{rest:List Value}{ty:TypeId}{fz:Nat × Nat}(hq:(q,.lit (ar e xs++rest) ty fz)∈F):SrcIn P e F (some ⟨q,0,Option.none⟩) xs.length xs:=by
 refine⟨⟨rfl,λ h=>by cases h⟩,λ c hk X w hR=>Src.ofSlice w hk _ _ _ _ (by rw[aJ]) ?_ ?_⟩
 ·intro j u hj;have hb:=hR.holds _ (aav X hq);have hl:j<(ar e xs).length:=(List.getElem?_eq_some_iff.1 hj).1;simp only[Blk.den] at hb;rw[Addr.add_lit];simp[World.cell?,hb,abD hl,hj]
 ·intro u hu;simp only[ar,List.mem_flatMap,List.mem_map] at hu;obtain⟨x,_,k,_,rfl⟩:=hu;exact ok.one x k
def NewS(e:Enc α)(T:TypeId)(src:List α)(A A':Option Addr)(f_:Nat)(q_:HL):Prop :=
 (src=[] /\ A'=A /\ f_=0 /\ q_=[]) \/ ∃b,A'=some ⟨b,0,none⟩ /\ q_=[(b,.rows e.w f_ (aQ e src) T (0,0))] /\ src.length <= f_
theorem NewS.rowL{src:List α}{A A':Option Addr}{f_:Nat}{q_:HL}(h:NewS e T src A A' f_ q_){F:HL}(hF:∀x∈q_,x∈F):RowL e T F A' src.length src:=by
 rcases h with ⟨rfl,rfl,rfl,rfl⟩|⟨b,rfl,rfl,hc⟩
 ·exact .zero _
 ·exact RowL.whole (hF _ (List.mem_singleton.2 rfl)) hc
theorem qz(l:List α)(k:Nat):aQ e (l++List.replicate k e.dflt)=aQ e l:=by
 funext i j;unfold aQ;congr 1;rw[aaJ,aaJ]
 by_cases h:i<l.length
 ·rw[abD h]
 ·rw[abG (by omega),List.getElem?_replicate,List.getElem?_eq_none (by omega)];split <;> rfl
theorem zy(ok:EncOk e P T inf z)(ht:P.underlying t=some (.slice T)){A:Option Addr}{G:HL}{w:World}(hA:∀a,A=some a -> a.spot=none)(hR:Rel G w)(src:List α)(x:Value)
  (hs:Src P inf.size tx x src.length (ar e src) w) (hb:src.length <= 100000000) :
  ∃A' f_ q_ w',(Builtin.append_ #[t,tx] ty #[.slice A 0 0,x]).run P w=.ok (.slice A' src.length f_) w' /\ NewS e T src A A' f_ q_ /\ Rel (q_++G) w' /\ Below 0 w w':=by
 rcases Nat.eq_zero_or_pos src.length with h0|h0
 ·obtain rfl:src=[]:=abR h0;cases A with
  | none =>
   refine⟨none,0,[],w,?_,.inl ⟨rfl,rfl,rfl,rfl⟩,hR,Below.refl _ _⟩;have hc:(Builtin.firstCells inf.size 0 x).run P w=.ok #[] w:=hs.cells;rcases hs.kind with ⟨e',hk⟩|hk <;> simp[Builtin.append_,run_underlying ht,run_underlying hk,Go.sizeOf,typeInfo,ok.info,hs.len,hc]
  | some a =>
   obtain⟨b,off,spot⟩:=a;obtain rfl:spot=none:=hA _ rfl;refine⟨some ⟨b,off,none⟩,0,[],w,?_,.inl ⟨rfl,rfl,rfl,rfl⟩,hR,Below.refl _ _⟩;have:=run_append_room_src (P:=P) w t tx ty T inf ht ok.info b off 0 0 x 0 (ar e ([]:List α)) hs (aa0 _) (λ j hj=>by simp[ar] at hj) (λ j hj=>by simp[ar] at hj);exact this
 ·have XY:=ok.bytes;have SH:Builtin.nextslicecap (0+src.length) 0*inf.bytes <= 281474976710656:=by
   have h1:=gX (0+src.length) 0 (by omega);have h2:Builtin.nextslicecap (0+src.length) 0*inf.bytes <= (2*100000000+192)*1000:=Nat.mul_le_mul (by omega) XY;omega
  have hold:(Builtin.firstCells inf.size 0 (.slice A 0 0)).run P w.drew=.ok ([]:List Value).toArray w.drew:=by
   cases A with
   | none=>exact run_firstCells_none w.drew inf.size 0 0 0
   | some a =>
    obtain⟨b,off,spot⟩:=a;obtain rfl:spot=none:=hA _ rfl;exact run_firstCells_some w.drew inf.size 0 ⟨b,off,none⟩ 0 0 [] (by simp) (λ j u hj=>by simp at hj)
  have iD:=run_append_grow_src (P:=P) w t tx ty T inf z ht ok.info ok.zero A 0 0 [] hold x src.length (ar e src) hs (by omega) (by omega) SH;have To:=grownCap_ge w (0+src.length) 0 T;generalize grownCap w (0+src.length) 0 T=nc at *;rw[Nat.zero_add] at iD To;refine⟨_,nc,[(w.heap.size,.rows e.w nc (aQ e src) T (0,0))],_,iD,.inr ⟨_,rfl,rfl,To⟩,?_,?_⟩
  ·have:=(Rel.cons (.rows e.w nc (aQ e src) T (0,0)) (o:=.cells (([]++ar e src).toArray++Builtin.zeroCells z.cells (nc-src.length)) T (0,0)) ?_ (hR.world (w':=w.drew) rfl))
   ·exact this
   ·show Obj.cells _ _ _=_;congr 1;apply Array.ext';show bD _ _ _=_;have hl:nc=(src++List.replicate (nc-src.length) e.dflt).length:=by simp;omega
    have h3:=gH e (src++List.replicate (nc-src.length) e.dflt);rw[<- hl,qz] at h3;rw[h3,aP,List.nil_append,Array.toList_append,kX ok]
  ·exact⟨rfl,rfl,rfl,by simp,λ k hk=>by omega⟩
end
section
variable {r:Option Nat} {P:Program} {N:Nat} {D:List Deferred} {F:HL} {w0:World} {R:HL} {s:Cfg} {Q:Exit -> Act -> World -> Prop}
variable {α:Type} {e:Enc α} {T:TypeId} {inf:TypeInfo} {z:Value}
theorem jn(ok:EncOk e P T inf z)(src:List α)(j:Nat){A:Option Addr}{B:Option Addr}{m c':Nat}{tx:TypeId}(hA:∀a,A=some a -> a.spot=none)(hm:m=src.length)(hb:src.length <= 100000000)
  (hs:∀e',P.underlying tx=some (.slice e') -> ∀X w,Rel (X++F) w -> Src P inf.size tx (.slice B m c') src.length (ar e src) w)
  (hk:∀ (A':Option Addr) (f_:Nat) (q_:HL),NewS e T src A A' f_ q_ -> RN r P N D F w0 R (MF j q_ (dX N (.slice A' src.length f_) s)) Q)
  (h:Bz P N j (gI s) s=some (A,0,0,T,B,m,c',tx,([]:HL)):=by kernel_rfl):RN r P N D F w0 R s Q:=by
 obtain⟨o,a1,a2,t,e',q0,q1,q2,q3,q4,q5,q6,q7,q9,IS,RJ⟩:=qy h;refine⟨λ hR a w hF aT hB=>?_⟩;obtain⟨c,k,L,Bs,Ts⟩:=s;unfold gI at q0;cases c with
 | code c=>cases q0
 | ex c=>cases q0
 | drw _ _=>cases q0
 | ops ops i =>
  simp only at q0 q3 q4 q5 q9 IS RJ hF aT;have oR:ops.toList.drop i=o::ops.toList.drop (i+1):=by
   have iF:i<ops.toList.length:=(List.getElem?_eq_some_iff.1 q0).1;rw[List.drop_eq_getElem_cons iF,(List.getElem?_eq_some_iff.1 q0).2]
  show wpListIn _ _ _ _ _ _ _ _;rw[oR,wpListIn,if_pos (by simp[Region.wanted,q1])];refine⟨λ _ _=>trivial,?_⟩;have oF:=gh (A:=Bs) q9 IS;have key:dt P o a w λ u w'=>∃y:Option Addr × Nat × HL,(u=.slice y.1 src.length y.2.1 /\ NewS e T src A y.1 y.2.1 y.2.2) /\ Rel ((y.2.2++(Bs++((oth [j] Ts.length).filterMap (Ts[·]?)).flatten))++F) w' /\ Below 0 w w':=by
   simp only[ab1] at q3;have e1:=(hF.eval q3.1).trans q4;have e2:=(hF.eval q3.2).trans q5;have D_:Rel ((Bs++((oth [j] Ts.length).filterMap (Ts[·]?)).flatten)++F) w:=by
    have:=aT.perm (oF.append_right F);exact this
   obtain⟨A',f_,q_,w',r1,r2,r3,r4⟩:=zy (ty:=o.type) ok q6 hA D_ src (.slice B m c') (hs e' q7 _ w aT) hb;unfold dt;have iD:(execOp a.eval o).run P w=.ok (.value (.slice A' src.length f_)) w':=by
    simp[execOp,q2,resolve,invoke,builtin,ace,e1,e2,r1]
   rw[iD];exact⟨(A',f_,q_),⟨rfl,r2⟩,by rw[aaC];exact r3,r4⟩
  refine fc (by rw[q2];intro c hc;cases hc) key ?_;rintro u w' ⟨⟨A',f_,q_⟩,⟨rfl,Uk⟩,D_,SU⟩;obtain⟨L',p1⟩:=dg RJ (.slice A' src.length f_);have hh:=(hk A' f_ q_ Uk).h hR;have Ru:dX N (.slice A' src.length f_) ⟨.ops ops i,k,L,Bs,Ts⟩=⟨.ops ops (i+1),k,L',Bs,Ts⟩:=by
   unfold dX;simp only[q0,p1]
  rw[Ru] at hh;refine hh _ w' (hF.put p1) (D_.perm (abO F ?_)) (hB.trans SU);show (Bs++(q_::(oth [j] Ts.length).filterMap (Ts[·]?)).flatten).Perm _;rw[acb,<- aaC,<- aaC];exact abO _ abL
end
section
variable {α:Type} {e:Enc α} {P:Program} {T:TypeId} {inf:TypeInfo} {z:Value} {l:List α} {A:Option Addr} {cap:Nat} {Hl F:HL}
theorem SlIs.toRowL(h:SlIs e T l A cap Hl)(hF:∀x∈Hl,x∈F):RowL e T F A l.length l:=by
 rcases h with ⟨rfl,rfl,rfl,rfl⟩|⟨b,o,full,rfl,rfl,h1,h2,h3⟩
 ·exact .zero _
 ·refine .rows b o (o+cap) full (0,0) _ l (hF _ (List.mem_singleton.2 rfl)) (by omega) rfl (λ k hk=>?_);have h4:((full.drop o).take l.length)[k]?=l[k]?:=by rw[h3]
  rw[acm,if_pos hk,ack] at h4;rw[aaJ,aaJ,h4]
theorem SlIs.src(ok:EncOk e P T inf z)(hw:0<e.w)(h:SlIs e T l A cap Hl)(hF:∀x∈Hl,x∈F):SrcIn P e F A l.length l:=RowL.src ok hw (h.toRowL hF)
theorem SlIs.one{x:α}{b:Nat}:SlIs e T [x] (some ⟨b,0,none⟩) 1 [(b,.rows e.w 1 (aQ e [x]) T (0,0))]:=.inr ⟨b,0,[x],by simp,by simp,rfl,aa0 _,rfl⟩
end
section
variable {r:Option Nat} {P:Program} {N:Nat} {D:List Deferred} {F:HL} {w0:World} {R:HL} {s:Cfg} {Q:Exit -> Act -> World -> Prop} {hards:List Nat} {Rd:HL}
def btC(i:Nat)(s:Cfg):Cfg:=match s with
 | ⟨c,k,L,A,Ts⟩=>⟨c,k,L,(oth [i] A.length).filterMap (A[·]?),[i].filterMap (A[·]?)::Ts⟩
theorem BA{A:HL}{Ts:List HL}{i:Nat}(h:([i]++oth [i] A.length).isPerm (List.range A.length)=true):(ap ((oth [i] A.length).filterMap (A[·]?)) ([i].filterMap (A[·]?)::Ts)).Perm (ap A Ts):=by
 have hp:=fm A [i] (oth [i] A.length) h;show ((oth [i] A.length).filterMap (A[·]?)++([i].filterMap (A[·]?)::Ts).flatten).Perm (A++Ts.flatten);rw[acb,<- aaC];exact(List.perm_append_comm.trans hp).append_right _
theorem sV(i:Nat)(hk:RN r P N D F w0 R (btC i s) Q)(h:([i]++oth [i] s.A.length).isPerm (List.range s.A.length)=true:=by kernel_rfl):RN r P N D F w0 R s Q:=by
 obtain⟨c,k,L,A,Ts⟩:=s;exact⟨λ hR a w h1 h2 h3=>hk.h hR a w h1 (h2.perm ((BA h).append_right F)) h3⟩
theorem OU(i:Nat)(hk:RD r P N D F w0 R hards Rd (btC i s) Q)(h:([i]++oth [i] s.A.length).isPerm (List.range s.A.length)=true:=by kernel_rfl):RD r P N D F w0 R hards Rd s Q:=by
 obtain⟨c,k,L,A,Ts⟩:=s;refine⟨λ hR hs=>?_⟩;have h1:=hk.h hR hs;intro Of a hF;exact JJ.perm _ _ _ _ _ (BA h) (h1 Of a hF)
theorem iV(t:Nat){u v:Value}(e:u=v)(hk:RD r P N D F w0 R hards Rd (svC t v s) Q)(h:s.L.lookup t=some u:=by kernel_rfl):RD r P N D F w0 R hards Rd s Q:=by
 subst e;exact⟨λ hR hs Of a hF=>hk.h hR hs Of a (hF.fix h)⟩
variable {α:Type} {e:Enc α} {T:TypeId} {inf:TypeInfo} {z:Value}
theorem RN.appU(ok:EncOk e P T inf z)(l src:List α)(j:Nat){A:Option Addr}{n cap:Nat}{Hl:HL}{B:Option Addr}{m c':Nat}{tx:TypeId}(hn:n=l.length)(Tk:SlIs e T l A cap Hl)(hb:l.length+src.length <= 100000000)
  (hs:SrcIn P e (ap s.A s.Ts++F) B m src)
  (hk:∀ (A':Option Addr) (f_:Nat) (q_:HL),(SlIs e T (l++src) A' f_ q_ /\ (bB A -> bB A')) -> RN r P N D F w0 R (MF j q_ (dX N (.slice A' (n+src.length) f_) s)) Q)
  (h:Bz P N j (gI s) s=some (A,n,cap,T,B,m,c',tx,Hl):=by kernel_rfl):RN r P N D F w0 R s Q:=by
 obtain⟨o,a1,a2,t,e',q0,q1,q2,q3,q4,q5,q6,q7,q9,IS,RJ⟩:=qy h;refine⟨λ hR a w hF aT hB=>?_⟩;obtain⟨c,k,L,Bs,Ts⟩:=s;unfold gI at q0;cases c with
 | code c=>cases q0
 | ex c=>cases q0
 | drw _ _=>cases q0
 | ops ops i =>
  simp only at q0 q3 q4 q5 q9 IS RJ hF aT;have oR:ops.toList.drop i=o::ops.toList.drop (i+1):=by
   have iF:i<ops.toList.length:=(List.getElem?_eq_some_iff.1 q0).1;rw[List.drop_eq_getElem_cons iF,(List.getElem?_eq_some_iff.1 q0).2]
  show wpListIn _ _ _ _ _ _ _ _;rw[oR,wpListIn,if_pos (by simp[Region.wanted,q1])];refine⟨λ _ _=>trivial,?_⟩;have oF:=gh (A:=Bs) q9 IS;refine fc (by rw[q2];intro c hc;cases hc) (oq (x:=.slice B m c') (src:=src) (G:=Bs++((oth [j] Ts.length).filterMap (Ts[·]?)).flatten) ok q2 q6 q3 q4 hn q5 oF Tk (λ w hw=>by have h5:=hs.2 c' q7 [] w hw;rwa [<- ok.size] at h5) hb a hF w aT) ?_;rintro u w' ⟨⟨A',f_,q_⟩,⟨rfl,Uk⟩,D_,SU⟩;obtain⟨L',p1⟩:=dg RJ (.slice A' (n+src.length) f_);have hh:=(hk A' f_ q_ Uk).h hR;have Ru:dX N (.slice A' (n+src.length) f_) ⟨.ops ops i,k,L,Bs,Ts⟩=⟨.ops ops (i+1),k,L',Bs,Ts⟩:=by
   unfold dX;simp only[q0,p1]
  rw[Ru] at hh;refine hh _ w' (hF.put p1) (D_.perm (abO F ?_)) (hB.trans SU);show (Bs++(q_::(oth [j] Ts.length).filterMap (Ts[·]?)).flatten).Perm _;rw[acb,<- aaC,<- aaC];exact abO _ abL
end
def slA(A:Option Addr)(l sz cap:Nat):Option Addr:=if cap=l then A else A.map (·.add (l*sz))
def Qw(P:Program)(o:Oper)(L:FL):Option (Option Addr × Nat × Nat × Int × Nat):=match o.guard,o.op with
 | none,.slice t x (some lo) none none=>match gB L x && gB L lo,P.underlying t,fA L x,fA L lo with
  | true,some (.slice elem),.slice a len cap,.int .i64 l=>match P.info? elem with
   | some inf=>some (a,len,cap,l,inf.size)
   | none=>none
  | _,_,_,_=>none
 | _,_=>none
def Qf(P:Program)(N:Nat)(oo:Option Oper)(s:Cfg):Option (Option Addr × Nat × Nat × Int × Nat):=match oo with
 | some o=>match Qw P o s.L,(eh N o.dst undef s.L).isSome with
  | some x,true=>some x
  | _,_=>none
 | none=>none
section
variable {r:Option Nat} {P:Program} {N:Nat} {D:List Deferred} {F:HL} {w0:World} {R:HL} {s:Cfg} {Q:Exit -> Act -> World -> Prop}
theorem wp{o:Oper}{L:FL}{A:Option Addr}{n cap sz:Nat}{l:Int}(h:Qw P o L=some (A,n,cap,l,sz)) :
  ∃t x lo elem inf,o.guard=none /\ o.op=.slice t x (some lo) none none /\ (gB L x && gB L lo)=true /\ P.underlying t=some (.slice elem) /\ fA L x=.slice A n cap /\ fA L lo=.int .i64 l /\ P.info? elem=some inf /\ inf.size=sz:=by
 unfold Qw at h;split at h
 case h_2=>cases h
 rename_i t x lo hg H_;split at h
 case h_2=>cases h
 rename_i elem a len cp l' h1 h2 h3 h4;split at h
 case h_2=>cases h
 rename_i inf h5;simp only[Option.some.injEq,Prod.mk.injEq] at h;obtain⟨e1,e2,e3,e4,e5⟩:=h;subst e1;subst e2;subst e3;subst e4;exact⟨t,x,lo,elem,inf,hg,H_,h1,h2,h3,h4,h5,e5⟩
theorem RN.slA{A:Option Addr}{n cap l sz:Nat}{li:Int}(hl:li=(l:Int))(h1:l <= n)(h2:n <= cap)(hk:RN r P N D F w0 R (dX N (.slice (slA A l sz cap) (n-l) (cap-l)) s) Q)
  (h:Qf P N (gI s) s=some (A,n,cap,li,sz):=by kernel_rfl):RN r P N D F w0 R s Q:=by
 unfold Qf at h;split at h
 case h_2=>cases h
 rename_i o q0;split at h
 case h_2=>cases h
 rename_i y hv hp;simp only[Option.some.injEq] at h;rw[h] at hv;clear h;obtain⟨t,x,lo,elem,inf,q1,q2,q3,q4,q5,q6,q7,q8⟩:=wp hv;refine⟨λ hR aa w hF aT hB=>?_⟩;obtain⟨c,k,L,Bs,Ts⟩:=s;unfold gI at q0;cases c with
 | code c=>cases q0
 | ex c=>cases q0
 | drw _ _=>cases q0
 | ops ops pc =>
  simp only at q0 q3 q5 q6 hp hF aT;have oR:ops.toList.drop pc=o::ops.toList.drop (pc+1):=by
   have iF:pc<ops.toList.length:=(List.getElem?_eq_some_iff.1 q0).1;rw[List.drop_eq_getElem_cons iF,(List.getElem?_eq_some_iff.1 q0).2]
  show wpListIn _ _ _ _ _ _ _ _;rw[oR,wpListIn,if_pos (by simp[Region.wanted,q1])];refine⟨λ _ _=>trivial,?_⟩;have key:dt P o aa w λ u w'=>u=.slice (slA A l sz cap) (n-l) (cap-l) /\ Rel (ap Bs Ts++F) w' /\ Below 0 w w':=by
   simp only[ab1] at q3;have e1:=(hF.eval q3.1).trans q5;have e2:=(hF.eval q3.2).trans q6;have k1:=iK (P:=P) (ρ:=aa.eval) (lo:=some lo) (hi:=none) (l:=l) (h:=n) (len:=n) (cap:=cap) (by show CT _ _ _ _;unfold CT;simp only[e2];exact hl) rfl h1 h2 w;have k2:=λ W=>cZ q7 W;have k3:=λ W=>aG q4 W;unfold dt;have he:(execOp aa.eval o).run P w=.ok (.value (.slice (slA A l sz cap) (n-l) (cap-l))) w:=by
    rw[show Option.map aa.eval none=none from rfl,show Option.map aa.eval (some lo)=some (aa.eval lo) from rfl] at k1;simp[execOp,q2,Instr.sliceAt,Instr.slice,e1,k3,Go.sizeOf,k2,ace,k1,slA,q8]
   rw[he];exact⟨rfl,aT,Below.refl _ _⟩
  refine fc (by rw[q2];intro c hc;cases hc) key ?_;rintro u w' ⟨rfl,D_,SU⟩;obtain⟨L',p1⟩:=dg hp (.slice (slA A l sz cap) (n-l) (cap-l));have hh:=hk.h hR;have Ru:dX N (.slice (slA A l sz cap) (n-l) (cap-l)) ⟨.ops ops pc,k,L,Bs,Ts⟩=⟨.ops ops (pc+1),k,L',Bs,Ts⟩:=by
   unfold dX;simp only[q0,p1]
  rw[Ru] at hh;exact hh _ w' (hF.put p1) D_ (hB.trans SU)
end
section
variable {α:Type} {e:Enc α} {T:TypeId} {F:HL} {A:Option Addr} {n cap:Nat} {xs:List α} {Hl:HL}
theorem SlIs.drop(h:SlIs e T xs A cap Hl)(hF:∀x∈Hl,x∈F)(hn:xs.length=n){k:Nat}(hk:k <= n):RowL e T F (slA A k e.w cap) (n-k) (xs.drop k):=by
 subst hn;have hr:=h.toRowL hF;rcases h with ⟨rfl,rfl,rfl,rfl⟩|⟨b,o,full,rfl,rfl,h1,h2,h3⟩
 ·have:k=0:=by simpa using hk
  subst this;exact .zero _
 ·by_cases hc:cap=k
  ·have e1:xs.length-k=0:=by omega
   have e2:xs.drop k=[]:=abR (by rw[abq];omega);rw[e1,e2];exact .zero _
  ·have e1:slA (some ⟨b,o*e.w,none⟩) k e.w cap=some ⟨b,(o+k)*e.w,none⟩:=by
    unfold slA;rw[if_neg hc,Option.map_some,gF rfl];simp[sd,Nat.add_mul]
   rw[e1];refine .rows b (o+k) (o+cap) full (0,0) _ _ (hF _ (List.mem_singleton.2 rfl)) (by omega) (by simp) (λ i hi=>?_);have h4:((full.drop o).take xs.length)[k+i]?=xs[k+i]?:=by rw[h3]
   rw[acm,if_pos (by omega),ack] at h4;rw[aaJ,aaJ,ack,<- h4,Nat.add_assoc]
end
def bs(x:Option Int)(n d:Nat):Prop:=match x with
 | some z=>z=(n:Int)
 | none=>n=d
def bO(L:FL)(x:Option Operand):Option (Option Int):=match x with
 | none=>some none
 | some v=>match gB L v,fA L v with
  | true,.int .i64 z=>some (some z)
  | _,_=>none
theorem uC{L:FL}{x:Option Operand}{i:Option Int}{a:Act}(he:∀v,gB L v=true -> a.eval v=fA L v)(h:bO L x=some i):x.map a.eval=i.map vI:=by
 unfold bO at h;split at h
 ·cases h;rfl
 ·rename_i v;split at h
  ·rename_i z h1 h2;cases h;show some _=some _;rw[he v h1,h2]
  ·cases h
theorem wq{P:Program}{lo hi mx:Option Int}{l h m len cap:Nat}(o1:bs lo l 0)(o2:bs hi h len)(o3:bs mx m cap)(hx:mx.isSome=true -> hi.isSome=true)(h1:l <= h)(h2:h <= m)(h3:m <= cap)(W:World) :
  (Instr.sliceBounds true len cap (lo.map vI) (hi.map vI) (mx.map vI)).run P W=.ok (l,h,m) W:=by
 have b1:∀ (y n:Nat) (c:BoundsCode),n <= y -> (Instr.sliceBound (vI (n:Int)) y c).run P W=.ok n W:=by
  intro y n c hny;simp[Instr.sliceBound,asIntOf,hny,go_sem]
 unfold Instr.sliceBounds;cases lo <;> cases hi <;> cases mx <;> simp only[bs] at o1 o2 o3
 all_goals subst o1 o2 o3
 ·simp[ace]
 ·simp at hx
 ·simp[ace,b1,h2]
 ·simp[ace,b1,h2,h3]
 ·simp[ace,b1,h1]
 ·simp at hx
 ·simp[ace,b1,h1,h2]
 ·simp[ace,b1,h1,h2,h3]
def MG(P:Program)(o:Oper)(L:FL):Option (Option Addr × Nat × Nat × Option Int × Option Int × Option Int × Nat):=match o.guard,o.op with
 | none,.slice t x lo hi mx=>match gB L x,P.underlying t,fA L x,bO L lo,bO L hi,bO L mx with
  | true,some (.slice elem),.slice a len cap,some l,some h,some m=>match P.info? elem with
   | some inf=>if m.isSome && h.isNone then none else some (a,len,cap,l,h,m,inf.size)
   | none=>none
  | _,_,_,_,_,_=>none
 | _,_=>none
def OV(P:Program)(N:Nat)(oo:Option Oper)(s:Cfg):Option (Option Addr × Nat × Nat × Option Int × Option Int × Option Int × Nat):=match oo with
 | some o=>match MG P o s.L,(eh N o.dst undef s.L).isSome with
  | some x,true=>some x
  | _,_=>none
 | none=>none
abbrev zz(A:Option Addr)(l sz m:Nat):Option Addr:=slA A l sz m
section
variable {r:Option Nat} {P:Program} {N:Nat} {D:List Deferred} {F:HL} {w0:World} {R:HL} {s:Cfg} {Q:Exit -> Act -> World -> Prop}
theorem C7{o:Oper}{L:FL}{A:Option Addr}{n cap sz:Nat}{li hi mi:Option Int}(h:MG P o L=some (A,n,cap,li,hi,mi,sz)) :
  ∃t x lo h' mx elem inf,o.guard=none /\ o.op=.slice t x lo h' mx /\ gB L x=true /\ P.underlying t=some (.slice elem) /\ fA L x=.slice A n cap /\ bO L lo=some li /\ bO L h'=some hi /\ bO L mx=some mi /\ P.info? elem=some inf /\ inf.size=sz /\ (mi.isSome=true -> hi.isSome=true):=by
 unfold MG at h;split at h
 case h_2=>cases h
 rename_i t x lo h' mx hg H_;split at h
 case h_2=>cases h
 rename_i elem a len cp l1 l2 l3 h1 h2 h3 h4 h5 h6;split at h
 case h_2=>cases h
 rename_i inf h7;split at h
 case isTrue=>cases h
 rename_i h8;simp only[Option.some.injEq,Prod.mk.injEq] at h;obtain⟨e1,e2,e3,e4,e5,e6,e7⟩:=h;subst e1;subst e2;subst e3;subst e4;subst e5;subst e6;refine⟨t,x,lo,h',mx,elem,inf,hg,H_,h1,h2,h3,h4,h5,h6,h7,e7,λ g=>?_⟩;cases l2 with
 | some _=>rfl
 | none=>simp[g] at h8
theorem zA{A:Option Addr}{n cap l h m sz:Nat}{li hi mi:Option Int}(hl:bs li l 0)(hh:bs hi h n)(hm:bs mi m cap)(h1:l <= h)(h2:h <= m)(h3:m <= cap)(hk:RN r P N D F w0 R (dX N (.slice (zz A l sz m) (h-l) (m-l)) s) Q)
  (hc:OV P N (gI s) s=some (A,n,cap,li,hi,mi,sz):=by kernel_rfl):RN r P N D F w0 R s Q:=by
 unfold OV at hc;split at hc
 case h_2=>cases hc
 rename_i o q0;split at hc
 case h_2=>cases hc
 rename_i y hv hp;simp only[Option.some.injEq] at hc;rw[hc] at hv;clear hc;obtain⟨t,x,lo,h',mx,elem,inf,q1,q2,q3,q4,q5,q6,q6',Z9,q7,q8,q9⟩:=C7 hv;refine⟨λ hR aa w hF aT hB=>?_⟩;obtain⟨c,k,L,Bs,Ts⟩:=s;unfold gI at q0;cases c with
 | code c=>cases q0
 | ex c=>cases q0
 | drw _ _=>cases q0
 | ops ops pc =>
  simp only at q0 q3 q5 q6 q6' Z9 hp hF aT;have oR:ops.toList.drop pc=o::ops.toList.drop (pc+1):=by
   have iF:pc<ops.toList.length:=(List.getElem?_eq_some_iff.1 q0).1;rw[List.drop_eq_getElem_cons iF,(List.getElem?_eq_some_iff.1 q0).2]
  show wpListIn _ _ _ _ _ _ _ _;rw[oR,wpListIn,if_pos (by simp[Region.wanted,q1])];refine⟨λ _ _=>trivial,?_⟩;have key:dt P o aa w λ u w'=>u=.slice (zz A l sz m) (h-l) (m-l) /\ Rel (ap Bs Ts++F) w' /\ Below 0 w w':=by
   have e1:=(hF.eval q3).trans q5;have he:∀v,gB L v=true -> aa.eval v=fA L v:=λ v hv=>hF.eval hv;have k1:=wq (P:=P) hl hh hm q9 h1 h2 h3 w;rw[<- uC he q6,<- uC he q6',<- uC he Z9] at k1;have k2:=λ W=>cZ q7 W;have k3:=λ W=>aG q4 W;unfold dt;have he:(execOp aa.eval o).run P w=.ok (.value (.slice (zz A l sz m) (h-l) (m-l))) w:=by
    simp[execOp,q2,Instr.sliceAt,Instr.slice,e1,k3,Go.sizeOf,k2,ace,k1,zz,Go.Proofs.YtdppjkjbghbnjaaGreatDoor.slA,q8]
   rw[he];exact⟨rfl,aT,Below.refl _ _⟩
  refine fc (by rw[q2];intro c hc;cases hc) key ?_;rintro u w' ⟨rfl,D_,SU⟩;obtain⟨L',p1⟩:=dg hp (.slice (zz A l sz m) (h-l) (m-l));have hh:=hk.h hR;have Ru:dX N (.slice (zz A l sz m) (h-l) (m-l)) ⟨.ops ops pc,k,L,Bs,Ts⟩=⟨.ops ops (pc+1),k,L',Bs,Ts⟩:=by
   unfold dX;simp only[q0,p1]
  rw[Ru] at hh;exact hh _ w' (hF.put p1) D_ (hB.trans SU)
end
def aaj:=@RN.dn
def aao:=@RN.nt
def aar:=@RN.yield
end Go.Proofs.YtdppjkjbghbnjaaGreatDoor
