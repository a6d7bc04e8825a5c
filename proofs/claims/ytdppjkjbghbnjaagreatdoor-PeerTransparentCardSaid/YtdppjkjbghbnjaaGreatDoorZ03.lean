import Derived.Laws.IdiomCopy
import Derived.Test.YtdppjkjbghbnjaaGreatDoorZ02
set_option maxHeartbeats 4000000
set_option maxRecDepth 100000
set_option linter.all false
namespace Go.Proofs.YtdppjkjbghbnjaaGreatDoor
open Go.RowKit
section
variable {r:Option Nat} {P:Program} {N:Nat} {D:List Deferred} {F:HL} {w0:World} {R:HL} {s:Cfg} {Q:Exit -> Act -> World -> Prop} {hards:List Nat} {Rd:HL}
def O4(i:Nat)(b:Blk)(s:Cfg):Cfg:=match s with
 | ⟨c,k,L,A,Ts⟩=>⟨c,k,L,match A[i]? with|some x=>bq A i (x.1,b)|none=>A,Ts⟩
theorem oE{A:HL}{i:Nat}{x:Nat × Blk}{b:Blk}(h:A[i]?=some x)(e:x.2.den=b.den):eF A=eF (bq A i (x.1,b)):=by
 rw[nA];unfold eF;rw[List.map_set];have h1:(A.map λ x=>(x.1,x.2.den))[i]?=some (x.1,b.den):=by rw[List.getElem?_map,h];simp[e]
 have iN:i<(A.map λ x=>(x.1,x.2.den)).length:=(List.getElem?_eq_some_iff.1 h1).1;have h2:(x.1,b.den)=(A.map λ x=>(x.1,x.2.den))[i]:=((List.getElem?_eq_some_iff.1 h1).2).symm;show _=(A.map λ x=>(x.1,x.2.den)).set i (x.1,b.den);rw[h2,List.set_getElem_self]
def O5(i:Nat)(s:Cfg):Option Obj:=(s.A[i]?).map (·.2.den)
theorem RN.dn(i:Nat)(b:Blk)(hk:RN r P N D F w0 R (O4 i b s) Q)(h:O5 i s=some b.den:=by kernel_rfl):RN r P N D F w0 R s Q:=by
 refine⟨λ hR a w h1 h2 h3=>hk.h hR a w h1 ?_ h3⟩;obtain⟨c,k,L,A,Ts⟩:=s;unfold O5 at h;simp only[Option.map_eq_some_iff] at h;obtain⟨x,hx,e⟩:=h;unfold O4;simp only[hx];exact h2.denA (oE hx e)
theorem RD.dn(i:Nat)(b:Blk)(hk:RD r P N D F w0 R hards Rd (O4 i b s) Q)(h:O5 i s=some b.den:=by kernel_rfl):RD r P N D F w0 R hards Rd s Q:=by
 refine⟨λ hR hs=>?_⟩;obtain⟨c,k,L,A,Ts⟩:=s;unfold O5 at h;simp only[Option.map_eq_some_iff] at h;obtain⟨x,hx,e⟩:=h;have h1:=hk.h hR hs;unfold O4 at h1;simp only[hx] at h1;exact TD.den _ (oE hx e) h1
def ptC(jp:List Nat)(s:Cfg):Cfg:=match s with
 | ⟨c,k,L,A,Ts⟩=>⟨c,k,L,A,jp.filterMap (Ts[·]?)⟩
theorem tf(jp:List Nat)(hk:RN r P N D F w0 R (ptC jp s) Q)(h:jp.isPerm (List.range s.Ts.length)=true:=by kernel_rfl):RN r P N D F w0 R s Q :=
 ⟨λ hR a w h1 h2 h3=>hk.h hR a w h1 (h2.perm ((FP jp h rfl).append_right F)) h3⟩
def otC(j:Nat)(x:Nat × Blk)(s:Cfg):Cfg:=match s with
 | ⟨c,k,L,A,Ts⟩=>⟨c,k,L,x::A,(oth [j] Ts.length).filterMap (Ts[·]?)⟩
theorem wK(j:Nat){x:Nat × Blk}(hk:RN r P N D F w0 R (otC j x s) Q)(h:(s.Ts[j]?,([j]++oth [j] s.Ts.length).isPerm (List.range s.Ts.length))=(some [x],true):=by kernel_rfl):RN r P N D F w0 R s Q:=by
 simp only[Prod.mk.injEq] at h;exact⟨λ hR a w h1 h2 h3=>hk.h hR a w h1 (h2.perm ((zE _ j h.2 h.1 rfl).append_right F)) h3⟩
def QN(j:Nat)(B:HL)(Bs:List HL)(s:Cfg):Cfg:=match s with
 | ⟨c,k,L,A,Ts⟩=>⟨c,k,L,B++A,Bs++(oth [j] Ts.length).filterMap (Ts[·]?)⟩
theorem MY(j:Nat)(B:HL)(Bs:List HL){T:HL}(e:T=ap B Bs)(hk:RN r P N D F w0 R (QN j B Bs s) Q)(h:(s.Ts[j]?,([j]++oth [j] s.Ts.length).isPerm (List.range s.Ts.length))=(some T,true):=by kernel_rfl):RN r P N D F w0 R s Q:=by
 simp only[Prod.mk.injEq] at h;refine⟨λ hR a w h1 h2 h3=>hk.h hR a w h1 (h2.perm (aaS F ?_)) h3⟩;have h3:=(fl s.Ts [j] _ h.2).flatten;simp only[List.filterMap_cons,h.1,List.filterMap_nil,List.cons_append,List.nil_append,aaX] at h3;show ((B++s.A)++(Bs++(oth [j] s.Ts.length).filterMap (s.Ts[·]?)).flatten).Perm (s.A++s.Ts.flatten);refine List.Perm.trans ?_ (List.Perm.append_left _ h3);subst e;rw[List.flatten_append];show ((B++s.A)++(Bs.flatten++_)).Perm (s.A++((B++Bs.flatten)++_));rw[aaD,aaD];refine List.perm_append_comm_assoc _ _ _ |>.trans ?_;exact List.Perm.refl _
def jtC(s:Cfg):Cfg:=match s with
 | ⟨c,k,L,A,T1::T2::Ts⟩=>⟨c,k,L,A,(T1++T2)::Ts⟩
 | s=>s
theorem wL(hk:RN r P N D F w0 R (jtC s) Q):RN r P N D F w0 R s Q:=by
 refine⟨λ hR a w h1 h2 h3=>?_⟩;have h4:=hk.h hR a w;unfold jtC at h4;split at h4
 ·exact h4 h1 (by simpa [ap] using h2) h3
 ·exact h4 h1 h2 h3
def ntC(s:Cfg):Cfg:=match s with
 | ⟨c,k,L,A,Ts⟩=>⟨c,k,L,A,[]::Ts⟩
theorem RN.nt(hk:RN r P N D F w0 R (ntC s) Q):RN r P N D F w0 R s Q:=⟨λ hR a w h1 h2 h3=>hk.h hR a w h1 h2 h3⟩
theorem RD.nt(hk:RD r P N D F w0 R hards Rd (ntC s) Q):RD r P N D F w0 R hards Rd s Q:=by
 obtain⟨c,k,L,A,Ts⟩:=s;exact⟨λ hR hs=>hk.h hR hs⟩
def svC(t:Nat)(v:Value)(s:Cfg):Cfg:=match s with
 | ⟨c,k,L,A,Ts⟩=>⟨c,k,(t,v)::L,A,Ts⟩
theorem aK(t:Nat){u v:Value}(e:u=v)(hk:RN r P N D F w0 R (svC t v s) Q)(h:s.L.lookup t=some u:=by kernel_rfl):RN r P N D F w0 R s Q:=by
 subst e;exact⟨λ hR a w h1 h2 h3=>hk.h hR a w (h1.fix h) h2 h3⟩
def bvC(i:Nat)(b:Blk)(s:Cfg):Cfg:=match s with
 | ⟨c,k,L,A,Ts⟩=>⟨c,k,L,match A[i]? with|some x=>bq A i (x.1,b)|none=>A,Ts⟩
theorem RN.bv(i:Nat){b b':Blk}(e:b=b')(hk:RN r P N D F w0 R (bvC i b' s) Q)(h:(s.A[i]?).map (·.2)=some b:=by kernel_rfl):RN r P N D F w0 R s Q:=by
 subst e;refine⟨λ hR a w h1 h2 h3=>hk.h hR a w h1 ?_ h3⟩;obtain⟨c,k,L,A,Ts⟩:=s;simp only[Option.map_eq_some_iff] at h;obtain⟨x,hx,e⟩:=h;unfold bvC;simp only[hx];refine h2.denA (oE hx (by rw[e]))
variable {α:Type} {e:Enc α} {T:TypeId} {inf:TypeInfo} {z:Value}
def Kg(P:Program)(o:Oper)(L:FL):Option (Option Addr × Nat × Nat × TypeId × Option Addr × Nat × Nat × TypeId):=match o.guard,o.op with
 | none,.call c=>match c.callee,c.args.toList,c.argTypes.toList with
  | .builtin .append,[a1,a2],[t,tx]=>match gB L a1 && gB L a2,fy L a1,fy L a2 with
   | true,.slice A n cap,.slice B m c'=>match P.underlying t,P.underlying tx with
    | some (.slice T),some (.slice _)=>some (A,n,cap,T,B,m,c',tx)
    | _,_=>none
   | _,_,_=>none
  | _,_,_=>none
 | _,_=>none
theorem tg{o:Oper}{L:FL}{A:Option Addr}{n cap:Nat}{B:Option Addr}{m c':Nat}{tx:TypeId}(h:Kg P o L=some (A,n,cap,T,B,m,c',tx)) :
  ∃a1 a2 t e',o.guard=none /\ o.op=.call { callee:=.builtin .append,args:=#[a1,a2],argTypes:=#[t,tx] } /\ (gB L a1 && gB L a2)=true /\ fy L a1=.slice A n cap /\ fy L a2=.slice B m c' /\ P.underlying t=some (.slice T) /\ P.underlying tx=some (.slice e'):=by
 unfold Kg at h;split at h
 case h_2=>cases h
 rename_i c hg D_;split at h
 case h_2=>cases h
 rename_i a1 a2 t tx' h1 h2 h3;split at h
 case h_2=>cases h
 rename_i A' n' g_ B' m' c2 h4 h5 h6;split at h
 case h_2=>cases h
 rename_i T' e' h7 h8;simp only[Option.some.injEq,Prod.mk.injEq] at h;obtain⟨e1,e2,e3,e4,e5,e6,e7,e8⟩:=h;subst e1;subst e2;subst e3;subst e4;subst e5;subst e6;subst e7;subst e8;refine⟨a1,a2,t,e',hg,?_,h4,h5,h6,h7,h8⟩;obtain⟨cal,args,ats⟩:=c;simp only at h1 h2 h3;subst h1;have:args=#[a1,a2]:=by cases args;simp_all
 subst this;have:ats=#[t,tx']:=by cases ats;simp_all
 subst this;exact D_
def gI(s:Cfg):Option Oper:=match s.c with
 | .ops ops i=>ops.toList[i]?
 | _=>none
def ld(i:Nat)(s:Cfg):Option Oper:=match s.c with
 | .drw ops _=>ops.toList[i]?
 | _=>none
def MZ(p:Nat)(s:Cfg):Option (Nat × List Value):=match s.A[p]? with
 | some (b,.lit cs _ _)=>some (b,cs)
 | _=>none
def Dj(P:Program)(N j p:Nat)(oo:Option Oper)(s:Cfg):Option (Option Addr × Nat × Nat × TypeId × Nat × List Value × HL × Nat):=match oo with
 | some o=>match Kg P o s.L,MZ p s,s.Ts[j]?,([j]++oth [j] s.Ts.length).isPerm (List.range s.Ts.length) && (ee N o.dst undef s.L).isSome with
  | some (A,n,cap,T,some ⟨b,0,none⟩,m,_,_),some (_,cs),some Hl,true=>some (A,n,cap,T,m,cs,Hl,b)
  | _,_,_,_=>none
 | none=>none
def Dk(p:Nat)(s:Cfg):Nat:=match MZ p s with
 | some (b,_)=>b
 | none=>0
theorem lO{j p:Nat}{oo:Option Oper}{A:Option Addr}{n cap m:Nat}{cs:List Value}{Hl:HL}(h:Dj P N j p oo s=some (A,n,cap,T,m,cs,Hl,Dk p s)) :
  ∃o a1 a2 t tx e' c' b ty fz,oo=some o /\ o.guard=none /\ o.op=.call { callee:=.builtin .append,args:=#[a1,a2],argTypes:=#[t,tx] } /\ (gB s.L a1 && gB s.L a2)=true /\ fy s.L a1=.slice A n cap /\ fy s.L a2=.slice (some ⟨b,0,none⟩) m c' /\ P.underlying t=some (.slice T) /\ P.underlying tx=some (.slice e') /\
   s.A[p]?=some (b,.lit cs ty fz) /\ s.Ts[j]?=some Hl /\ ([j]++oth [j] s.Ts.length).isPerm (List.range s.Ts.length)=true /\ (ee N o.dst undef s.L).isSome=true:=by
 unfold Dj at h;split at h
 case h_2=>cases h
 rename_i o;split at h
 case h_2=>cases h
 rename_i A' n' g_ T' b m' c' tx b' cs' q_ h1 h2 h3 h4;simp only[Option.some.injEq,Prod.mk.injEq] at h;obtain⟨e1,e2,e3,e4,e5,e6,e7,e8⟩:=h;subst e1;subst e2;subst e3;subst e4;subst e5;subst e6;subst e7;obtain⟨a1,a2,t,e',q1,q2,q3,q4,q5,q6,q7⟩:=tg h1;rw[aaV] at h4;unfold Dk at e8;rw[h2] at e8;simp only at e8;subst e8;unfold MZ at h2;split at h2
 case h_2=>cases h2
 rename_i b2 cs2 ty fz h5;simp only[Option.some.injEq,Prod.mk.injEq] at h2;obtain⟨e1,e2⟩:=h2;subst e1;subst e2;exact⟨o,a1,a2,t,tx,e',c',_,ty,fz,rfl,q1,q2,q3,q4,q5,q6,q7,h5,h3,h4.1,h4.2⟩
def M3(j:Nat)(Hl:HL)(s:Cfg):Cfg:=match s with
 | ⟨c,k,L,A,Ts⟩=>⟨c,k,L,A,Hl::(oth [j] Ts.length).filterMap (Ts[·]?)⟩
theorem gi{A:HL}{Ts:List HL}{Hl:HL}{j:Nat}(hj:Ts[j]?=some Hl)(hp:([j]++oth [j] Ts.length).isPerm (List.range Ts.length)=true):(Hl++(A++((oth [j] Ts.length).filterMap (Ts[·]?)).flatten)).Perm (ap A Ts):=by
 have h3:=fl Ts [j] _ hp;simp only[List.filterMap_cons,hj,List.filterMap_nil] at h3;have h4:=h3.flatten;simp only[List.cons_append,List.nil_append,aaX] at h4;refine List.Perm.trans ?_ (List.Perm.append_left A h4);rw[<- aaD,<- aaD];exact aaS _ aaR
theorem iW(ok:EncOk e P T inf z)(l src:List α)(j p:Nat){A:Option Addr}{n cap:Nat}{Hl:HL}(hn:n=l.length)(Ud:SlIs e T l A cap Hl)(hb:l.length+src.length <= 100000000)
  (hk:∀ (A':Option Addr) (g_:Nat) (q_:HL),(SlIs e T (l++src) A' g_ q_ /\ (bA A -> bA A')) -> RN r P N D F w0 R (M3 j q_ (dW N (.slice A' (n+src.length) g_) s)) Q)
  (h:Dj P N j p (gI s) s=some (A,n,cap,T,src.length,ar e src,Hl,Dk p s):=by kernel_rfl):RN r P N D F w0 R s Q:=by
 obtain⟨o,a1,a2,t,tx,e',c',b,ty,fz,q0,q1,q2,q3,q4,q5,q6,q7,q8,q9,IF,R8⟩:=lO h;refine⟨λ hR a w hF f_ hB=>?_⟩;obtain⟨c,k,L,B,Ts⟩:=s;unfold gI at q0;cases c with
 | code c=>cases q0
 | ex c=>cases q0
 | drw _ _=>cases q0
 | ops ops i =>
  simp only at q0 q3 q4 q5 q8 q9 IF R8 hF f_;have oR:ops.toList.drop i=o::ops.toList.drop (i+1):=by
   have iN:i<ops.toList.length:=(List.getElem?_eq_some_iff.1 q0).1;rw[List.drop_eq_getElem_cons iN,(List.getElem?_eq_some_iff.1 q0).2]
  show wpListIn _ _ _ _ _ _ _ _;rw[oR,wpListIn,if_pos (by simp[Region.wanted,q1])];refine⟨λ _ _=>trivial,?_⟩;have oF:=gi (A:=B) q9 IF;refine eZ (by rw[q2];intro c hc;cases hc) (oC (x:=vS b 0 src.length c') (src:=src) (G:=B++((oth [j] Ts.length).filterMap (Ts[·]?)).flatten) ok q2 q6 q3 q4 hn q5 oF Ud (λ w hw=>qh ok q7 p (by rw[aaP (List.getElem?_eq_some_iff.1 q8).1];exact q8) hw) hb a hF w f_) ?_;rintro u w' ⟨⟨A',g_,q_⟩,⟨rfl,US⟩,C_,TF⟩;obtain⟨L',p1⟩:=db R8 (.slice A' (n+src.length) g_);have hh:=(hk A' g_ q_ US).h hR;have RU:dW N (.slice A' (n+src.length) g_) ⟨.ops ops i,k,L,B,Ts⟩=⟨.ops ops (i+1),k,L',B,Ts⟩:=by
   unfold dW;simp only[q0,p1]
  rw[RU] at hh;refine hh _ w' (hF.put p1) (C_.perm (aaS F ?_)) (hB.trans TF);show (B++(q_::(oth [j] Ts.length).filterMap (Ts[·]?)).flatten).Perm _;rw[aaX,<- aaD,<- aaD];exact aaS _ aaR
theorem uP{i:Nat}(ix:List Nat)(ok:EncOk e P T inf z)(l src:List α)(j p:Nat){A:Option Addr}{n cap:Nat}{Hl:HL}(hn:n=l.length)(Ud:SlIs e T l A cap Hl)(hb:l.length+src.length <= 100000000)
  (hk:∀ (A':Option Addr) (g_:Nat) (q_:HL),(SlIs e T (l++src) A' g_ q_ /\ (bA A -> bA A')) -> RD r P N D F w0 R hards Rd (M3 j q_ (wt N i (.slice A' (n+src.length) g_) s)) Q)
  (h:Dj P N j p (ld i s) s=some (A,n,cap,T,src.length,ar e src,Hl,Dk p s):=by kernel_rfl) (hx:(hards.contains i,zJ ix s)=(true,Rd):=by kernel_rfl):RDO r P N D F w0 R hards Rd i s Q:=by
 obtain⟨o,a1,a2,t,tx,e',c',b,ty,fz,q0,q1,q2,q3,q4,q5,q6,q7,q8,q9,IF,R8⟩:=lO h;obtain⟨c,k,L,B,Ts⟩:=s;unfold ld at q0;simp only[Prod.mk.injEq] at hx;cases c with
 | code c=>cases q0
 | ex c=>cases q0
 | ops _ _=>cases q0
 | drw ops li =>
  refine⟨λ hR=>?_⟩;simp only at q0 q3 q4 q5 q8 q9 IF R8;have oF:=gi (A:=B) q9 IF;have RU:∀v L',ee N o.dst v L=some L' -> wt N i v ⟨.drw ops li,k,L,B,Ts⟩=⟨.drw ops (bq li i true),k,L',B,Ts⟩:=by
   intro v L' hl;unfold wt;simp only[q0,hl]
  refine(k9 (Q:=Q) (by simpa using q0) (σ:=Option Addr × Nat × HL) (λ u y=>u=.slice y.1 (n+src.length) y.2.1 /\ (SlIs e T (l++src) y.1 y.2.1 y.2.2 /\ (bA A -> bA y.1))) (λ y=>ap B (y.2.2::(oth [j] Ts.length).filterMap (Ts[·]?))) R8 (λ a hF=>⟨by simp[Region.wanted,q1],λ w f_ hB=>?_⟩) (λ y=>⟨λ hi=>?_,λ hi x hm=>aax _ (s9 ix hx.2 x hm)⟩) ?_:RDO r P N D F w0 R hards Rd i ⟨.drw ops li,k,L,B,Ts⟩ Q).h hR
  ·refine eY (oC (x:=vS b 0 src.length c') (src:=src) (G:=B++((oth [j] Ts.length).filterMap (Ts[·]?)).flatten) ok q2 q6 q3 q4 hn q5 oF Ud (λ w hw=>qh ok q7 p (by rw[aaP (List.getElem?_eq_some_iff.1 q8).1];exact q8) hw) hb a hF w f_) ?_;rintro u w' ⟨y,h3,C_,TF⟩;refine⟨y,h3,C_.perm (aaS F ?_),TF⟩;show (B++(y.2.2::(oth [j] Ts.length).filterMap (Ts[·]?)).flatten).Perm _;rw[aaX,<- aaD,<- aaD];exact aaS _ aaR
  ·exact absurd (List.contains_iff_mem.1 hx.1) hi
  ·rintro u ⟨A',g_,q_⟩ ⟨rfl,h3⟩ L' hl hs;have h1:=(hk A' g_ q_ h3).h hR;rw[RU _ L' hl] at h1;exact h1 hs
end
open Go.Shelf
section
variable {r:Option Nat} {P:Program} {N:Nat} {D:List Deferred} {F:HL} {w0:World} {R:HL} {s:Cfg} {Q:Exit -> Act -> World -> Prop}
def FY(P:Program)(n0 N:Nat)(R:HL)(s:Cfg):Option (Option Tmp × Nat × Array Value × List Prop):=match s.c with
 | .ops ops i=>zF P n0 N ops.toList i s.L (ap s.A s.Ts) R []
 | _=>none
def FZ(N j:Nat)(s:Cfg)(x:Option (Option Tmp × Nat × Array Value × List Prop)):Option (Nat × Array Value × List Prop × HL):=match x with
 | some (dst,l,args,Ob)=>match s.Ts[j]?,([j]++oth [j] s.Ts.length).isPerm (List.range s.Ts.length) && (ee N dst undef s.L).isSome with
  | some T,true=>some (l,args,Ob,T)
  | _,_=>none
 | none=>none
theorem RN.yield(j:Nat){l:Nat}{args:Array Value}{T:HL}{Rv:Bool -> HL -> Prop}(hc:YL P l args T (ap s.A (fR [j] s)++F) Rv)(hk:∀b H',Rv b H' -> RN r P N D F w0 R (M3 j H' (dW N (.bool b) s)) Q)
  (h:∀n0,FZ N j s (FY P n0 N R s)=some (l,args,[],T):=by intro n0;kernel_rfl):RN r P N D F w0 R s Q:=by
 refine⟨λ hR a w hF f_ hB=>?_⟩;have h':=h w.heap.size;obtain⟨cc,k,L,A,Ts⟩:=s;cases cc with
 | code c=>simp[FY,FZ] at h'
 | ex c=>simp[FY,FZ] at h'
 | drw _ _=>simp[FY,FZ] at h'
 | ops ops i =>
 simp only[FY] at h' hF f_;generalize hx:zF P w.heap.size N ops.toList i L (ap A Ts) R []=x at h';unfold FZ at h';split at h'
 case h_2=>cases h'
 rename_i dst l' j_ Ob';split at h'
 case h_2=>cases h'
 rename_i T' hj hpp;simp only[Option.some.injEq,Prod.mk.injEq] at h';obtain⟨e1,e2,e3,e4⟩:=h';subst e1;subst e2;subst e3;subst e4;simp only at hj hpp;rw[aaV] at hpp;have h':=hx;unfold zF at h';split at h'
 ·cases h'
 rename_i o ho;split at h'
 case h_2=>cases h'
 rename_i ss hw;split at h'
 case h_2=>cases h'
 rename_i iD hh he;split at h'
 case h_2=>cases h'
 rename_i c D_;split at h'
 case h_2=>cases h'
 rename_i f Sm;split at h'
 case h_2=>cases h'
 rename_i l2 cap bound hf;split at h'
 case h_2=>cases h'
 rename_i e1 e2;simp only[Option.some.injEq,Prod.mk.injEq] at h';obtain⟨d1,d2,d3,d4⟩:=h';subst d2;have hcap:cap=#[]:=by cases cap;simp_all
 have agJ:bound=#[]:=by cases bound;simp_all
 subst hcap;subst agJ;have oR:ops.toList.drop i=o::ops.toList.drop (i+1):=by
  have iN:i<ops.toList.length:=(List.getElem?_eq_some_iff.1 ho).1;rw[List.drop_eq_getElem_cons iN,(List.getElem?_eq_some_iff.1 ho).2]
 show wpListIn _ _ _ _ _ _ _ _;rw[oR,wpListIn];have Sj:∀p∈ss.ob,p:=by rw[d4];intro p hp;cases hp
 obtain⟨c1,c2,c3⟩:=cy hw hF Sj;rw[if_pos c1];refine⟨λ _ _=>trivial,?_⟩;rw[hF.sem iD];have oF:=gi (A:=A) hj hpp.1;have C_:Rel (T'++(ap A ((oth [j] Ts.length).filterMap (Ts[·]?))++F)) w:=by rw[<- aaD];exact f_.perm (oF.symm.append_right F).symm
 obtain⟨fn,tmps,assign,body,hy,Zl⟩:=hc w C_;rw[zG D_ Sm hf,d3,hy,Oper.uponIn_round];refine⟨λ h=>(by cases h),RoundIn.mono (show RoundIn (Wr r) (0-1) P l2 fn tmps assign body w _ from Zl) ?_⟩;rintro e W' ⟨b,H',rfl,hv,S_,U7⟩;obtain⟨L',p1⟩:=db hpp.2 (.bool b);have hh:=(hk b H' hv).h hR;have RU:dW N (.bool b) ⟨.ops ops i,k,L,A,Ts⟩=⟨.ops ops (i+1),k,L',A,Ts⟩:=by
  unfold dW;rw[<- d1] at p1;simp only[ho,p1]
 rw[RU] at hh;rw[<- d1] at p1;refine hh _ W' (hF.put p1) (S_.perm ?_) (hB.trans U7);rw[<- aaD];refine aaS F ?_;show (A++(H'::(oth [j] Ts.length).filterMap (Ts[·]?)).flatten).Perm (H'++(A++((oth [j] Ts.length).filterMap (Ts[·]?)).flatten));rw[aaX,<- aaD,<- aaD];exact aaS _ aaR
theorem RN.rn{σ:Type}{Ax:σ -> HL}{Tx:σ -> List HL}{I:σ -> Prop}{Ix:Code -> σ -> Prop}(x:σ)(ip jp:List Nat)(hi:I x)(hc:(match s.c,s.k with | .ex .normal,[]=>true|_,_=>false)=true:=by kernel_rfl)
  (hp:b8 ip jp s=true:=by kernel_rfl) (hH:picks ip jp s=(Ax x,Tx x):=by kernel_rfl):RN r P N D F w0 R s (RQ F w0 (λ x=>ap (Ax x) (Tx x)) I Ix):=by
 unfold b8 at hp;unfold picks at hH;rw[aaV] at hp;simp only[Prod.mk.injEq] at hH;refine⟨λ hR a w h1 h2 h3=>?_⟩;obtain⟨c,k,L,A,Ts⟩:=s;split at hc
 case h_2=>cases hc
 rename_i e1 e2;simp only at e1 e2;subst e1;subst e2;exact⟨x,hi,h2.takeT ip _ jp _ hp.1 hp.2 (by rw[hH.1,hH.2]),h3⟩
theorem RN.rr{σ:Type}{Ax:σ -> HL}{Tx:σ -> List HL}{I:σ -> Prop}{Ix:Code -> σ -> Prop}(x:σ)(ip jp:List Nat)(hi:Ix .ret x)(hc:(match s.c with | .code .ret=>true|_=>false)=true:=by kernel_rfl)
  (hp:b8 ip jp s=true:=by kernel_rfl) (hH:picks ip jp s=(Ax x,Tx x):=by kernel_rfl):RN r P N D F w0 R s (RQ F w0 (λ x=>ap (Ax x) (Tx x)) I Ix):=by
 unfold b8 at hp;unfold picks at hH;rw[aaV] at hp;simp only[Prod.mk.injEq] at hH;refine⟨λ hR a w h1 h2 h3=>?_⟩;obtain⟨c,k,L,A,Ts⟩:=s;split at hc
 case h_2=>cases hc
 rename_i e1;simp only at e1;subst e1;exact wpIn_ret (iV k ⟨x,hi,h2.takeT ip _ jp _ hp.1 hp.2 (by rw[hH.1,hH.2]),h3⟩)
end
section
variable {P:Program} {N:Nat} {D:List Deferred} {F:HL} {w0:World} {R:HL} {s:Cfg} {Q:Exit -> Act -> World -> Prop}
def ml(s:Cfg):Option (Value × Nat):=match s.c with
 | .code (.rangeFunc g ps _ _)=>match gB s.L g with
  | true=>some (fy s.L g,ps.size)
  | false=>none
 | _=>none
def Kh(N:Nat)(s:Cfg):Bool:=match s.c with
 | .code (.rangeFunc _ ps _ _)=>ps.toList.all λ p=>decide (p<N)
 | _=>false
def O6(K:Act -> World -> Prop)(vs:List Value)(A:HL)(Ts:List HL)(s:Cfg):Cfg:=match s with
 | ⟨.code (.rangeFunc _ ps assign _),_,L,_,_⟩=>⟨.code assign,[.met K],pS ps.toList vs L,A,Ts⟩
 | s=>s
def O7(V:Inv)(s:Cfg):Cfg:=match s with
 | ⟨.code (.rangeFunc _ _ _ body),_,_,_,_⟩=>⟨.code body,[],V.L,V.A,V.Ts⟩
 | s=>s
def O8(c:Fo)(d:Nat)(ip jp:List Nat)(A:HL)(Ts:List HL)(s:Cfg):Cfg:=match s with
 | ⟨_,k,L,A',UK⟩=>⟨c,k,L,cF d::(A++(oth ip A'.length).filterMap (A'[·]?)),Ts++(oth jp UK.length).filterMap (UK[·]?)⟩
theorem RN.range{α σ τ:Type}{encs:α -> Array Value}{xs:List α}{gf:FuncId}{lb:Array Value}(eg:∀args w,(callFunc gf args).run P w=.ok (.enter gf args) w)
  (S:σ -> HL × List HL) (I:Nat -> σ -> Prop) (Ix:Code -> σ -> Prop) (W:τ -> Inv) (Ia:Nat -> α -> τ -> Prop) (x0:σ) (h0:I 0 x0) (ip jp:List Nat)
  (hit:It P gf lb (ap (fc ip s) (fR jp s)++F) encs xs)
  (w_:∀ (l i:Nat) (x:α) (s1:σ) (Y:HL) (w1:World),xs[i]?=some x -> I i s1 ->
   (∀ {s':Cfg} {R':HL} (t:τ) (Xf Xe:List Nat),Ia i x t -> (hm:De s'=some (MV N [] (Y++(ap (fc ip s) (fR jp s)++F)) w1 W (Ia i x)):=by kernel_rfl) -> (h:uO (W t) Xf Xe s'=nH (W t):=by kernel_rfl) -> (hp:b8 Xf Xe s'=true:=by kernel_rfl) -> RN (some l) P N [] (Y++(ap (fc ip s) (fR jp s)++F)) w1 R' s' (λ _ _ _=>False)) ->
   RN (some l) P N [] (Y++(ap (fc ip s) (fR jp s)++F)) w1 (fc ip s++R) (O6 (MV N [] (Y++(ap (fc ip s) (fR jp s)++F)) w1 W (Ia i x)) (encs x).toList (S s1).1 (S s1).2 s) (λ _ _ _=>False))
  (RW:∀ (l i:Nat) (x:α) (t:τ) (Y:HL) (w1:World),xs[i]?=some x -> Ia i x t -> RN (some l) P N [] (Y++(ap (fc ip s) (fR jp s)++F)) w1 (fc ip s++R) (O7 (W t) s) (RQ (Y++(ap (fc ip s) (fR jp s)++F)) w1 (λ s=>ap (S s).1 (S s).2) (I (i+1)) Ix))
  (RV:∀ (d:Nat) (s1:σ),I xs.length s1 -> RN none P N (coll d::D) F w0 R (O8 (.ex .normal) d ip jp (S s1).1 (S s1).2 s) Q)
  (RP:∀ (d:Nat) (c:Code) (s1:σ),Ix c s1 -> RN none P N (coll d::D) F w0 R (O8 (.code c) d ip jp (S s1).1 (S s1).2 s) Q)
  (UC:Kh N s=true:=by kernel_rfl) (hp:b8 ip jp s=true:=by kernel_rfl) (hH:picks ip jp s=((S x0).1,(S x0).2):=by kernel_rfl) (hG:(ml s).map (·.1)=some (.func (.func gf) #[] lb):=by kernel_rfl) (z_:∀x:α,(ml s).map (·.2)=some (encs x).size:=by intro x;kernel_rfl):RN none P N D F w0 R s Q:=by
 refine⟨λ hR=>?_⟩;obtain⟨c,k,L,A,Ts⟩:=s;unfold b8 at hp;unfold picks at hH;rw[aaV] at hp;simp only[Prod.mk.injEq] at hH;cases c with
 | ops _ _=>simp[ml] at hG
 | ex _=>simp[ml] at hG
 | drw _ _=>simp[ml] at hG
 | code c =>
 cases c with
 | rangeFunc g ps assign body =>
  have hi:gB L g=true:=by
   cases h:gB L g with
   | true=>rfl
   | false=>simp[ml,h] at hG
  simp only[ml,hi,Option.map_some,Option.some.injEq] at hG z_;simp only[Kh] at UC;have XQ:∀ (Y:HL),∀y∈fc ip ⟨.code (.rangeFunc g ps assign body),k,L,A,Ts⟩++R,y∈Y++(ap (fc ip ⟨.code (.rangeFunc g ps assign body),k,L,A,Ts⟩) (fR jp ⟨.code (.rangeFunc g ps assign body),k,L,A,Ts⟩)++F):=by
   intro Y y hy;rcases List.mem_append.1 hy with hy|hy
   ·exact aav _ (aax _ (aax _ hy))
   ·exact aav _ (aav _ (hR y hy))
  exact Dc (assign:=assign) (body:=body) hi hG eg (λ s=>(S s).1) (λ s=>(S s).2) I Ix (λ t=>(W t).L) (λ t=>ap (W t).A (W t).Ts) Ia (λ x=>(z_ x).symm) UC x0 h0 ip (oth ip A.length) jp (oth jp Ts.length) hp.1 hp.2 _ _ rfl rfl hH.1 hH.2 hit
   (λ l i x s1 Y w1 hx hi=>(w_ l i x s1 Y w1 hx hi (λ t Xf Xe ht hm h hp=>qk t Xf Xe ht hm h hp)).h (XQ Y))
   (λ l i x t Y w1 hx ht=>(RW l i x t Y w1 hx ht).h (XQ Y))
   (λ d s1 hs=>(RV d s1 hs).h hR) (λ d c s1 hs=>(RP d c s1 hs).h hR)
 | _=>simp[ml] at hG
theorem Sp.runM{f:FuncId}{fn:Func}{c:Code}{args:Array Value}{H:HL}{R':Value -> HL -> Prop}(hf:P.funcs[f]?=some fn)(hb:fn.body=some c)(hR:∀y∈R,y∈F){A:HL}{Ts:List HL}(hH:H=ap A Ts)
  (h:∀w0,RN none P fn.ntmps [] F w0 R ⟨.code c,[],qC 0 args.toList,A,Ts⟩ (bodyPostM (Wr none) 0 P fn (BI F w0 R'))) (ha:decide (args.size <= fn.ntmps)=true:=by kernel_rfl):Sp P f args H F R':=by
 subst hH;exact wH hf hb rfl ha _ rfl λ w0=>(h w0).h hR
def kK(dx:List Nat)(s:Cfg):Cfg:=match s with
 | ⟨c,k,L,A,Ts⟩=>⟨c,k,L,(oth dx A.length).filterMap (A[·]?),Ts⟩
theorem F1{fn:Func}{R':Value -> HL -> Prop}(ds dx:List Nat)(hints:List Hint)(Ob:List Prop)(iS:AllP Ob)(ip jp:List Nat){v:Value}{H':HL}(hv:R' v H')
  (hD:D=ds.map coll:=by rfl) (hc:mS s=true:=by kernel_rfl) (hd:((dx++oth dx s.A.length).isPerm (List.range s.A.length),dx.filterMap (s.A[·]?))=(true,ds.map cF):=by kernel_rfl)
  (h:∀n0,jN P n0 fn.results.toList R hints (kK dx s)=some (v,nG (jN P 0 fn.results.toList R hints (kK dx s)),nG (jN P 0 fn.results.toList R hints (kK dx s)),Ob):=by intro n0;kernel_rfl)
  (hp:b8 ip jp (kK dx s)=true:=by kernel_rfl) (hH:ap (picks ip jp (kK dx s)).1 (picks ip jp (kK dx s)).2=H':=by kernel_rfl):RN none P N D F w0 R s (bodyPostM (Wr none) 0 P fn (BI F w0 R')):=by
 unfold b8 at hp;unfold picks at hH;simp only[Prod.mk.injEq] at hd;rw[aaV] at hp;obtain⟨c,k,L,A,Ts⟩:=s;refine⟨λ hR a w hF f_ hB=>?_⟩;have key:LeavesInM (Wr none) 0 P fn a.tmps (BI F w0 R') a.defers .returning w:=by
  exact Go.Proofs.YtdppjkjbghbnjaaGreatDoor.retM (by simp) ds hD dx (oth dx A.length) R hints v _ Ob hd.1 hd.2 rfl h hR iS ip _ jp _ H' hp.1 hp.2 hH hv a w hF f_ hB
 exact oD hc key key
theorem RN.retM{fn:Func}{R':Value -> HL -> Prop}(ds dx:List Nat)(hints:List Hint)(ip jp:List Nat){v:Value}{H':HL}(hv:R' v H')
 (hD:D=ds.map coll:=by rfl) (hc:mS s=true:=by kernel_rfl) (hd:((dx++oth dx s.A.length).isPerm (List.range s.A.length),dx.filterMap (s.A[·]?))=(true,ds.map cF):=by kernel_rfl)
 (h:∀n0,jN P n0 fn.results.toList R hints (kK dx s)=some (v,nG (jN P 0 fn.results.toList R hints (kK dx s)),nG (jN P 0 fn.results.toList R hints (kK dx s)),[]):=by intro n0;kernel_rfl)
 (hp:b8 ip jp (kK dx s)=true:=by kernel_rfl) (hH:ap (picks ip jp (kK dx s)).1 (picks ip jp (kK dx s)).2=H':=by kernel_rfl):RN none P N D F w0 R s (bodyPostM (Wr none) 0 P fn (BI F w0 R')):=F1 ds dx hints [] trivial ip jp hv hD hc hd h hp hH
end
def SpD(P:Program)(f:FuncId)(args:Array Value)(H F:HL)(R:Value -> HL -> Prop):Prop :=
 ∀w,Rel (H++F) w -> CallsDIn (Wr none) 0 P f args .returning w λ e u' w'=>u'=.returning /\ ∃v H',e=.returned v /\ R v H' /\ Rel (H'++F) w' /\ Below 0 w w'
theorem SpD.mono{P:Program}{f:FuncId}{args:Array Value}{H F:HL}{R R':Value -> HL -> Prop}(h:SpD P f args H F R)(hr:∀v H',R v H' -> R' v H'):SpD P f args H F R' :=
 λ w hR=>(h w hR).mono λ e u' w' ⟨h0,v,H',h1,h2,h3,h4⟩=>⟨h0,v,H',h1,hr _ _ h2,h3,h4⟩
section
variable {r:Option Nat} {P:Program} {N:Nat} {D:List Deferred} {F:HL} {w0:World} {R:HL} {s:Cfg} {Q:Exit -> Act -> World -> Prop}
def dfR(N:Nat)(s:Cfg):Option (FuncId × Array Value × Array Value):=match gI s with
 | some o=>match o.guard,o.op,(ee N o.dst undef s.L).isSome with
  | none,.defer c,true=>match c.callee with
   | .value f=>match gB s.L f && c.args.toList.all (gB s.L) with
    | true=>match fy s.L f with
     | .func (.func g) first cap=>some (g,first++c.args.map (fy s.L),cap)
     | _=>none
    | false=>none
   | _=>none
  | _,_,_=>none
 | none=>none
abbrev O9(g:FuncId)(args cap:Array Value):Deferred:={ target:=.fn (.func g) cap,args:=args }
theorem BO{L:FL}{a:Act}(hF:Fm N D L a):∀ (l:List Operand),l.all (gB L)=true -> l.map a.eval=l.map (fy L)
 | [],_=>rfl
 | x::l,h=>by
  rw[List.all_cons,aaV] at h;rw[List.map_cons,List.map_cons,hF.eval h.1,BO hF l h.2]
theorem Pa{g:FuncId}{args cap:Array Value}(hk:RN none P N (O9 g args cap::D) F w0 R (dW N undef s) Q)(h:dfR N s=some (g,args,cap):=by kernel_rfl):RN none P N D F w0 R s Q:=by
 refine⟨λ hR a w hF f_ hB=>?_⟩;obtain⟨cc,kk,L,A,Ts⟩:=s;unfold dfR at h;split at h
 case h_2=>cases h
 rename_i o q0;split at h
 case h_2=>cases h
 rename_i c q1 q2 q3;split at h
 case h_2=>cases h
 rename_i f q4;split at h
 case h_2=>cases h
 rename_i q5;split at h
 case h_2=>cases h
 rename_i g' first g_ q6
 simp only[Option.some.injEq,Prod.mk.injEq] at h;obtain⟨e1,e2,e3⟩:=h;subst e1;subst e2;subst e3;unfold gI at q0;cases cc with
 | code c=>cases q0
 | ex c=>cases q0
 | drw _ _=>cases q0
 | ops ops j =>
  simp only at q0 q3 q5 q6 hF f_;have oR:ops.toList.drop j=o::ops.toList.drop (j+1):=by
   have iN:j<ops.toList.length:=(List.getElem?_eq_some_iff.1 q0).1;rw[List.drop_eq_getElem_cons iN,(List.getElem?_eq_some_iff.1 q0).2]
  show wpListIn _ _ _ _ _ _ _ _;rw[oR,wpListIn,if_pos (by simp[Region.wanted,q1])];refine⟨λ _ _=>trivial,?_⟩;rw[aaV] at q5;obtain⟨L',hl⟩:=db q3 undef;have RU:dW N undef ⟨.ops ops j,kk,L,A,Ts⟩=⟨.ops ops (j+1),kk,L',A,Ts⟩:=by
   unfold dW;simp only[q0,hl]
  have hh:=hk.h hR;rw[RU] at hh;have Vl:c.args.map a.eval=c.args.map (fy L):=by
   apply Array.ext';rw[Array.toList_map,Array.toList_map];exact BO hF _ q5.2
  have e1:a.eval f=.func (.func g') first g_:=(hF.eval q5.1).trans q6
  have hex:(o.semAt (Wr none).round a.eval).run P w=.ok (.defer (O9 g' (first++c.args.map (fy L)) g_)) w:=by
   show (Oper.semAt none a.eval o).run P w=_;rw[Oper.semAt_none];simp only[execOp,q2,resolve,q4,e1,Deferred.ofValue,aaZ,Vl];rfl
  rw[hex,Oper.uponIn_defer];have X3:Fm N (O9 g' (first++c.args.map (fy L)) g_::D) L { a with defers:=O9 g' (first++c.args.map (fy L)) g_::a.defers }:=⟨hF.size,by rw[<- hF.defs],hF.has⟩;exact hh _ w (X3.put hl) f_ hB
structure LV(P:Program)(N:Nat)(D:List Deferred)(F:HL)(w0:World)(R:HL)(fn:Func)(R':Value -> HL -> Prop)(s:Cfg):Prop where
 h:(∀y∈R,y∈F) -> ∀a w,Fm N D s.L a -> Rel (ap s.A s.Ts++F) w -> Below 0 w0 w -> LeavesInM (Wr none) 0 P fn a.tmps (BI F w0 R') a.defers .returning w
theorem Me{fn:Func}{R':Value -> HL -> Prop}(hk:LV P N D F w0 R fn R' s)(hc:mS s=true:=by kernel_rfl):RN none P N D F w0 R s (bodyPostM (Wr none) 0 P fn (BI F w0 R')):=by
 refine⟨λ hR a w hF f_ hB=>?_⟩;have key:=hk.h hR a w hF f_ hB;exact oD hc key key
def Pb(ip jp:List Nat)(Hq:HL)(Tq:List HL)(s:Cfg):Cfg:=wJ (λ A=>Hq++(oth ip A.length).filterMap (A[·]?)) (λ Ts=>Tq++(oth jp Ts.length).filterMap (Ts[·]?)) s
theorem Pc{τ:Type}{fn:Func}{R':Value -> HL -> Prop}{g:FuncId}{args cap:Array Value}(eg:∀args w,(callFunc g args).run P w=.ok (.enter g args) w)(ip jp:List Nat){Hp:HL}{Tp:List HL}{Hq:τ -> HL}{Tq:τ -> List HL}{Rv:Value -> τ -> Prop}
  (hc:SpD P g (args++cap) (ap Hp Tp) (ap (fc ip s) (fR jp s)++F) (λ v H'=>∃x,H'=ap (Hq x) (Tq x) /\ Rv v x)) (hk:∀v x,Rv v x -> LV P N D F w0 R fn R' (Pb ip jp (Hq x) (Tq x) s))
  (hp:b8 ip jp s=true:=by kernel_rfl) (hH:picks ip jp s=(Hp,Tp):=by kernel_rfl):LV P N (O9 g args cap::D) F w0 R fn R' s:=by
 unfold b8 at hp;unfold picks at hH;rw[aaV] at hp;simp only[Prod.mk.injEq] at hH;obtain⟨e1,e2⟩:=hH;refine⟨λ hR a w hF f_ hB=>?_⟩;have oF:(ap Hp Tp++ap (fc ip s) (fR jp s)).Perm (ap s.A s.Ts):=by
  have h1:=lM s.A s.Ts ip (oth ip s.A.length) jp (oth jp s.Ts.length) hp.1 hp.2;rw[e1,e2] at h1;exact h1
 have XR:Rel (ap Hp Tp++(ap (fc ip s) (fR jp s)++F)) w:=by rw[<- aaD];exact f_.perm (oF.append_right F)
 rw[hF.defs];refine⟨by simp,.inr ⟨(λ h=>by cases h),.func g,cap,g,args++cap,rfl,?_,λ _ _=>trivial,?_⟩⟩
 ·show (callFunc g (args++cap)).run P w=_;exact eg _ _
 ·refine(hc w XR).mono ?_;rintro e u' w' ⟨rfl,v,H',rfl,⟨x,rfl,hv⟩,S_,U7⟩;have:=(hk v x hv).h hR { a with defers:=D } w' ⟨hF.size,rfl,hF.has⟩ ?_ (hB.trans U7)
  ·exact this
  ·unfold Pb;rw[qj.1,qj.2.1];refine S_.perm ?_;exact(uJ _ _ _ _ _).symm
theorem Ki{fn:Func}{R':Value -> HL -> Prop}(hints:List Hint)(Ob:List Prop)(iS:AllP Ob)(ip jp:List Nat){v:Value}{H':HL}(hv:R' v H')
  (h:∀n0,jN P n0 fn.results.toList R hints s=some (v,nG (jN P n0 fn.results.toList R hints s),nG (jN P n0 fn.results.toList R hints s),Ob):=by intro n0;kernel_rfl)
  (hp:b8 ip jp s=true:=by kernel_rfl) (hH:ap (picks ip jp s).1 (picks ip jp s).2=H':=by kernel_rfl):LV P N [] F w0 R fn R' s:=by
 unfold b8 at hp;unfold picks at hH;refine⟨λ hR a w hF f_ hB=>?_⟩;rw[aaV] at hp;have h':=h w.heap.size;unfold jN zB at h';split at h'
 case h_2=>cases h'
 rename_i vs ss hs;split at h'
 case h_2=>cases h'
 simp only[nG,Option.some.injEq,Prod.mk.injEq] at h';obtain⟨e1,-,e3,e4⟩:=h';have iF:=jM (P:=P) hF f_ fn.results.toList _ _ _ hs rfl rfl hR (λ e=>by cases e) (fT rfl e3) (by rw[e4];exact AllP.mem iS);subst e1;rw[hF.defs];exact⟨_,jq (by simp) iF,_,H',rfl,hv,f_.takeT ip _ jp _ hp.1 hp.2 hH,hB⟩
theorem LV.ret{fn:Func}{R':Value -> HL -> Prop}(hints:List Hint)(ip jp:List Nat){v:Value}{H':HL}(hv:R' v H')
 (h:∀n0,jN P n0 fn.results.toList R hints s=some (v,nG (jN P n0 fn.results.toList R hints s),nG (jN P n0 fn.results.toList R hints s),[]):=by intro n0;kernel_rfl)
 (hp:b8 ip jp s=true:=by kernel_rfl) (hH:ap (picks ip jp s).1 (picks ip jp s).2=H':=by kernel_rfl):LV P N [] F w0 R fn R' s:=Ki hints [] trivial ip jp hv h hp hH
end
def Qw(P:Program)(g:FuncId)(lb:Array Value)(own:HL)(F:HL){α:Type}(encs:α -> Array Value)(xs:List α)(Te Tx:HL -> Prop):Prop :=
 ∀ (X:HL) (l:Nat) (J:Nat -> HL -> Prop) (Jx:HL -> Prop) (H0:HL),(∀i x H Y,xs[i]?=some x -> J i H -> YL P l (encs x) H (Y++(X++F)) (λ b H'=>(b=true /\ J (i+1) H') \/ (b=false /\ Jx H'))) -> J 0 H0 ->
  Sp P g (#[.func (.yield l) #[] #[]]++lb) (H0++own) (X++F) (λ _ H'=>∃H1 T1,H'=H1++T1 /\ ((J xs.length H1 /\ Te T1) \/ (Jx H1 /\ Tx T1)))
section
variable {P:Program} {N:Nat} {D:List Deferred} {F:HL} {w0:World} {L:FL} {Q:Exit -> Act -> World -> Prop}
theorem Dl{α σ τ:Type}{g:Operand}{ps:Array Tmp}{assign body:Code}{encs:α -> Array Value}{xs:List α}{gf:FuncId}{lb:Array Value}(hi:gB L g=true)(hg:fy L g=.func (.func gf) #[] lb)(eg:∀args w,(callFunc gf args).run P w=.ok (.enter gf args) w)
  (Hx:σ -> HL) (I:Nat -> σ -> Prop) (Ix:Code -> σ -> Prop) (La:τ -> FL) (Ha:τ -> HL) (Ia:Nat -> α -> τ -> Prop) (Zo:∀x,(encs x).size=ps.size) (UC:(ps.toList.all λ p=>decide (p<N))=true)
  (x0:σ) (h0:I 0 x0) {A:HL} {Ts:List HL} (ip ir jp jr:List Nat) (hp:(ip++ir).isPerm (List.range A.length)=true) (hj:(jp++jr).isPerm (List.range Ts.length)=true) (Hr:HL) (Tr:List HL) (hHr:ir.filterMap (A[·]?)=Hr) (own:HL) {Te Tx:HL -> Prop} (Z0:jr.filterMap (Ts[·]?)=own::Tr) (hH:ap (ip.filterMap (A[·]?)) (jp.filterMap (Ts[·]?))=Hx x0)
  (hit:Qw P gf lb own (ap Hr Tr++F) encs xs Te Tx)
  (w_:∀ (l i:Nat) (x:α) (s:σ) (Y:HL) (w1:World),xs[i]?=some x -> I i s -> TR (some l) P N [] (Y++(ap Hr Tr++F)) w1 (pS ps.toList (encs x).toList L) (Hx s) assign (Exit.then (MS N [] (Y++(ap Hr Tr++F)) w1 La Ha (Ia i x)) (λ _ _ _=>False)))
  (RW:∀ (l i:Nat) (x:α) (t:τ) (Y:HL) (w1:World),xs[i]?=some x -> Ia i x t -> TR (some l) P N [] (Y++(ap Hr Tr++F)) w1 (La t) (Ha t) body (RQ (Y++(ap Hr Tr++F)) w1 Hx (I (i+1)) Ix))
  (RV:∀ (d:Nat) (s:σ) (T1:HL),I xs.length s -> Te T1 -> EX N (coll d::D) F w0 L (cF d::(Hx s++ap Hr (T1::Tr))) Q .normal)
  (RP:∀ (d:Nat) (c:Code) (s:σ) (T1:HL),Ix c s -> Tx T1 -> TR none P N (coll d::D) F w0 L (cF d::(Hx s++ap Hr (T1::Tr))) c Q) :
  TR none P N D F w0 L (ap A Ts) (.rangeFunc g ps assign body) Q:=by
 intro a w hF hR hB;have hpo:∀ (X:HL) (T1:HL),((X++T1)++(ap Hr Tr++F)).Perm (X++(ap Hr (T1::Tr)++F)):=λ X T1=>by
  rw[aaD];refine List.Perm.append_left X ?_;rw[<- aaD];refine aaS F ?_;show (T1++(Hr++Tr.flatten)).Perm (Hr++(T1::Tr).flatten);rw[aaX,<- aaD,<- aaD];exact aaS _ aaR
 have XR:Rel ((Hx x0++own)++(ap Hr Tr++F)) w:=by
  have h1:=lM A Ts ip ir jp jr hp hj;rw[hHr,Z0,hH] at h1;have h2:=hR.perm (h1.append_right F);rw[aaD] at h2;exact h2.perm (hpo _ _)
 refine wpIn_rangeFunc ?_;intro fn ZG;obtain⟨rec,RT⟩:∃rec:LoopState -> Option Code -> Loop,rec=λ st pe=>{ state:=st,pending:=pe,fn,tmps:=a.tmps,params:=ps,assign,body,defers:=w.heap.size }:=⟨_,rfl⟩;obtain⟨W1,ZY⟩:∃W1,(w.alloc (.deferred (some []))).alloc (.loop (rec .ready none))=W1:=⟨_,rfl⟩;have hB1:Below 0 w W1:=by rw[<- ZY];exact(iw _).trans (iw _)
 have Z1:Rel ((w.heap.size+1,Blk.obj (.loop (rec .ready none)))::cF w.heap.size::((Hx x0++own)++(ap Hr Tr++F))) W1:=by
  rw[<- ZY];have h1:=(XR.alloc (.obj (.deferred (some [])))).alloc (.obj (.loop (rec .ready none)));rw[World.size_alloc] at h1;exact h1
 refine⟨w.heap.size+1,[coll w.heap.size],W1,{ target:=.fn (.func gf) lb,args:=#[.func (.yield (w.heap.size+1)) #[] #[]] },W1,gf,#[.func (.yield (w.heap.size+1)) #[] #[]]++lb,W1,?_,?_,?_,?_,λ h=>(by cases h),?_⟩
 ·rw[<- ZY,RT];exact run_enterLoop_outer _ _ _ _ _
 ·have Uf:a.eval g=.func (.func gf) #[] lb:=(hF.eval hi).trans hg;simp only[resolve,Uf];simp[Deferred.ofValue];rfl
 ·intro f' _;trivial
 ·simp[invoke,eg]
 ·refine jL ?_;obtain⟨l,hl⟩:∃l,w.heap.size+1=l:=⟨_,rfl⟩;rw[hl] at Z1 ⊢;obtain⟨d,hd⟩:∃d,w.heap.size=d:=⟨_,rfl⟩;rw[hd] at Z1 RT ⊢;have key:=hit [] l (λ i H'=>∃s,I i s /\ H'=(l,Blk.obj (.loop (rec .ready none)))::cF d::Hx s) (λ H'=>∃c s,Ix c s /\ H'=(l,Blk.obj (.loop (rec .done (some c))))::cF d::Hx s)
   ((l,Blk.obj (.loop (rec .ready none)))::cF d::Hx x0) ?round ⟨x0,h0,rfl⟩ W1 Z1
  case round =>
   rintro i x H' Y hx ⟨s,hs,rfl⟩ W f_;have Sd:Rel ((l,Blk.obj (.loop (rec .ready none)))::(cF d::(Hx s++(Y++(ap Hr Tr++F))))) W:=f_;have hlW:W.heap[l]?=some (.loop (rec .ready none)):=Sd.holds _ aay;have hy:=run_yield (P:=P) (args:=encs x) hlW (by rw[RT];exact Zo x);rw[RT] at hy;refine⟨fn,_,assign,body,hy,roundIn_of_wpIn (F:=Wr none) (n:=0) ZG ?_⟩;have hFm:Fm N [] (pS ps.toList (encs x).toList L) { tmps:=(ps.zip (encs x)).foldl (λ t (p,v)=>t.setIfInBounds p v) a.tmps,defers:=[] }:=by
    have h1:=Fm.zip (D:=[]) ps.toList (encs x).toList L a.tmps (λ p hp=>aa0 (List.all_eq_true.1 UC p hp)) ⟨hF.size,rfl,hF.has⟩;have e:(ps.zip (encs x)).foldl (λ t (p,v)=>t.setIfInBounds p v) a.tmps=(ps.toList.zip (encs x).toList).foldl (λ t (p,v)=>t.setIfInBounds p v) a.tmps:=by
     rw[<- Array.foldl_toList,Array.toList_zip]
    rw[e];exact h1
   have hRA:Rel (Hx s++(((l,Blk.obj (.loop (rec .ready none)))::cF d::Y)++(ap Hr Tr++F))) W:=by
    have:=Sd;refine this.perm ?_;simp only[List.cons_append];refine List.perm_middle.trans ?_;refine List.Perm.cons _ ?_;exact List.perm_middle
   refine wpIn_mono (w_ l i x s ((l,Blk.obj (.loop (rec .ready none)))::cF d::Y) W hx hs _ W hFm hRA (Below.refl _ _)) ?_;intro e a1 Wa hq;cases e with
   | normal =>
    obtain⟨t,ht,m1,m2,m3⟩:=hq;have hRb:Rel ((l,Blk.obj (.loop (rec .ready none)))::(cF d::(Ha t++(Y++(ap Hr Tr++F))))) Wa:=by
     refine m2.perm ?_;simp only[List.cons_append];refine(List.Perm.trans ?_ List.perm_middle.symm);refine List.Perm.cons _ ?_;exact List.perm_middle.symm
    have hla:Wa.heap[l]?=some (.loop (rec .ready none)):=hRb.holds _ aay;refine⟨_,run_beginRound hla (by rw[RT]),?_⟩;have hRc:=hRb.putObj (F:=[]) (.obj (.loop { rec .ready none with state:=.busy }));have Tv:Rel (Ha t++(((l,Blk.obj (.loop { rec .ready none with state:=.busy }))::cF d::Y)++(ap Hr Tr++F))) (Wa.putObj l (.loop { rec .ready none with state:=.busy })):=by
     refine hRc.perm ?_;simp only[List.cons_append];refine List.perm_middle.trans ?_;refine List.Perm.cons _ ?_;exact List.perm_middle
    refine wpIn_mono (RW l i x t ((l,Blk.obj (.loop { rec .ready none with state:=.busy }))::cF d::Y) W hx ht a1 _ m1 Tv (m3.trans (dT _ _))) ?_;have fin:∀ (jump:Option Code) (s':σ) (W3:World),Rel (Hx s'++(((l,Blk.obj (.loop { rec .ready none with state:=.busy }))::cF d::Y)++(ap Hr Tr++F))) W3 -> Below 0 W W3 ->
      ∃v w',(Instr.endRound l jump).run P W3=.ok v w' /\ v=.bool jump.isNone /\ Rel (((l,Blk.obj (.loop (rec (if jump.isNone then .ready else .done) jump)))::cF d::Hx s')++(Y++([]++(ap Hr Tr++F)))) w' /\ Below 0 W w':=by
     intro jump s' W3 h3 hb3;have h4:Rel ((l,Blk.obj (.loop { rec .ready none with state:=.busy }))::(cF d::(Hx s'++(Y++(ap Hr Tr++F))))) W3:=by
      refine h3.perm ?_;simp only[List.cons_append];refine(List.Perm.trans ?_ List.perm_middle.symm);refine List.Perm.cons _ ?_;exact List.perm_middle.symm
     have Vt:W3.heap[l]?=some (.loop { rec .ready none with state:=.busy }):=h4.holds _ aay;have iF:=run_endRound (P:=P) jump Vt;refine⟨_,_,iF,rfl,?_,hb3.trans (dT _ _)⟩;have h5:=h4.putObj (F:=[]) (.obj (.loop (rec (if jump.isNone then .ready else .done) jump)));rw[RT] at h5 ⊢;exact h5
    intro e2 a2 W3 R7;cases e2 with
    | normal =>
     obtain⟨s',RS,n2,n3⟩:=R7;obtain⟨v,w',k1,k2,k3,k4⟩:=fin none s' W3 n2 n3;exact⟨v,w',k1,true,_,by rw[k2];rfl,.inl ⟨rfl,s',RS,rfl⟩,k3,k4⟩
    | ret =>
     obtain⟨s',RS,n2,n3⟩:=R7;obtain⟨v,w',k1,k2,k3,k4⟩:=fin (some .ret) s' W3 n2 n3;exact⟨v,w',k1,false,_,by rw[k2];rfl,.inr ⟨rfl,.ret,s',RS,rfl⟩,k3,k4⟩
    | exit id =>
     obtain⟨s',RS,n2,n3⟩:=R7;obtain⟨v,w',k1,k2,k3,k4⟩:=fin (some (.exit id)) s' W3 n2 n3;exact⟨v,w',k1,false,_,by rw[k2];rfl,.inr ⟨rfl,.exit id,s',RS,rfl⟩,k3,k4⟩
    | goto t=>exact R7.elim
    | panic ch=>exact R7.elim
    | outgrown=>exact R7.elim
   | exit id=>exact hq.elim
   | goto t=>exact hq.elim
   | ret=>exact hq.elim
   | panic ch=>exact hq.elim
   | outgrown=>exact hq.elim
  refine key.mono ?_;rintro e W2 ⟨v,H',rfl,hor,S_,U7⟩;have fin:∀ (st:LoopState) (pe:Option Code) (s:σ) (T1:HL) (n_:st ≠ .busy),Rel ((((l,Blk.obj (.loop (rec st pe)))::cF d::Hx s)++T1)++([]++(ap Hr Tr++F))) W2 ->
    ∃w4,(Instr.endLoop l).run P W2=.ok pe w4 /\ Rel ((cF d::(Hx s++ap Hr (T1::Tr)))++F) w4 /\ Below 0 W1 w4:=by
   intro st pe s T1 n_ h4;have h5:Rel ((l,Blk.obj (.loop (rec st pe)))::(cF d::(Hx s++(ap Hr (T1::Tr)++F)))) W2:=h4.perm (((hpo (Hx s) T1).symm.cons _).cons _);have R3:W2.heap[l]?=some (.loop (rec st pe)):=h5.holds _ aay;have iF:=run_endLoop (P:=P) R3 (by rw[RT];exact n_);refine⟨W2.putObj l (.loop { rec st pe with state:=.exhausted }),?_,?_,U7.trans (dT _ _)⟩
   ·rw[iF,RT]
   ·have h6:=h5.putObj (F:=[]) (.obj (.loop { rec st pe with state:=.exhausted }));have h7:=Rel.drop (X:=[(l,Blk.obj (.loop { rec st pe with state:=.exhausted }))]) (H:=cF d::(Hx s++(ap Hr (T1::Tr)++F))) h6;rw[<- aaD] at h7;exact h7
  have hFd:Fm N (coll d::D) L { a with defers:=[coll d]++a.defers }:=⟨hF.size,by rw[hF.defs];rfl,hF.has⟩;rcases hor with ⟨H1,T1,rfl,⟨⟨s,hs,rfl⟩,hT⟩|⟨⟨c,s,hs,rfl⟩,hT⟩⟩
  ·obtain⟨w4,k1,k2,k3⟩:=fin .ready none s T1 (by simp) S_;exact⟨none,w4,k1,RV d s T1 hs hT _ w4 hFd k2 (hB.trans (hB1.trans k3))⟩
  ·obtain⟨w4,k1,k2,k3⟩:=fin .done (some c) s T1 (by simp) S_;exact⟨some c,w4,k1,RP d c s T1 hs hT _ w4 hFd k2 (hB.trans (hB1.trans k3))⟩
theorem zK{α σ τ:Type}{g:Operand}{ps:Array Tmp}{assign body:Code}{encs:α -> Array Value}{xs:List α}{gf:FuncId}{lb:Array Value}(hi:gB L g=true)(hg:fy L g=.func (.func gf) #[] lb)(eg:∀args w,(callFunc gf args).run P w=.ok (.enter gf args) w)
  (Ax:σ -> HL) (Tx:σ -> List HL) (I:Nat -> σ -> Prop) (Ix:Code -> σ -> Prop) (La:τ -> FL) (Ha:τ -> HL) (Ia:Nat -> α -> τ -> Prop) (Zo:∀x,(encs x).size=ps.size) (UC:(ps.toList.all λ p=>decide (p<N))=true)
  (x0:σ) (h0:I 0 x0) {A:HL} {Ts:List HL} (ip ir jp jr:List Nat) (hp:(ip++ir).isPerm (List.range A.length)=true) (hj:(jp++jr).isPerm (List.range Ts.length)=true) (Hr:HL) (Tr:List HL) (hHr:ir.filterMap (A[·]?)=Hr) (own:HL) {Te Tx':HL -> Prop} (Z0:jr.filterMap (Ts[·]?)=own::Tr) (hA:ip.filterMap (A[·]?)=Ax x0) (hT:jp.filterMap (Ts[·]?)=Tx x0)
  (hit:Qw P gf lb own (ap Hr Tr++F) encs xs Te Tx')
  (w_:∀ (l i:Nat) (x:α) (s:σ) (Y:HL) (w1:World),xs[i]?=some x -> I i s -> TR (some l) P N [] (Y++(ap Hr Tr++F)) w1 (pS ps.toList (encs x).toList L) (ap (Ax s) (Tx s)) assign (Exit.then (MS N [] (Y++(ap Hr Tr++F)) w1 La Ha (Ia i x)) (λ _ _ _=>False)))
  (RW:∀ (l i:Nat) (x:α) (t:τ) (Y:HL) (w1:World),xs[i]?=some x -> Ia i x t -> TR (some l) P N [] (Y++(ap Hr Tr++F)) w1 (La t) (Ha t) body (RQ (Y++(ap Hr Tr++F)) w1 (λ s=>ap (Ax s) (Tx s)) (I (i+1)) Ix))
  (RV:∀ (d:Nat) (s:σ) (T1:HL),I xs.length s -> Te T1 -> EX N (coll d::D) F w0 L (ap (cF d::(Ax s++Hr)) (Tx s++T1::Tr)) Q .normal)
  (RP:∀ (d:Nat) (c:Code) (s:σ) (T1:HL),Ix c s -> Tx' T1 -> TR none P N (coll d::D) F w0 L (ap (cF d::(Ax s++Hr)) (Tx s++T1::Tr)) c Q) :
  TR none P N D F w0 L (ap A Ts) (.rangeFunc g ps assign body) Q:=by
 have hpm:∀ (d:Nat) (s:σ) (Tr:List HL),(ap (cF d::(Ax s++Hr)) (Tx s++Tr)).Perm (cF d::(ap (Ax s) (Tx s)++ap Hr Tr)):=λ d s Tr=>by
  show (cF d::((Ax s++Hr)++(Tx s++Tr).flatten)).Perm _;refine List.Perm.cons _ ?_;rw[List.flatten_append];show ((Ax s++Hr)++((Tx s).flatten++Tr.flatten)).Perm ((Ax s++(Tx s).flatten)++(Hr++Tr.flatten));rw[aaD,aaD];refine List.Perm.append_left _ ?_;rw[<- aaD,<- aaD];exact aaS _ aaR
 exact Dl hi hg eg (λ s=>ap (Ax s) (Tx s)) I Ix La Ha Ia Zo UC x0 h0 ip ir jp jr hp hj Hr Tr hHr own Z0 (by rw[hA,hT]) hit w_ RW
  (λ d s T1 hs hT a w h1 h2 h3=>RV d s T1 hs hT a w h1 (h2.perm ((hpm d s _).append_right F)) h3) (λ d c s T1 hs hT a w h1 h2 h3=>RP d c s T1 hs hT a w h1 (h2.perm ((hpm d s _).append_right F)) h3)
end
section
variable {P:Program} {N:Nat} {D:List Deferred} {F:HL} {w0:World} {R:HL} {s:Cfg} {Q:Exit -> Act -> World -> Prop}
def Pd(c:Fo)(d:Nat)(ip jp:List Nat)(A:HL)(Ts:List HL)(T1:HL)(s:Cfg):Cfg:=match s with
 | ⟨_,k,L,A',UK⟩=>⟨c,k,L,cF d::(A++(oth ip A'.length).filterMap (A'[·]?)),Ts++T1::((oth jp UK.length).filterMap (UK[·]?)).tail⟩
theorem Dm{α σ τ:Type}{encs:α -> Array Value}{xs:List α}{gf:FuncId}{lb:Array Value}(eg:∀args w,(callFunc gf args).run P w=.ok (.enter gf args) w)
  (S:σ -> HL × List HL) (I:Nat -> σ -> Prop) (Ix:Code -> σ -> Prop) (W:τ -> Inv) (Ia:Nat -> α -> τ -> Prop) (x0:σ) (h0:I 0 x0) (ip jp:List Nat)
  (own:HL) {Te Tx:HL -> Prop} (hit:Qw P gf lb own (ap (fc ip s) (fR jp s).tail++F) encs xs Te Tx)
  (w_:∀ (l i:Nat) (x:α) (s1:σ) (Y:HL) (w1:World),xs[i]?=some x -> I i s1 ->
   (∀ {s':Cfg} {R':HL} (t:τ) (Xf Xe:List Nat),Ia i x t -> (hm:De s'=some (MV N [] (Y++(ap (fc ip s) (fR jp s).tail++F)) w1 W (Ia i x)):=by kernel_rfl) -> (h:uO (W t) Xf Xe s'=nH (W t):=by kernel_rfl) -> (hp:b8 Xf Xe s'=true:=by kernel_rfl) -> RN (some l) P N [] (Y++(ap (fc ip s) (fR jp s).tail++F)) w1 R' s' (λ _ _ _=>False)) ->
   RN (some l) P N [] (Y++(ap (fc ip s) (fR jp s).tail++F)) w1 (fc ip s++R) (O6 (MV N [] (Y++(ap (fc ip s) (fR jp s).tail++F)) w1 W (Ia i x)) (encs x).toList (S s1).1 (S s1).2 s) (λ _ _ _=>False))
  (RW:∀ (l i:Nat) (x:α) (t:τ) (Y:HL) (w1:World),xs[i]?=some x -> Ia i x t -> RN (some l) P N [] (Y++(ap (fc ip s) (fR jp s).tail++F)) w1 (fc ip s++R) (O7 (W t) s) (RQ (Y++(ap (fc ip s) (fR jp s).tail++F)) w1 (λ s=>ap (S s).1 (S s).2) (I (i+1)) Ix))
  (RV:∀ (d:Nat) (s1:σ) (T1:HL),I xs.length s1 -> Te T1 -> RN none P N (coll d::D) F w0 R (Pd (.ex .normal) d ip jp (S s1).1 (S s1).2 T1 s) Q)
  (RP:∀ (d:Nat) (c:Code) (s1:σ) (T1:HL),Ix c s1 -> Tx T1 -> RN none P N (coll d::D) F w0 R (Pd (.code c) d ip jp (S s1).1 (S s1).2 T1 s) Q)
  (UC:Kh N s=true:=by kernel_rfl) (hp:b8 ip jp s=true:=by kernel_rfl) (hH:picks ip jp s=((S x0).1,(S x0).2):=by kernel_rfl) (ho:(fR jp s).head?=some own:=by kernel_rfl) (hG:(ml s).map (·.1)=some (.func (.func gf) #[] lb):=by kernel_rfl) (z_:∀x:α,(ml s).map (·.2)=some (encs x).size:=by intro x;kernel_rfl):RN none P N D F w0 R s Q:=by
 refine⟨λ hR=>?_⟩;obtain⟨c,k,L,A,Ts⟩:=s;unfold b8 at hp;unfold picks at hH;rw[aaV] at hp;simp only[Prod.mk.injEq] at hH;cases c with
 | ops _ _=>simp[ml] at hG
 | ex _=>simp[ml] at hG
 | drw _ _=>simp[ml] at hG
 | code c =>
 cases c with
 | rangeFunc g ps assign body =>
  have hi:gB L g=true:=by
   cases h:gB L g with
   | true=>rfl
   | false=>simp[ml,h] at hG
  simp only[ml,hi,Option.map_some,Option.some.injEq] at hG z_;simp only[Kh] at UC;have XQ:∀ (Y:HL),∀y∈fc ip ⟨.code (.rangeFunc g ps assign body),k,L,A,Ts⟩++R,y∈Y++(ap (fc ip ⟨.code (.rangeFunc g ps assign body),k,L,A,Ts⟩) (fR jp ⟨.code (.rangeFunc g ps assign body),k,L,A,Ts⟩).tail++F):=by
   intro Y y hy;rcases List.mem_append.1 hy with hy|hy
   ·exact aav _ (aax _ (aax _ hy))
   ·exact aav _ (aav _ (hR y hy))
  have BY:(oth jp Ts.length).filterMap (Ts[·]?)=own::((oth jp Ts.length).filterMap (Ts[·]?)).tail:=by
   have h1:((oth jp Ts.length).filterMap (Ts[·]?)).head?=some own:=ho;generalize (oth jp Ts.length).filterMap (Ts[·]?)=l at h1 ⊢;cases l with
   | nil=>cases h1
   | cons x l=>simp only[List.head?_cons,Option.some.injEq] at h1;rw[h1];rfl
  exact zK (assign:=assign) (body:=body) hi hG eg (λ s=>(S s).1) (λ s=>(S s).2) I Ix (λ t=>(W t).L) (λ t=>ap (W t).A (W t).Ts) Ia (λ x=>(z_ x).symm) UC x0 h0 ip (oth ip A.length) jp (oth jp Ts.length) hp.1 hp.2 _ _ rfl own BY hH.1 hH.2 hit
   (λ l i x s1 Y w1 hx hi=>(w_ l i x s1 Y w1 hx hi (λ t Xf Xe ht hm h hp=>qk t Xf Xe ht hm h hp)).h (XQ Y))
   (λ l i x t Y w1 hx ht=>(RW l i x t Y w1 hx ht).h (XQ Y))
   (λ d s1 T1 hs hT=>(RV d s1 T1 hs hT).h hR) (λ d c s1 T1 hs hT=>(RP d c s1 T1 hs hT).h hR)
 | _=>simp[ml] at hG
def mkC(i:Nat)(s:Cfg):Cfg:=match s with
 | ⟨c,k,L,A,Ts⟩=>⟨c,k,L,(oth [i] A.length).filterMap (A[·]?),Ts⟩
theorem LV.mark{fn:Func}{R':Value -> HL -> Prop}{d:Nat}(i:Nat)(hk:LV P N D F w0 R fn R' (mkC i s))(h:((s.A[i]?),([i]++oth [i] s.A.length).isPerm (List.range s.A.length))=(some (cF d),true):=by kernel_rfl):LV P N (coll d::D) F w0 R fn R' s:=by
 simp only[Prod.mk.injEq] at h;refine⟨λ hR a w hF f_ hB=>?_⟩;obtain⟨c,k,L,A,Ts⟩:=s;simp only at h hF f_;have hp:=fl A [i] (oth [i] A.length) h.2;simp only[List.filterMap_cons,h.1,List.filterMap_nil,List.cons_append,List.nil_append] at hp;have h1:Rel ((d,Blk.obj (.deferred (some [])))::(ap ((oth [i] A.length).filterMap (A[·]?)) Ts++F)) w:=by
  refine f_.perm ?_;have h2:(cF d::ap ((oth [i] A.length).filterMap (A[·]?)) Ts).Perm (ap A Ts):=aaS Ts.flatten hp;exact h2.append_right F
 have hd:w.heap[d]?=some (.deferred (some [])):=h1.holds (cF d) (by simp);have h2:=(h1.putObj (F:=[]) (.obj (.deferred none)));rw[hF.defs];refine⟨by simp,.inl ⟨d,_,rfl,run_takeDeferred hd,?_⟩⟩;exact hk.h hR { a with defers:=D } _ ⟨hF.size,rfl,hF.has⟩ (Rel.drop (X:=[(d,Blk.obj (.deferred none))]) h2) (hB.trans (dT _ _))
end
section
variable {r:Option Nat} {P:Program} {N:Nat} {D:List Deferred} {F:HL} {w0:World} {R:HL} {s:Cfg} {Q:Exit -> Act -> World -> Prop}
variable {α:Type} {e:Enc α} {T:TypeId} {inf:TypeInfo} {z:Value}
def BP(P:Program)(N j:Nat)(oo:Option Oper)(s:Cfg):Option (Option Addr × Nat × Nat × TypeId × Option Addr × Nat × Nat × TypeId × HL):=match oo with
 | some o=>match Kg P o s.L,s.Ts[j]?,([j]++oth [j] s.Ts.length).isPerm (List.range s.Ts.length) && (ee N o.dst undef s.L).isSome with
  | some (A,n,cap,T,B,m,c',tx),some Hl,true=>some (A,n,cap,T,B,m,c',tx,Hl)
  | _,_,_=>none
 | none=>none
theorem qI{j:Nat}{oo:Option Oper}{A:Option Addr}{n cap m c':Nat}{B:Option Addr}{tx:TypeId}{Hl:HL}(h:BP P N j oo s=some (A,n,cap,T,B,m,c',tx,Hl)) :
  ∃o a1 a2 t e',oo=some o /\ o.guard=none /\ o.op=.call { callee:=.builtin .append,args:=#[a1,a2],argTypes:=#[t,tx] } /\ (gB s.L a1 && gB s.L a2)=true /\ fy s.L a1=.slice A n cap /\ fy s.L a2=.slice B m c' /\ P.underlying t=some (.slice T) /\ P.underlying tx=some (.slice e') /\
   s.Ts[j]?=some Hl /\ ([j]++oth [j] s.Ts.length).isPerm (List.range s.Ts.length)=true /\ (ee N o.dst undef s.L).isSome=true:=by
 unfold BP at h;split at h
 case h_2=>cases h
 rename_i o;split at h
 case h_2=>cases h
 rename_i A' n' g_ T' B' m' c2 tx' q_ h1 h3 h4;simp only[Option.some.injEq,Prod.mk.injEq] at h;obtain⟨e1,e2,e3,e4,e5,e6,e7,e8,e9⟩:=h;subst e1;subst e2;subst e3;subst e4;subst e5;subst e6;subst e7;subst e8;subst e9;obtain⟨a1,a2,t,e',q1,q2,q3,q4,q5,q6,q7⟩:=tg h1;rw[aaV] at h4;exact⟨o,a1,a2,t,e',rfl,q1,q2,q3,q4,q5,q6,q7,h3,h4.1,h4.2⟩
end
inductive RowL{α:Type}(e:Enc α)(T:TypeId)(F:HL):Option Addr -> Nat -> List α -> Prop
 | zero (A:Option Addr):RowL e T F A 0 []
 | rows (q o N:Nat) (full:List α) (fz:Nat × Nat) (n:Nat) (xs:List α) (hq:(q,.rows e.w N (aP e full) T fz)∈F) (ho:o+n <= N) (hn:xs.length=n) (hx:∀k,k<n -> full.getD (o+k) e.dflt=xs.getD k e.dflt):RowL e T F (some ⟨q,o*e.w,none⟩) n xs
section
variable {α:Type} {e:Enc α} {T:TypeId} {F:HL} {A:Option Addr} {n:Nat} {xs:List α}
theorem RowL.mono{F':HL}(h:RowL e T F A n xs)(hs:∀x∈F,x∈F'):RowL e T F' A n xs:=by
 cases h with
 | zero=>exact .zero _
 | rows q o N full fz n xs hq ho hn hx=>exact .rows q o N full fz n xs (hs _ hq) ho hn hx
theorem RowL.up{X:HL}(h:RowL e T F A n xs):RowL e T (X++F) A n xs:=h.mono λ x hx=>aav _ hx
theorem RowL.len(h:RowL e T F A n xs):xs.length=n:=by
 cases h with
 | zero=>rfl
 | rows q o N full fz n xs hq ho hn hx=>exact hn
theorem RowL.at(h:RowL e T F A n xs){k:Nat}(hk:k<n):∃q o N full fz,A=some ⟨q,o*e.w,none⟩ /\ (q,.rows e.w N (aP e full) T fz)∈F /\ o+k<N /\ full.getD (o+k) e.dflt=xs.getD k e.dflt:=by
 cases h with
 | zero=>omega
 | rows q o N full fz n xs hq ho hn hx=>exact⟨q,o,N,full,fz,rfl,hq,by omega,hx k hk⟩
theorem RowL.whole{q N:Nat}{fz:Nat × Nat}(hq:(q,.rows e.w N (aP e xs) T fz)∈F)(h:xs.length <= N):RowL e T F (some ⟨q,0,none⟩) xs.length xs:=by
 have:=RowL.rows (e:=e) (T:=T) (F:=F) q 0 N xs fz xs.length xs hq (by omega) rfl (λ k hk=>by rw[Nat.zero_add]);rwa [Nat.zero_mul] at this
end
section
variable {α:Type} {e:Enc α} {P:Program} {t tx ty T:TypeId} {inf:TypeInfo} {z:Value} {F:HL}
theorem zL(l:List α)(hw:0<e.w):∀ {j:Nat},j<l.length*e.w -> (ar e l)[j]?=some (e.cell (l.getD (j / e.w) e.dflt) (j % e.w)):=by
 induction l with
 | nil=>intro j hj;simp at hj
 | cons x l ih =>
  intro j hj;have hc:ar e (x::l)=(List.range e.w).map (e.cell x)++ar e l:=by simp[ar]
  rw[hc]
  by_cases h:j<e.w
  ·rw[aaP (by simpa using h),Nat.div_eq_of_lt h,Nat.mod_eq_of_lt h];simp[h]
  ·rw[aaQ (by simp;omega)];simp only[List.length_map,List.length_range];have h2:j=(j-e.w)+e.w:=by omega
   rw[ih (by simp only[aaN,Nat.add_mul,Nat.one_mul] at hj;omega)]
   conv=>rhs;rw[h2,Nat.add_div_right _ hw,Nat.add_mod_right]
   rfl
theorem F3(ok:EncOk e P T inf z)(hw:0<e.w){F:HL}{A:Option Addr}{n:Nat}{xs:List α}(hl:RowL e T F A n xs){c:Nat}{e':TypeId}(hk:P.underlying tx=some (.slice e'))(X:HL)(w:World)(hR:Rel (X++F) w):Src P inf.size tx (.slice A n c) xs.length (ar e xs) w:=by
 cases hl with
 | zero =>
  cases A with
  | none=>exact Src.ofNil w hk c
  | some a=>exact Src.ofSlice w hk a 0 c [] (by simp) (λ j u h=>by simp at h) (λ u h=>by simp at h)
 | rows q o N full fz n xs hq ho hn hx =>
  subst hn;refine Src.ofSlice w hk _ _ _ _ (by rw[aJ,ok.size]) ?_ ?_
  ·intro j u hj;have UG:j<xs.length*e.w:=by rw[<- aJ];exact(List.getElem?_eq_some_iff.1 hj).1
   rw[zL xs hw UG] at hj;have hd:j / e.w<xs.length:=Nat.div_lt_of_lt_mul (by rw[Nat.mul_comm];exact UG);have hb:=hR.holds _ (aav X hq);rw[Addr.add_lit];have VG:o*e.w+j=(o+j / e.w)*e.w+j % e.w:=by
    rw[Nat.add_mul,Nat.add_assoc,Nat.mul_comm (j / e.w) e.w,Nat.div_add_mod]
   rw[lK (i:=o+j / e.w) (k:=j % e.w) hb rfl rfl VG (by omega) (Nat.mod_lt _ hw)];rw[<- hj];show some (aP e full (o+j / e.w) (j % e.w))=_;unfold aP;rw[hx _ hd]
  ·intro u hu;simp only[ar,List.mem_flatMap,List.mem_map] at hu;obtain⟨x,_,k,_,rfl⟩:=hu;exact ok.one x k
def SrcIn(P:Program)(e:Enc α)(F:HL)(A:Option Addr)(n:Nat)(xs:List α):Prop :=
 (xs.length=n /\ (A=none -> n=0)) /\ ∀ {tx e':TypeId} (c:Nat),P.underlying tx=some (.slice e') -> ∀X w,Rel (X++F) w -> Src P e.w tx (.slice A n c) xs.length (ar e xs) w
theorem SrcIn.mono{F F':HL}{A:Option Addr}{n:Nat}{xs:List α}(h:SrcIn P e F A n xs)(hs:∃X,F'.Perm (X++F)):SrcIn P e F' A n xs:=by
 obtain⟨X,hX⟩:=hs;refine⟨h.1,λ c hk Y w hR=>h.2 c hk (Y++X) w ?_⟩;rw[aaD];exact hR.perm (List.Perm.append_left Y hX.symm)
theorem SrcIn.up{F X:HL}{A:Option Addr}{n:Nat}{xs:List α}(h:SrcIn P e F A n xs):SrcIn P e (X++F) A n xs:=h.mono ⟨X,List.Perm.refl _⟩
theorem SrcIn.none:SrcIn P e F Option.none 0 []:=⟨⟨rfl,λ _=>rfl⟩,λ c hk X w hR=>Src.ofNil w hk c⟩
theorem RowL.src(ok:EncOk e P T inf z)(hw:0<e.w){F:HL}{A:Option Addr}{n:Nat}{xs:List α}(hl:RowL e T F A n xs):SrcIn P e F A n xs:=by
 refine⟨⟨hl.len,λ h=>?_⟩,λ c hk X w hR=>?_⟩
 ·subst h;cases hl;rfl
 ·have:=F3 (c:=c) ok hw hl hk X w hR;rwa [ok.size] at this
theorem SrcIn.lit(ok:EncOk e P T inf z){F:HL}{q:Nat}{xs:List α}{rest:List Value}{ty:TypeId}{fz:Nat × Nat}(hq:(q,.lit (ar e xs++rest) ty fz)∈F):SrcIn P e F (some ⟨q,0,Option.none⟩) xs.length xs:=by
 refine⟨⟨rfl,λ h=>by cases h⟩,λ c hk X w hR=>Src.ofSlice w hk _ _ _ _ (by rw[aJ]) ?_ ?_⟩
 ·intro j u hj;have hb:=hR.holds _ (aav X hq);have hl:j<(ar e xs).length:=(List.getElem?_eq_some_iff.1 hj).1;simp only[Blk.den] at hb;rw[Addr.add_lit];simp[World.cell?,hb,aaP hl,hj]
 ·intro u hu;simp only[ar,List.mem_flatMap,List.mem_map] at hu;obtain⟨x,_,k,_,rfl⟩:=hu;exact ok.one x k
def NewS(e:Enc α)(T:TypeId)(src:List α)(A A':Option Addr)(g_:Nat)(q_:HL):Prop :=
 (src=[] /\ A'=A /\ g_=0 /\ q_=[]) \/ ∃b,A'=some ⟨b,0,none⟩ /\ q_=[(b,.rows e.w g_ (aP e src) T (0,0))] /\ src.length <= g_
theorem NewS.rowL{src:List α}{A A':Option Addr}{g_:Nat}{q_:HL}(h:NewS e T src A A' g_ q_){F:HL}(hF:∀x∈q_,x∈F):RowL e T F A' src.length src:=by
 rcases h with ⟨rfl,rfl,rfl,rfl⟩|⟨b,rfl,rfl,hc⟩
 ·exact .zero _
 ·exact RowL.whole (hF _ (List.mem_singleton.2 rfl)) hc
theorem qJ(l:List α)(k:Nat):aP e (l++List.replicate k e.dflt)=aP e l:=by
 funext i j;unfold aP;congr 1;rw[aaE,aaE]
 by_cases h:i<l.length
 ·rw[aaP h]
 ·rw[aaQ (by omega),List.getElem?_replicate,List.getElem?_eq_none (by omega)];split <;> rfl
theorem zM(ok:EncOk e P T inf z)(ht:P.underlying t=some (.slice T)){A:Option Addr}{G:HL}{w:World}(hA:∀a,A=some a -> a.spot=none)(hR:Rel G w)(src:List α)(x:Value)
  (hs:Src P inf.size tx x src.length (ar e src) w) (hb:src.length <= 100000000) :
  ∃A' g_ q_ w',(Builtin.append_ #[t,tx] ty #[.slice A 0 0,x]).run P w=.ok (.slice A' src.length g_) w' /\ NewS e T src A A' g_ q_ /\ Rel (q_++G) w' /\ Below 0 w w':=by
 rcases Nat.eq_zero_or_pos src.length with h0|h0
 ·obtain rfl:src=[]:=aaT h0;cases A with
  | none =>
   refine⟨none,0,[],w,?_,.inl ⟨rfl,rfl,rfl,rfl⟩,hR,Below.refl _ _⟩;have hc:(Builtin.firstCells inf.size 0 x).run P w=.ok #[] w:=hs.cells;rcases hs.kind with ⟨e',hk⟩|hk <;> simp[Builtin.append_,run_underlying ht,run_underlying hk,Go.sizeOf,typeInfo,ok.info,hs.len,hc]
  | some a =>
   obtain⟨b,off,spot⟩:=a;obtain rfl:spot=none:=hA _ rfl;refine⟨some ⟨b,off,none⟩,0,[],w,?_,.inl ⟨rfl,rfl,rfl,rfl⟩,hR,Below.refl _ _⟩;have:=run_append_room_src (P:=P) w t tx ty T inf ht ok.info b off 0 0 x 0 (ar e ([]:List α)) hs (aaI _) (λ j hj=>by simp[ar] at hj) (λ j hj=>by simp[ar] at hj);exact this
 ·have YF:=ok.bytes;have Tk:Builtin.nextslicecap (0+src.length) 0*inf.bytes <= 281474976710656:=by
   have h1:=gX (0+src.length) 0 (by omega);have h2:Builtin.nextslicecap (0+src.length) 0*inf.bytes <= (2*100000000+192)*1000:=Nat.mul_le_mul (by omega) YF;omega
  have hold:(Builtin.firstCells inf.size 0 (.slice A 0 0)).run P w.drew=.ok ([]:List Value).toArray w.drew:=by
   cases A with
   | none=>exact run_firstCells_none w.drew inf.size 0 0 0
   | some a =>
    obtain⟨b,off,spot⟩:=a;obtain rfl:spot=none:=hA _ rfl;exact run_firstCells_some w.drew inf.size 0 ⟨b,off,none⟩ 0 0 [] (by simp) (λ j u hj=>by simp at hj)
  have iF:=run_append_grow_src (P:=P) w t tx ty T inf z ht ok.info ok.zero A 0 0 [] hold x src.length (ar e src) hs (by omega) (by omega) Tk;have Uf:=grownCap_ge w (0+src.length) 0 T;generalize grownCap w (0+src.length) 0 T=nc at *;rw[Nat.zero_add] at iF Uf;refine⟨_,nc,[(w.heap.size,.rows e.w nc (aP e src) T (0,0))],_,iF,.inr ⟨_,rfl,rfl,Uf⟩,?_,?_⟩
  ·have:=(Rel.cons (.rows e.w nc (aP e src) T (0,0)) (o:=.cells (([]++ar e src).toArray++Builtin.zeroCells z.cells (nc-src.length)) T (0,0)) ?_ (hR.world (w':=w.drew) rfl))
   ·exact this
   ·show Obj.cells _ _ _=_;congr 1;apply Array.ext';show bC _ _ _=_;have hl:nc=(src++List.replicate (nc-src.length) e.dflt).length:=by simp;omega
    have h3:=gH e (src++List.replicate (nc-src.length) e.dflt);rw[<- hl,qJ] at h3;rw[h3,aO,List.nil_append,Array.toList_append,kZ ok]
  ·exact⟨rfl,rfl,rfl,by simp,λ k hk=>by omega⟩
end
section
variable {r:Option Nat} {P:Program} {N:Nat} {D:List Deferred} {F:HL} {w0:World} {R:HL} {s:Cfg} {Q:Exit -> Act -> World -> Prop}
variable {α:Type} {e:Enc α} {T:TypeId} {inf:TypeInfo} {z:Value}
theorem iy(ok:EncOk e P T inf z)(src:List α)(j:Nat){A:Option Addr}{B:Option Addr}{m c':Nat}{tx:TypeId}(hA:∀a,A=some a -> a.spot=none)(hm:m=src.length)(hb:src.length <= 100000000)
  (hs:∀e',P.underlying tx=some (.slice e') -> ∀X w,Rel (X++F) w -> Src P inf.size tx (.slice B m c') src.length (ar e src) w)
  (hk:∀ (A':Option Addr) (g_:Nat) (q_:HL),NewS e T src A A' g_ q_ -> RN r P N D F w0 R (M3 j q_ (dW N (.slice A' src.length g_) s)) Q)
  (h:BP P N j (gI s) s=some (A,0,0,T,B,m,c',tx,([]:HL)):=by kernel_rfl):RN r P N D F w0 R s Q:=by
 obtain⟨o,a1,a2,t,e',q0,q1,q2,q3,q4,q5,q6,q7,q9,IF,R8⟩:=qI h;refine⟨λ hR a w hF f_ hB=>?_⟩;obtain⟨c,k,L,Bs,Ts⟩:=s;unfold gI at q0;cases c with
 | code c=>cases q0
 | ex c=>cases q0
 | drw _ _=>cases q0
 | ops ops i =>
  simp only at q0 q3 q4 q5 q9 IF R8 hF f_;have oR:ops.toList.drop i=o::ops.toList.drop (i+1):=by
   have iN:i<ops.toList.length:=(List.getElem?_eq_some_iff.1 q0).1;rw[List.drop_eq_getElem_cons iN,(List.getElem?_eq_some_iff.1 q0).2]
  show wpListIn _ _ _ _ _ _ _ _;rw[oR,wpListIn,if_pos (by simp[Region.wanted,q1])];refine⟨λ _ _=>trivial,?_⟩;have oF:=gi (A:=Bs) q9 IF;have key:dt P o a w λ u w'=>∃y:Option Addr × Nat × HL,(u=.slice y.1 src.length y.2.1 /\ NewS e T src A y.1 y.2.1 y.2.2) /\ Rel ((y.2.2++(Bs++((oth [j] Ts.length).filterMap (Ts[·]?)).flatten))++F) w' /\ Below 0 w w':=by
   simp only[aaV] at q3;have e1:=(hF.eval q3.1).trans q4;have e2:=(hF.eval q3.2).trans q5;have C_:Rel ((Bs++((oth [j] Ts.length).filterMap (Ts[·]?)).flatten)++F) w:=by
    have:=f_.perm (oF.append_right F);exact this
   obtain⟨A',g_,q_,w',r1,r2,r3,r4⟩:=zM (ty:=o.type) ok q6 hA C_ src (.slice B m c') (hs e' q7 _ w f_) hb;unfold dt;have iF:(execOp a.eval o).run P w=.ok (.value (.slice A' src.length g_)) w':=by
    simp[execOp,q2,resolve,invoke,builtin,aaZ,e1,e2,r1]
   rw[iF];exact⟨(A',g_,q_),⟨rfl,r2⟩,by rw[aaD];exact r3,r4⟩
  refine eZ (by rw[q2];intro c hc;cases hc) key ?_;rintro u w' ⟨⟨A',g_,q_⟩,⟨rfl,US⟩,C_,TF⟩;obtain⟨L',p1⟩:=db R8 (.slice A' src.length g_);have hh:=(hk A' g_ q_ US).h hR;have RU:dW N (.slice A' src.length g_) ⟨.ops ops i,k,L,Bs,Ts⟩=⟨.ops ops (i+1),k,L',Bs,Ts⟩:=by
   unfold dW;simp only[q0,p1]
  rw[RU] at hh;refine hh _ w' (hF.put p1) (C_.perm (aaS F ?_)) (hB.trans TF);show (Bs++(q_::(oth [j] Ts.length).filterMap (Ts[·]?)).flatten).Perm _;rw[aaX,<- aaD,<- aaD];exact aaS _ aaR
end
section
variable {α:Type} {e:Enc α} {P:Program} {T:TypeId} {inf:TypeInfo} {z:Value} {l:List α} {A:Option Addr} {cap:Nat} {Hl F:HL}
theorem SlIs.toRowL(h:SlIs e T l A cap Hl)(hF:∀x∈Hl,x∈F):RowL e T F A l.length l:=by
 rcases h with ⟨rfl,rfl,rfl,rfl⟩|⟨b,o,full,rfl,rfl,h1,h2,h3⟩
 ·exact .zero _
 ·refine .rows b o (o+cap) full (0,0) _ l (hF _ (List.mem_singleton.2 rfl)) (by omega) rfl (λ k hk=>?_);have h4:((full.drop o).take l.length)[k]?=l[k]?:=by rw[h3]
  rw[aa2,if_pos hk,aa1] at h4;rw[aaE,aaE,h4]
theorem SlIs.src(ok:EncOk e P T inf z)(hw:0<e.w)(h:SlIs e T l A cap Hl)(hF:∀x∈Hl,x∈F):SrcIn P e F A l.length l:=RowL.src ok hw (h.toRowL hF)
theorem SlIs.one{x:α}{b:Nat}:SlIs e T [x] (some ⟨b,0,none⟩) 1 [(b,.rows e.w 1 (aP e [x]) T (0,0))]:=.inr ⟨b,0,[x],by simp,by simp,rfl,aaI _,rfl⟩
end
section
variable {r:Option Nat} {P:Program} {N:Nat} {D:List Deferred} {F:HL} {w0:World} {R:HL} {s:Cfg} {Q:Exit -> Act -> World -> Prop} {hards:List Nat} {Rd:HL}
def btC(i:Nat)(s:Cfg):Cfg:=match s with
 | ⟨c,k,L,A,Ts⟩=>⟨c,k,L,(oth [i] A.length).filterMap (A[·]?),[i].filterMap (A[·]?)::Ts⟩
theorem BQ{A:HL}{Ts:List HL}{i:Nat}(h:([i]++oth [i] A.length).isPerm (List.range A.length)=true):(ap ((oth [i] A.length).filterMap (A[·]?)) ([i].filterMap (A[·]?)::Ts)).Perm (ap A Ts):=by
 have hp:=fl A [i] (oth [i] A.length) h;show ((oth [i] A.length).filterMap (A[·]?)++([i].filterMap (A[·]?)::Ts).flatten).Perm (A++Ts.flatten);rw[aaX,<- aaD];exact(List.perm_append_comm.trans hp).append_right _
theorem jO(i:Nat)(hk:RN r P N D F w0 R (btC i s) Q)(h:([i]++oth [i] s.A.length).isPerm (List.range s.A.length)=true:=by kernel_rfl):RN r P N D F w0 R s Q:=by
 obtain⟨c,k,L,A,Ts⟩:=s;exact⟨λ hR a w h1 h2 h3=>hk.h hR a w h1 (h2.perm ((BQ h).append_right F)) h3⟩
theorem Pe(i:Nat)(hk:RD r P N D F w0 R hards Rd (btC i s) Q)(h:([i]++oth [i] s.A.length).isPerm (List.range s.A.length)=true:=by kernel_rfl):RD r P N D F w0 R hards Rd s Q:=by
 obtain⟨c,k,L,A,Ts⟩:=s;refine⟨λ hR hs=>?_⟩;have h1:=hk.h hR hs;intro L_ a hF;exact JJ.perm _ _ _ _ _ (BQ h) (h1 L_ a hF)
theorem fV(t:Nat){u v:Value}(e:u=v)(hk:RD r P N D F w0 R hards Rd (svC t v s) Q)(h:s.L.lookup t=some u:=by kernel_rfl):RD r P N D F w0 R hards Rd s Q:=by
 subst e;exact⟨λ hR hs L_ a hF=>hk.h hR hs L_ a (hF.fix h)⟩
variable {α:Type} {e:Enc α} {T:TypeId} {inf:TypeInfo} {z:Value}
theorem RN.appU(ok:EncOk e P T inf z)(l src:List α)(j:Nat){A:Option Addr}{n cap:Nat}{Hl:HL}{B:Option Addr}{m c':Nat}{tx:TypeId}(hn:n=l.length)(Ud:SlIs e T l A cap Hl)(hb:l.length+src.length <= 100000000)
  (hs:SrcIn P e (ap s.A s.Ts++F) B m src)
  (hk:∀ (A':Option Addr) (g_:Nat) (q_:HL),(SlIs e T (l++src) A' g_ q_ /\ (bA A -> bA A')) -> RN r P N D F w0 R (M3 j q_ (dW N (.slice A' (n+src.length) g_) s)) Q)
  (h:BP P N j (gI s) s=some (A,n,cap,T,B,m,c',tx,Hl):=by kernel_rfl):RN r P N D F w0 R s Q:=by
 obtain⟨o,a1,a2,t,e',q0,q1,q2,q3,q4,q5,q6,q7,q9,IF,R8⟩:=qI h;refine⟨λ hR a w hF f_ hB=>?_⟩;obtain⟨c,k,L,Bs,Ts⟩:=s;unfold gI at q0;cases c with
 | code c=>cases q0
 | ex c=>cases q0
 | drw _ _=>cases q0
 | ops ops i =>
  simp only at q0 q3 q4 q5 q9 IF R8 hF f_;have oR:ops.toList.drop i=o::ops.toList.drop (i+1):=by
   have iN:i<ops.toList.length:=(List.getElem?_eq_some_iff.1 q0).1;rw[List.drop_eq_getElem_cons iN,(List.getElem?_eq_some_iff.1 q0).2]
  show wpListIn _ _ _ _ _ _ _ _;rw[oR,wpListIn,if_pos (by simp[Region.wanted,q1])];refine⟨λ _ _=>trivial,?_⟩;have oF:=gi (A:=Bs) q9 IF;refine eZ (by rw[q2];intro c hc;cases hc) (oC (x:=.slice B m c') (src:=src) (G:=Bs++((oth [j] Ts.length).filterMap (Ts[·]?)).flatten) ok q2 q6 q3 q4 hn q5 oF Ud (λ w hw=>by have h5:=hs.2 c' q7 [] w hw;rwa [<- ok.size] at h5) hb a hF w f_) ?_;rintro u w' ⟨⟨A',g_,q_⟩,⟨rfl,US⟩,C_,TF⟩;obtain⟨L',p1⟩:=db R8 (.slice A' (n+src.length) g_);have hh:=(hk A' g_ q_ US).h hR;have RU:dW N (.slice A' (n+src.length) g_) ⟨.ops ops i,k,L,Bs,Ts⟩=⟨.ops ops (i+1),k,L',Bs,Ts⟩:=by
   unfold dW;simp only[q0,p1]
  rw[RU] at hh;refine hh _ w' (hF.put p1) (C_.perm (aaS F ?_)) (hB.trans TF);show (Bs++(q_::(oth [j] Ts.length).filterMap (Ts[·]?)).flatten).Perm _;rw[aaX,<- aaD,<- aaD];exact aaS _ aaR
end
def slA(A:Option Addr)(l sz cap:Nat):Option Addr:=if cap=l then A else A.map (·.add (l*sz))
def QO(P:Program)(o:Oper)(L:FL):Option (Option Addr × Nat × Nat × Int × Nat):=match o.guard,o.op with
 | none,.slice t x (some lo) none none=>match gB L x && gB L lo,P.underlying t,fy L x,fy L lo with
  | true,some (.slice elem),.slice a len cap,.int .i64 l=>match P.info? elem with
   | some inf=>some (a,len,cap,l,inf.size)
   | none=>none
  | _,_,_,_=>none
 | _,_=>none
def Qx(P:Program)(N:Nat)(oo:Option Oper)(s:Cfg):Option (Option Addr × Nat × Nat × Int × Nat):=match oo with
 | some o=>match QO P o s.L,(ee N o.dst undef s.L).isSome with
  | some x,true=>some x
  | _,_=>none
 | none=>none
section
variable {r:Option Nat} {P:Program} {N:Nat} {D:List Deferred} {F:HL} {w0:World} {R:HL} {s:Cfg} {Q:Exit -> Act -> World -> Prop}
theorem wM{o:Oper}{L:FL}{A:Option Addr}{n cap sz:Nat}{l:Int}(h:QO P o L=some (A,n,cap,l,sz)) :
  ∃t x lo elem inf,o.guard=none /\ o.op=.slice t x (some lo) none none /\ (gB L x && gB L lo)=true /\ P.underlying t=some (.slice elem) /\ fy L x=.slice A n cap /\ fy L lo=.int .i64 l /\ P.info? elem=some inf /\ inf.size=sz:=by
 unfold QO at h;split at h
 case h_2=>cases h
 rename_i t x lo hg D_;split at h
 case h_2=>cases h
 rename_i elem a len cp l' h1 h2 h3 h4;split at h
 case h_2=>cases h
 rename_i inf h5;simp only[Option.some.injEq,Prod.mk.injEq] at h;obtain⟨e1,e2,e3,e4,e5⟩:=h;subst e1;subst e2;subst e3;subst e4;exact⟨t,x,lo,elem,inf,hg,D_,h1,h2,h3,h4,h5,e5⟩
theorem RN.slA{A:Option Addr}{n cap l sz:Nat}{li:Int}(hl:li=(l:Int))(h1:l <= n)(h2:n <= cap)(hk:RN r P N D F w0 R (dW N (.slice (slA A l sz cap) (n-l) (cap-l)) s) Q)
  (h:Qx P N (gI s) s=some (A,n,cap,li,sz):=by kernel_rfl):RN r P N D F w0 R s Q:=by
 unfold Qx at h;split at h
 case h_2=>cases h
 rename_i o q0;split at h
 case h_2=>cases h
 rename_i y hv hp;simp only[Option.some.injEq] at h;rw[h] at hv;clear h;obtain⟨t,x,lo,elem,inf,q1,q2,q3,q4,q5,q6,q7,q8⟩:=wM hv;refine⟨λ hR aa w hF f_ hB=>?_⟩;obtain⟨c,k,L,Bs,Ts⟩:=s;unfold gI at q0;cases c with
 | code c=>cases q0
 | ex c=>cases q0
 | drw _ _=>cases q0
 | ops ops pc =>
  simp only at q0 q3 q5 q6 hp hF f_;have oR:ops.toList.drop pc=o::ops.toList.drop (pc+1):=by
   have iN:pc<ops.toList.length:=(List.getElem?_eq_some_iff.1 q0).1;rw[List.drop_eq_getElem_cons iN,(List.getElem?_eq_some_iff.1 q0).2]
  show wpListIn _ _ _ _ _ _ _ _;rw[oR,wpListIn,if_pos (by simp[Region.wanted,q1])];refine⟨λ _ _=>trivial,?_⟩;have key:dt P o aa w λ u w'=>u=.slice (slA A l sz cap) (n-l) (cap-l) /\ Rel (ap Bs Ts++F) w' /\ Below 0 w w':=by
   simp only[aaV] at q3;have e1:=(hF.eval q3.1).trans q5;have e2:=(hF.eval q3.2).trans q6;have k1:=iM (P:=P) (ρ:=aa.eval) (lo:=some lo) (hi:=none) (l:=l) (h:=n) (len:=n) (cap:=cap) (by show C9 _ _ _ _;unfold C9;simp only[e2];exact hl) rfl h1 h2 w;have k2:=λ W=>cZ q7 W;have k3:=λ W=>aF q4 W;unfold dt;have he:(execOp aa.eval o).run P w=.ok (.value (.slice (slA A l sz cap) (n-l) (cap-l))) w:=by
    rw[show Option.map aa.eval none=none from rfl,show Option.map aa.eval (some lo)=some (aa.eval lo) from rfl] at k1;simp[execOp,q2,Instr.sliceAt,Instr.slice,e1,k3,Go.sizeOf,k2,aaZ,k1,slA,q8]
   rw[he];exact⟨rfl,f_,Below.refl _ _⟩
  refine eZ (by rw[q2];intro c hc;cases hc) key ?_;rintro u w' ⟨rfl,C_,TF⟩;obtain⟨L',p1⟩:=db hp (.slice (slA A l sz cap) (n-l) (cap-l));have hh:=hk.h hR;have RU:dW N (.slice (slA A l sz cap) (n-l) (cap-l)) ⟨.ops ops pc,k,L,Bs,Ts⟩=⟨.ops ops (pc+1),k,L',Bs,Ts⟩:=by
   unfold dW;simp only[q0,p1]
  rw[RU] at hh;exact hh _ w' (hF.put p1) C_ (hB.trans TF)
end
section
variable {α:Type} {e:Enc α} {T:TypeId} {F:HL} {A:Option Addr} {n cap:Nat} {xs:List α} {Hl:HL}
theorem SlIs.drop(h:SlIs e T xs A cap Hl)(hF:∀x∈Hl,x∈F)(hn:xs.length=n){k:Nat}(hk:k <= n):RowL e T F (slA A k e.w cap) (n-k) (xs.drop k):=by
 subst hn;have hr:=h.toRowL hF;rcases h with ⟨rfl,rfl,rfl,rfl⟩|⟨b,o,full,rfl,rfl,h1,h2,h3⟩
 ·have:k=0:=by simpa using hk
  subst this;exact .zero _
 ·by_cases hc:cap=k
  ·have e1:xs.length-k=0:=by omega
   have e2:xs.drop k=[]:=aaT (by rw[aaM];omega);rw[e1,e2];exact .zero _
  ·have e1:slA (some ⟨b,o*e.w,none⟩) k e.w cap=some ⟨b,(o+k)*e.w,none⟩:=by
    unfold slA;rw[if_neg hc,Option.map_some,gF rfl];simp[sC,Nat.add_mul]
   rw[e1];refine .rows b (o+k) (o+cap) full (0,0) _ _ (hF _ (List.mem_singleton.2 rfl)) (by omega) (by simp) (λ i hi=>?_);have h4:((full.drop o).take xs.length)[k+i]?=xs[k+i]?:=by rw[h3]
   rw[aa2,if_pos (by omega),aa1] at h4;rw[aaE,aaE,aa1,<- h4,Nat.add_assoc]
end
def bs(x:Option Int)(n d:Nat):Prop:=match x with
 | some z=>z=(n:Int)
 | none=>n=d
def bO(L:FL)(x:Option Operand):Option (Option Int):=match x with
 | none=>some none
 | some v=>match gB L v,fy L v with
  | true,.int .i64 z=>some (some z)
  | _,_=>none
theorem uQ{L:FL}{x:Option Operand}{i:Option Int}{a:Act}(he:∀v,gB L v=true -> a.eval v=fy L v)(h:bO L x=some i):x.map a.eval=i.map vI:=by
 unfold bO at h;split at h
 ·cases h;rfl
 ·rename_i v;split at h
  ·rename_i z h1 h2;cases h;show some _=some _;rw[he v h1,h2]
  ·cases h
theorem wN{P:Program}{lo hi mx:Option Int}{l h m len cap:Nat}(o1:bs lo l 0)(o2:bs hi h len)(o3:bs mx m cap)(hx:mx.isSome=true -> hi.isSome=true)(h1:l <= h)(h2:h <= m)(h3:m <= cap)(W:World) :
  (Instr.sliceBounds true len cap (lo.map vI) (hi.map vI) (mx.map vI)).run P W=.ok (l,h,m) W:=by
 have b1:∀ (y n:Nat) (c:BoundsCode),n <= y -> (Instr.sliceBound (vI (n:Int)) y c).run P W=.ok n W:=by
  intro y n c hny;simp[Instr.sliceBound,asIntOf,hny,go_sem]
 unfold Instr.sliceBounds;cases lo <;> cases hi <;> cases mx <;> simp only[bs] at o1 o2 o3
 all_goals subst o1 o2 o3
 ·simp[aaZ]
 ·simp at hx
 ·simp[aaZ,b1,h2]
 ·simp[aaZ,b1,h2,h3]
 ·simp[aaZ,b1,h1]
 ·simp at hx
 ·simp[aaZ,b1,h1,h2]
 ·simp[aaZ,b1,h1,h2,h3]
def M4(P:Program)(o:Oper)(L:FL):Option (Option Addr × Nat × Nat × Option Int × Option Int × Option Int × Nat):=match o.guard,o.op with
 | none,.slice t x lo hi mx=>match gB L x,P.underlying t,fy L x,bO L lo,bO L hi,bO L mx with
  | true,some (.slice elem),.slice a len cap,some l,some h,some m=>match P.info? elem with
   | some inf=>if m.isSome && h.isNone then none else some (a,len,cap,l,h,m,inf.size)
   | none=>none
  | _,_,_,_,_,_=>none
 | _,_=>none
def Pf(P:Program)(N:Nat)(oo:Option Oper)(s:Cfg):Option (Option Addr × Nat × Nat × Option Int × Option Int × Option Int × Nat):=match oo with
 | some o=>match M4 P o s.L,(ee N o.dst undef s.L).isSome with
  | some x,true=>some x
  | _,_=>none
 | none=>none
abbrev zN(A:Option Addr)(l sz m:Nat):Option Addr:=slA A l sz m
section
variable {r:Option Nat} {P:Program} {N:Nat} {D:List Deferred} {F:HL} {w0:World} {R:HL} {s:Cfg} {Q:Exit -> Act -> World -> Prop}
theorem Dn{o:Oper}{L:FL}{A:Option Addr}{n cap sz:Nat}{li hi mi:Option Int}(h:M4 P o L=some (A,n,cap,li,hi,mi,sz)) :
  ∃t x lo h' mx elem inf,o.guard=none /\ o.op=.slice t x lo h' mx /\ gB L x=true /\ P.underlying t=some (.slice elem) /\ fy L x=.slice A n cap /\ bO L lo=some li /\ bO L h'=some hi /\ bO L mx=some mi /\ P.info? elem=some inf /\ inf.size=sz /\ (mi.isSome=true -> hi.isSome=true):=by
 unfold M4 at h;split at h
 case h_2=>cases h
 rename_i t x lo h' mx hg D_;split at h
 case h_2=>cases h
 rename_i elem a len cp l1 l2 l3 h1 h2 h3 h4 h5 h6;split at h
 case h_2=>cases h
 rename_i inf h7;split at h
 case isTrue=>cases h
 rename_i h8;simp only[Option.some.injEq,Prod.mk.injEq] at h;obtain⟨e1,e2,e3,e4,e5,e6,e7⟩:=h;subst e1;subst e2;subst e3;subst e4;subst e5;subst e6;refine⟨t,x,lo,h',mx,elem,inf,hg,D_,h1,h2,h3,h4,h5,h6,h7,e7,λ g=>?_⟩;cases l2 with
 | some _=>rfl
 | none=>simp[g] at h8
theorem zO{A:Option Addr}{n cap l h m sz:Nat}{li hi mi:Option Int}(hl:bs li l 0)(hh:bs hi h n)(hm:bs mi m cap)(h1:l <= h)(h2:h <= m)(h3:m <= cap)(hk:RN r P N D F w0 R (dW N (.slice (zN A l sz m) (h-l) (m-l)) s) Q)
  (hc:Pf P N (gI s) s=some (A,n,cap,li,hi,mi,sz):=by kernel_rfl):RN r P N D F w0 R s Q:=by
 unfold Pf at hc;split at hc
 case h_2=>cases hc
 rename_i o q0;split at hc
 case h_2=>cases hc
 rename_i y hv hp;simp only[Option.some.injEq] at hc;rw[hc] at hv;clear hc;obtain⟨t,x,lo,h',mx,elem,inf,q1,q2,q3,q4,q5,q6,q6',aa6,q7,q8,q9⟩:=Dn hv;refine⟨λ hR aa w hF f_ hB=>?_⟩;obtain⟨c,k,L,Bs,Ts⟩:=s;unfold gI at q0;cases c with
 | code c=>cases q0
 | ex c=>cases q0
 | drw _ _=>cases q0
 | ops ops pc =>
  simp only at q0 q3 q5 q6 q6' aa6 hp hF f_;have oR:ops.toList.drop pc=o::ops.toList.drop (pc+1):=by
   have iN:pc<ops.toList.length:=(List.getElem?_eq_some_iff.1 q0).1;rw[List.drop_eq_getElem_cons iN,(List.getElem?_eq_some_iff.1 q0).2]
  show wpListIn _ _ _ _ _ _ _ _;rw[oR,wpListIn,if_pos (by simp[Region.wanted,q1])];refine⟨λ _ _=>trivial,?_⟩;have key:dt P o aa w λ u w'=>u=.slice (zN A l sz m) (h-l) (m-l) /\ Rel (ap Bs Ts++F) w' /\ Below 0 w w':=by
   have e1:=(hF.eval q3).trans q5;have he:∀v,gB L v=true -> aa.eval v=fy L v:=λ v hv=>hF.eval hv;have k1:=wN (P:=P) hl hh hm q9 h1 h2 h3 w;rw[<- uQ he q6,<- uQ he q6',<- uQ he aa6] at k1;have k2:=λ W=>cZ q7 W;have k3:=λ W=>aF q4 W;unfold dt;have he:(execOp aa.eval o).run P w=.ok (.value (.slice (zN A l sz m) (h-l) (m-l))) w:=by
    simp[execOp,q2,Instr.sliceAt,Instr.slice,e1,k3,Go.sizeOf,k2,aaZ,k1,zN,Go.Proofs.YtdppjkjbghbnjaaGreatDoor.slA,q8]
   rw[he];exact⟨rfl,f_,Below.refl _ _⟩
  refine eZ (by rw[q2];intro c hc;cases hc) key ?_;rintro u w' ⟨rfl,C_,TF⟩;obtain⟨L',p1⟩:=db hp (.slice (zN A l sz m) (h-l) (m-l));have hh:=hk.h hR;have RU:dW N (.slice (zN A l sz m) (h-l) (m-l)) ⟨.ops ops pc,k,L,Bs,Ts⟩=⟨.ops ops (pc+1),k,L',Bs,Ts⟩:=by
   unfold dW;simp only[q0,p1]
  rw[RU] at hh;exact hh _ w' (hF.put p1) C_ (hB.trans TF)
end
def aaj:=@RN.dn
def aao:=@RN.nt
def aar:=@RN.yield
end Go.Proofs.YtdppjkjbghbnjaaGreatDoor
