import Derived.Laws.IdiomCopy
import Derived.Test.YtghjbimijeinfaaGreatDoorV26
set_option maxHeartbeats 4000000
set_option maxRecDepth 100000
set_option linter.all false
namespace Go.Proofs.YtghjbimijeinfaaGreatDoor
open IntKind
open Go.RowKit
def JD(p n r f:Int):Int:=i64.wrap ((i64.wrap ((i64.wrap ((i64.wrap ((i64.wrap (p+(i64.wrap ((i64.wrap ((i64.wrap (p+1))+n))*(i64.wrap (f+3))))))+(i64.wrap (2*n))))+3))+(i64.wrap ((i64.wrap ((i64.wrap (r*n))*(i64.wrap (n-1)))).tdiv 2))))+(i64.wrap (n*(i64.wrap (n+1)))))
theorem tE{S:Setup}(hS:SetV S):l0 S.players S.nb S.rounds 0 <= JD S.players S.nb S.rounds 60 /\ JD S.players S.nb S.rounds 60 <= 650:=by
 have hp:=hS.pl;have hn:=hS.nb;have hr:=hS.ro;have key:∀p:Fin 3,∀n:Fin 5,∀r:Fin 3,l0 ((p.1+1:Nat):Int) ((n.1+1:Nat):Int) ((r.1+1:Nat):Int) 0 <= JD ((p.1+1:Nat):Int) ((n.1+1:Nat):Int) ((r.1+1:Nat):Int) 60 /\ JD ((p.1+1:Nat):Int) ((n.1+1:Nat):Int) ((r.1+1:Nat):Int) 60 <= 650:=by decide +kernel
 have:=key ⟨S.players.toNat-1,by omega⟩ ⟨S.nb-1,by omega⟩ ⟨S.rounds.toNat-1,by omega⟩;dsimp only at this;rwa [show ((S.players.toNat-1+1:Nat):Int)=S.players by omega,show S.nb-1+1=S.nb by omega,show ((S.rounds.toNat-1+1:Nat):Int)=S.rounds by omega] at this
theorem setV{xs:List Int}{F:HL}{A:Option Addr}{n:Nat}(hl:ArgL F A n xs){S:Setup}{T:HL}(h:SetG xs S T):SetV S:=by
 have h1:=o7 hl;have h2:=sF hl;have hn:=h.nb;have k2:=iz hl 2;obtain⟨e1,e2,e3,e4,e5,e6,e7,e8⟩:=h.nums;exact⟨by rw[h.pl];exact h2,by omega,by rw[e7];omega,by rw[e8];omega⟩
theorem kF{l:List Int}{i j:Nat}{v:Int}(h:i≠j):(l.set i v).getD j 0=l.getD j 0:=by
 rw[aaK,aaK,List.getElem?_set_ne h]
theorem vN{S:Setup}(hp:0 <= S.players){j:Nat}(hj:j<48):∀i,i <= S.nb -> (bJ S i).getD j 0=0
 | 0,_=>by
  rw[bJ,aaK,List.getElem?_replicate];split <;> rfl
 | i+1,hi=>by
  have hb:af S (i:Int)=48+4*S.players+8*(i:Int):=by
   rcases lh hp (i:Int) with e|⟨_,_,e⟩
   ·unfold af at e;rw[if_neg (by omega),if_neg (by omega)] at e;omega
   ·exact e
  rw[bJ,kF (by omega),kF (by omega),kF (by omega),kF (by omega),kF (by omega),kF (by omega)];exact vN hp hj i (by omega)
structure TE2(S:Setup)(t:Int)(M:MemS):Prop where
 len:(M.cs.length:Int)=sizeOf S
 z:∀k:Int,1 <= k -> k <= 10 -> M.get k=0
 t0:M.get 0=t
theorem Mm{S:Setup}(hS:SetV S):TE2 S 0 ⟨bJ S S.nb,[],0⟩:=by
 have hp:=hS.pl;have hlen:(((⟨bJ S S.nb,[],0⟩:MemS).cs.length:Nat):Int)=sizeOf S:=by
  show ((bJ S S.nb).length:Int)=_;rw[fU];unfold sizeOf;omega
 have g:∀k:Int,0 <= k -> k<48 -> (⟨bJ S S.nb,[],0⟩:MemS).get k=0:=λ k h0 h1=>by
  unfold MemS.get;split
  ·exact vN (by omega) (by omega) S.nb (aaS _)
  ·rfl
 exact⟨hlen,λ k h1 h2=>g k (by omega) (by omega),g 0 (by omega) (by omega)⟩
theorem TE2.tv{S:Setup}(hS:SetV S){t:Int}(ht:0 <= t /\ t <= 1000){M:MemS}(h:TE2 S t M)(ins:Nat -> Inp):TV S ins M /\ kC S M=l0 S.players S.nb S.rounds 0 /\ B4 M:=by
 have h1:=h.z 1 (by omega) (by omega);have h2:=h.z 2 (by omega) (by omega);have hp:=hS.pl;refine⟨⟨h.len,by rw[h.t0];omega,by rw[h1,h2];exact .inl ⟨rfl,by omega,by omega⟩,λ q hq=>by rw[h1,if_pos rfl,h2] at hq;omega,.inl ⟨h1,h2⟩⟩,?_,h1,h2⟩;unfold kC;rw[h1,h2];rfl
theorem Rg{S:Setup}(hS:SetV S){g:Gm}(hg:g.S=S)(Tz:S.players <= g.ni){t:Int}(ht:0 <= t /\ t <= 1000){M:MemS}(h:TE2 S t M):∃m,((m+1:Nat):Int) <= JD S.players S.nb S.rounds 60 /\ cH g (m+1) M /\ TE2 S (t+1) (eI g (m+1) M) /\
  Numb t 0 (dP g (m+1) M) /\ (eI g (m+1) M).get 11=((dP g (m+1) M).length:Int) /\ ((dP g (m+1) M).length:Int) <= 40:=by
 obtain⟨h1,h2,h3⟩:=h.tv hS ht (λ q=>g.ins.getD (g.io+q) dI);have hb:=tE hS;have aaI:=xi hS.pl ⟨by have:=hS.nb;omega,by have:=hS.nb;omega⟩ hS.ro h1.ct;unfold kC at h2;obtain⟨m,a1,a2,a3,a4,a5,a6,a7,a8⟩:=DD hS hg (λ _ _=>rfl) Tz (l0 S.players S.nb S.rounds 0).toNat M h1 (by unfold kC;omega);rw[if_pos h3] at a6 a7;rw[h.t0] at a5 a6;exact⟨m,by omega,a2,⟨a4,a3,a5⟩,a6,by rw[a7];omega,by omega⟩
theorem SetEq.pl{S S1:Setup}(h:SetEq S S1):S1.players=S.players:=h.nums.1
theorem SetEq.nb{S S1:Setup}(h:SetEq S S1):S1.nb=S.nb:=h.nums.2.1
theorem SetEq.size{S S1:Setup}(h:SetEq S S1):sizeOf S1=sizeOf S:=by unfold sizeOf;rw[h.pl,h.nb]
theorem SetEq.setV{S S1:Setup}(h:SetEq S S1)(hV:SetV S):SetV S1:=by
 obtain⟨e1,e2,_,_,_,_,_,_,_,_,e3,e4⟩:=h.nums;exact⟨by rw[e1];exact hV.pl,by rw[e2];exact hV.nb,by rw[e3];exact hV.ro,by rw[e4];exact hV.fu⟩
theorem TE2.eq{S S1:Setup}(h:SetEq S S1){t:Int}{M:MemS}(hT:TE2 S t M):TE2 S1 t M:=⟨by rw[h.size];exact hT.len,hT.z,hT.t0⟩
theorem DE{S S':Setup}(h:SetEq S S'):(S'.bods.drop S'.bo).map Bod.nm=(List.range S.nb).map λ k=>(S.body k).nm:=by
 rw[h.whole.1,List.drop_zero];apply List.ext_getElem?;intro k
 by_cases hk:k<S.nb
 ·obtain⟨A,c,e⟩:=h.bod k hk;have hl:k<S'.bods.length:=by rw[h.whole.2];exact hk
  have e2:S'.bods[k]?=some (S'.body k):=by
   show _=some (S'.bods.getD (S'.bo+k) dB);rw[h.whole.1,Nat.zero_add,aaK,aa3 hl];rfl
  rw[abv,e2,e];simp[hk];rfl
 ·rw[List.getElem?_eq_none (by rw[List.length_map,h.whole.2];omega),List.getElem?_eq_none (by simp;omega)]
theorem SetEq.nm2{S S1 S2:Setup}(h1:SetEq S S1)(h2:SetEq S S2):S1.nm=S2.nm:=by
 have b1:=DE h1;have b2:=DE h2;obtain⟨x1,x2,x3,x4,x5,x6,x7,x8,x9,x10,x11,x12⟩:=h1.nums;obtain⟨y1,y2,y3,y4,y5,y6,y7,y8,y9,y10,y11,y12⟩:=h2.nums;unfold Setup.nm;rw[b1,b2,x1,x2,x3,x4,x5,x6,x7,x8,x9,x10,x11,x12,y1,y2,y3,y4,y5,y6,y7,y8,y9,y10,y11,y12]
theorem DF{S1 S2:Setup}(h:S1.nm=S2.nm)(j:Nat × Int)(n:Nat)(xs:List Inp):GEq (gN S1 j n xs) (gN S2 j n xs):=by
 refine⟨?_,λ k hk=>rfl⟩;unfold Gm.nm;simp only[h]
theorem B5{G G':Nat -> Gm}(h:∀k,GEq (G k) (G' k))(M:MemS):∀k,nA G M k=nA G' M k
 | 0=>rfl
 | k+1=>by rw[nA,nA,B5 h M k,OD (h k)]
theorem JE{G G':Nat -> Gm}(h:∀k,GEq (G k) (G' k))(M:MemS):∀k,xf G M k=xf G' M k
 | 0=>rfl
 | k+1=>by rw[xf,xf,JE h M k,B5 h M k,OE (h k)]
theorem JF{S S1 S2:Setup}(h1:SetEq S S1)(h2:SetEq S S2)(J:Nat -> Nat × Int)(xss:List (List Inp)):∀k,GEq (rG S1 J xss k) (rG S2 J xss k):=λ k=>DF (h1.nm2 h2) _ _ _
theorem Pr{pl:Int}{n:Nat}{xs:List Inp}{now:Int}(h1:(n:Int)=pl)(h2:∀k,k<n -> o8 (xs.getD k dI))(h3:now<6000):dL pl n xs now=0:=by
 unfold dL;rw[if_pos h1,if_pos h2,if_neg (by omega)]
theorem JG{S1:Setup}(hV:SetV S1){t:Int}(ht:0 <= t /\ t <= 1000){M:MemS}(hT:TE2 S1 t M){xs:List Inp}(h1:(xs.length:Int)=S1.players)(h2:∀k,k<xs.length -> o8 (xs.getD k dI))(j:Nat × Int):TkOk S1 j xs M /\ TE2 S1 (t+1) (rm (eU S1 j xs) M):=by
 obtain⟨m,a1,a2,a3,_⟩:=Rg hV (g:=eU S1 j xs) rfl (by show S1.players <= (xs.length:Int);omega) ht hT;have hb:=(tE hV).2;refine⟨⟨⟨m,by omega,a2⟩,by rw[hT.t0];exact ht.1,by rw[hT.t0];exact Pr h1 h2 (by omega)⟩,?_⟩;rw[<- (NI (by omega) a2).1];exact a3
def lF(pl:Int)(xs:List Inp):Prop:=(xs.length:Int)=pl /\ ∀k,k<xs.length -> o8 (xs.getD k dI)
theorem NL{S1:Setup}(hV:SetV S1){M0:MemS}(hT:TE2 S1 0 M0){xss:List (List Inp)}(J:Nat -> Nat × Int)(n:Nat)(hn:n <= 50)(hr:∀i,i<n -> lF S1.players (xss.getD i [])):∀i,i <= n -> TE2 S1 (i:Int) (nA (rG S1 J xss) M0 i)
 | 0,_=>hT
 | i+1,h=>by
  have ih:=NL hV hT J n hn hr i (by omega);have:=(JG hV (t:=(i:Int)) (by omega) ih (hr i (by omega)).1 (hr i (by omega)).2 (J i)).2;rw[nA]
  exact_mod_cast this
theorem Rh{S1:Setup}(hV:SetV S1){M0:MemS}(hT:TE2 S1 0 M0){xss:List (List Inp)}(J:Nat -> Nat × Int)(n:Nat)(hn:n <= 50)(hr:∀i,i<n -> lF S1.players (xss.getD i []))(i:Nat)(hi:i<n):TkOk S1 (J i) (xss.getD i []) (nA (rG S1 J xss) M0 i) :=
 (JG hV (t:=(i:Int)) (by omega) (NL hV hT J n hn hr i (by omega)) (hr i hi).1 (hr i hi).2 (J i)).1
theorem JH{n:Int}(h:0 <= n):o8 (yL n):=by
 unfold o8 yL;dsimp only;split <;> omega
theorem Mn{F:HL}{A:Option Addr}{n:Nat}{xs:List Int}(hl:ArgL F A n xs){pl:Int}(hp:0 <= pl)(t:Int):lF pl (rowL pl xs t pl.toNat):=by
 refine⟨by rw[fV];omega,λ k hk=>?_⟩;rw[fV] at hk;rw[HY hk];exact JH (Lt hl pl t k).1
theorem tF{F:HL}{A:Option Addr}{n:Nat}{xs:List Int}(hl:ArgL F A n xs){pl:Int}(hp:0 <= pl)(cnt i:Nat)(hi:i<cnt):lF pl ((fX pl xs cnt).getD i []):=by
 rw[FK hi];exact Mn hl hp _
theorem JI{S S1:Setup}(hV:SetV S)(he:SetEq S S1):TE2 S1 0 ⟨bJ S S.nb,[],0⟩:=(Mm hV).eq he
section
variable {S S1:Setup} {rs_:List Bx} {ds_:List Dr} {bp n cap:Nat} {j:Nat × Int} {A:Option Addr} {rs:List Rw} {xss:List (List Inp)} {F:HL}
theorem Ps(hS:SetIn F S)(hM:MapIn F S rs_ ds_)(hV:SetV S)(VV:S.rn <= 1000000)(V0:S.dn <= 1000000)(C_:(sizeOf S).toNat <= 1000000)(hv:lK S rs_ ds_=0)(hj:j.1<5)(hA:∀t,0 <= t -> AtOk F bp t j)(hE:dp F)(hr:RowL jz 56 F A n rs)(hw:RwsIn F rs xss)(h9:n <= 9)(Tc:∀i,i<n -> lF S.players (xss.getD i []))(he:SetEq S S1) :
  Sp Tryz.prog 66 #[Setup.v S,vP bp 0,.slice A n cap] (ap [] []) F (λ u H'=>∃x:(Nat × Option Addr × Nat) × HL,H'=ap [(x.1.1,.rows 1 (nA (rG S1 (λ _=>j) xss) ⟨bJ S S.nb,[],0⟩ n).cs.length (aM (nA (rG S1 (λ _=>j) xss) ⟨bJ S S.nb,[],0⟩ n).cs) 3 (0,0))] [x.2] /\
   (SlIs sy 53 (xf (rG S1 (λ _=>j) xss) ⟨bJ S S.nb,[],0⟩ n) x.1.2.1 x.1.2.2 x.2 /\ u=.tuple #[vS x.1.1 0 (nA (rG S1 (λ _=>j) xss) ⟨bJ S S.nb,[],0⟩ n).cs.length (nA (rG S1 (λ _=>j) xss) ⟨bJ S S.nb,[],0⟩ n).cs.length,.slice x.1.2.1 (xf (rG S1 (λ _=>j) xss) ⟨bJ S S.nb,[],0⟩ n).length x.1.2.2,vI 0])):=by
 have hp:=hV.pl;have htk:∀S2,SetEq S S2 -> ∀i,i<n -> TkOk S2 j (xss.getD i []) (nA (rG S2 (λ _=>j) xss) ⟨bJ S S.nb,[],0⟩ i):=λ S2 h2 i hi=>Rh (h2.setV hV) (JI hV h2) (λ _=>j) n (by omega) (λ i hi=>by rw[h2.pl];exact Tc i hi) i hi;refine(Mf S rs_ ds_ bp n cap (λ _=>j) A rs xss F hS hM (by have:=hV.nb;omega) VV V0 C_ hv hE hr hw (λ k hk=>by have:=(Tc k hk).1;omega) (by omega) (by omega) (λ S2 h2 i hi _=>⟨.inl (htk S2 h2 i hi),hj,hA _ (htk S2 h2 i hi).now⟩)).mono λ u H' h=>?_;obtain⟨⟨⟨S2,q,A2,c2⟩,C,E⟩,rfl,h2,h3⟩:=h;dsimp only at h2 h3;rcases h3 with ⟨_,h4,h5,h6⟩|⟨i,hi,_,h4,_⟩
 ·have e1:=B5 (JF h2 he (λ _=>j) xss) ⟨bJ S S.nb,[],0⟩ n;have e2:=JE (JF h2 he (λ _=>j) xss) ⟨bJ S S.nb,[],0⟩ n;rw[e1] at h4 h6;rw[e2] at h5 h6;subst h4;exact⟨((q,A2,c2),E),by simp[ap],h5,h6⟩
 ·exact absurd (htk S2 h2 i hi).ok h4
end
theorem SlIs.rowN{α:Type}{e:Enc α}{T:TypeId}{l:List α}{A:Option Addr}{cap n:Nat}{Hl F:HL}(h:SlIs e T l A cap Hl)(hF:∀x∈Hl,x∈F)(hn:l.length=n):RowL e T F A n l:=hn ▸ h.toRowL hF
theorem zU{n m k:Int}(e:aB n m=k)(hm:0<m)(F:HL):Sp Tryz.prog 11 #[vI n,vI m] [] F (λ u H'=>u=vI k /\ H'=[]):=e ▸ gF n m (by omega) F
open Go.Shelf
theorem B6{cs vs:List Value}(h:cs.length=vs.length):jR cs 0 vs=vs:=by
 apply List.ext_getElem?;intro j;rw[nK vs cs 0 (by omega) j];split
 ·rfl
 ·next h1=>rw[List.getElem?_eq_none (by omega),List.getElem?_eq_none (by omega)]
theorem pm{b:Nat}{ty:TypeId}{fz:Nat × Nat}:∀ (vs:List Value) (o:Nat) (W:World) (cs:List Value),W.heap[b]?=some (Blk.lit cs ty fz).den -> (W.setCells b o vs).heap[b]?=some (Blk.lit (jR cs o vs) ty fz).den
 | [],o,W,cs,h=>h
 | v::r,o,W,cs,h=>by
  rw[World.setCells,jR];have h1:=qI (v:=v) (a:=⟨b,o,none⟩) rfl rfl h;rw[iU] at h1;exact pm r (o+1) _ _ h1
theorem pn{b k:Nat}(hk:k≠b):∀ (vs:List Value) (o:Nat) (W:World),(W.setCells b o vs).heap[k]?=W.heap[k]?
 | [],_,_=>rfl
 | v::r,o,W=>by
  rw[World.setCells,pn hk r (o+1)];exact Below.heap_setCell _ _ _ _ hk
def Pt(P:Program)(o:Oper)(L:FL):Option (Addr × Nat × Nat × Addr × Nat × Nat × TypeId × TypeId × TypeId):=match o.guard,o.op with
 | none,.call c=>match c.callee,c.args.toList,c.argTypes.toList with
  | .builtin .copy,[a1,a2],[t,tx]=>match gB L a1 && gB L a2,fG L a1,fG L a2 with
   | true,.slice (some d) n cap,.slice (some a) m c'=>match P.underlying t with
    | some (.slice T)=>some (d,n,cap,a,m,c',T,t,tx)
    | _=>none
   | _,_,_=>none
  | _,_,_=>none
 | _,_=>none
section
variable {r:Option Nat} {P:Program} {N:Nat} {D:List Deferred} {F:HL} {w0:World} {R:HL} {s:Cfg} {Q:Exit -> Act -> World -> Prop}
theorem FR{o:Oper}{L:FL}{d:Addr}{n cap:Nat}{a:Addr}{m c':Nat}{T t tx:TypeId}(h:Pt P o L=some (d,n,cap,a,m,c',T,t,tx)) :
  ∃a1 a2,o.guard=none /\ o.op=.call { callee:=.builtin .copy,args:=#[a1,a2],argTypes:=#[t,tx] } /\ (gB L a1 && gB L a2)=true /\ fG L a1=.slice (some d) n cap /\ fG L a2=.slice (some a) m c' /\ P.underlying t=some (.slice T):=by
 unfold Pt at h;split at h
 case h_2=>cases h
 rename_i c hg j_;split at h
 case h_2=>cases h
 rename_i a1 a2 t' tx' h1 h2 h3;split at h
 case h_2=>cases h
 rename_i d' n' f_ a' m' c2 h4 h5 h6;split at h
 case h_2=>cases h
 rename_i T' h7;simp only[Option.some.injEq,Prod.mk.injEq] at h;obtain⟨e1,e2,e3,e4,e5,e6,e7,e8,e9⟩:=h;subst e1;subst e2;subst e3;subst e4;subst e5;subst e6;subst e7;subst e8;subst e9;refine⟨a1,a2,hg,?_,h4,h5,h6,h7⟩;obtain⟨cal,args,ats⟩:=c;simp only at h1 h2 h3;subst h1;have e1:args=#[a1,a2]:=by cases args;simp_all
 have e2:ats=#[t',tx']:=by cases ats;simp_all
 rw[j_,e1,e2]
def Ri(P:Program)(N i:Nat)(oo:Option Oper)(s:Cfg):Option (Addr × Nat × Nat × Addr × Nat × Nat × TypeId × TypeId × TypeId × (Nat × Blk)):=match oo with
 | some o=>match Pt P o s.L,s.A[i]?,(dV N o.dst undef s.L).isSome with
  | some (d,n,cap,a,m,c',T,t,tx),some x,true=>some (d,n,cap,a,m,c',T,t,tx,x)
  | _,_,_=>none
 | none=>none
theorem RN.cpy(i:Nat)(X:Blk){b n cap m c':Nat}{a:Addr}{T t tx ty:TypeId}{g:Nat -> Nat -> Value}(vs:List Value)(hl:vs.length=n)(hm:m=n)(h1:∀v∈vs,v.oneCell'=true)(C_:(P.info? T).map (·.size)=some 1)
  (hs:∀w,Rel (ap s.A s.Ts++F) w -> ∀j v,vs[j]?=some v -> w.cell? (a.add j)=some v)
  (hX:X.den=(Blk.lit vs ty (0,0)).den) (hk:RN r P N D F w0 R (Qe i X (eH N (vI (n:Int)) s)) Q)
  (h:Ri P N i (fN s) s=some (⟨b,0,none⟩,n,cap,a,m,c',T,t,tx,(b,.rows 1 n g ty (0,0))):=by kernel_rfl):RN r P N D F w0 R s Q:=by
 unfold Ri at h;split at h
 case h_2=>cases h
 rename_i o q0;split at h
 case h_2=>cases h
 rename_i d' n' f_ a' m' c2 T' t' tx' x hv hx hp;simp only[Option.some.injEq,Prod.mk.injEq] at h;obtain⟨e1,e2,e3,e4,e5,e6,e7,e8,e9,e10⟩:=h;subst e1;subst e2;subst e3;subst e4;subst e5;subst e6;subst e7;subst e8;subst e9;subst e10;obtain⟨a1,a2,q1,q2,q3,q4,q5,q6⟩:=FR hv;refine⟨λ hR aa w hF aT hB=>?_⟩;obtain⟨c,k,L,Bs,Ts⟩:=s;unfold fN at q0;cases c with
 | code c=>cases q0
 | ex c=>cases q0
 | drw _ _=>cases q0
 | ops ops pc =>
  simp only at q0 q3 q4 q5 hx hp hF aT hs;have rW:ops.toList.drop pc=o::ops.toList.drop (pc+1):=by
   have g_:pc<ops.toList.length:=(List.getElem?_eq_some_iff.1 q0).1;rw[List.drop_eq_getElem_cons g_,(List.getElem?_eq_some_iff.1 q0).2]
  show wpListIn _ _ _ _ _ _ _ _;rw[rW,wpListIn,if_pos (by simp[Region.wanted,q1])];refine⟨λ _ _=>trivial,?_⟩;subst hm;have UG:(ap Bs Ts)[i]?=some (b,Blk.rows 1 m' g ty (0,0)):=by
   show (Bs++Ts.flatten)[i]?=_;rw[aa4 (List.getElem?_eq_some_iff.1 hx).1];exact hx
  have S7:w.heap[b]?=some (Blk.lit (bC 1 g m') ty (0,0)).den:=aT.holds (b,.rows 1 m' g ty (0,0)) (aav _ (List.mem_of_getElem? UG));have hrl:(bC 1 g m').length=m':=by rw[cZ];omega
  have key:dW P o aa w λ u w'=>u=vI (m':Int) /\ Rel (aR (ap Bs Ts) i (b,X)++F) w' /\ Below 0 w w':=by
   simp only[abe] at q3;have e1:=(hF.eval q3.1).trans q4;have e2:=(hF.eval q3.2).trans q5;have bY:=run_copy_cells (P:=P) w t' tx' o.type T' b 0 m' f_ a' m' c2 vs q6 C_ (by simp[hl]) (hs w aT) (λ j hj=>by
     have XO:j<(bC 1 g m').length:=by omega
     rw[Nat.zero_add,oB (v:=(bC 1 g m')[j]) S7 rfl rfl (by simp[XO])];rfl) (λ j hj=>pJ S7 rfl rfl) h1
   unfold dW;have he:(execOp aa.eval o).run P w=.ok (.value (vI (m':Int))) (w.setCells b 0 vs):=by
    simp[execOp,q2,resolve,invoke,builtin,abp,e1,e2,bY,goInt,hl]
   rw[he];refine⟨rfl,?_,i0 b vs 0 w⟩;have hd:=pm vs 0 w _ S7;rw[B6 (by omega),<- hX] at hd;exact aT.upd UG hd (λ k hk=>pn hk vs 0 w)
  refine iY (by rw[q2];intro c hc;cases hc) key ?_;rintro u w' ⟨rfl,G_,Wl⟩;obtain⟨L',p1⟩:=dU hp (vI (m':Int));have hh:=hk.h hR;have Tf:Qe i X (eH N (vI (m':Int)) ⟨.ops ops pc,k,L,Bs,Ts⟩)=⟨.ops ops (pc+1),k,L',aR Bs i (b,X),Ts⟩:=by
   unfold eH;simp only[q0,p1];unfold Qe;simp only[hx]
  rw[Tf] at hh;refine hh _ w' (hF.put p1) ?_ (hB.trans Wl);have e3:aR (ap Bs Ts) i (b,X)=ap (aR Bs i (b,X)) Ts:=by
   show aR (Bs++Ts.flatten) i _=aR Bs i _++Ts.flatten;rw[iU,iU,List.set_append_left _ _ (List.getElem?_eq_some_iff.1 hx).1]
  rw[<- e3];exact G_
end
def aI(i v:Int):Int:=wD ⟨#[108,101,97,102]⟩ [i,v]
def nB(a b:Int):Int:=wD ⟨#[112,97,105,114]⟩ [aV a,aV b]
def tG:Int:=wD ⟨#[101,109,112,116,121]⟩ []
def aA(n:Nat):Nat:=if n <= 1 then 0 else Lib.bitLen (n-1)
def kO(n:Nat):Nat:=2 ^ aA n
theorem Pu{n:Nat}(h:(n:Int) <= 1):aA n=0:=by
 unfold aA;rw[if_pos (by omega)]
theorem Pv{n:Nat}(hl:n <= 1000000)(h:¬ (n:Int) <= 1):wy ((n:Int)-1)=(aA n:Int):=by
 unfold aA wy;rw[if_neg (by omega)];have e:(xQ ((n:Int)-1)).toNat=n-1:=by
  rw[show xQ ((n:Int)-1)=(n:Int)-1 by rw[xQ,IntKind.wrap];simp[IntKind.signed,IntKind.bits];omega];omega
 rw[e]
theorem JK:∀ (f x:Nat),x<2 ^ f -> x≠0 -> ∃m,Lib.bitLenAux f x=m+1 /\ 2 ^ m <= x /\ x<2 ^ (m+1)
 | 0,x,h,h0=>absurd (by simpa using h) h0
 | f+1,x,h,h0=>by
  rw[Lib.bitLenAux,if_neg h0]
  by_cases h2:x / 2=0
  ·have e:Lib.bitLenAux f (x / 2)=0:=by rw[h2];cases f <;> simp[Lib.bitLenAux]
   rw[e];exact⟨0,rfl,by simp;omega,by simp;omega⟩
  ·obtain⟨m,e,h3,h4⟩:=JK f (x / 2) (by rw[Nat.pow_succ] at h;omega) h2;rw[e];exact⟨m+1,by omega,by rw[Nat.pow_succ];omega,by rw[Nat.pow_succ];omega⟩
theorem jl{n:Nat}(h:n <= 1000000):aA n <= 20 /\ n <= kO n /\ 1 <= kO n /\ kO n <= 2000000:=by
 unfold kO aA
 by_cases h1:n <= 1
 ·rw[if_pos h1];simp;omega
 ·rw[if_neg h1];obtain⟨m,e,b2,b3⟩:=JK 64 (n-1) (by omega) (by omega);rw[show Lib.bitLen (n-1)=m+1 from e];have hm:m<20:=by
   apply Classical.byContradiction;intro hn;have:=Nat.pow_le_pow_right (n:=2) (by omega) (show 20 <= m by omega);omega
  rw[Nat.pow_succ] at b3 ⊢;omega
theorem Rj{n:Nat}(h:n <= 1000000):i64.wrap (1*2 ^ min ((aA n:Int)).toNat 64)=(kO n:Int):=by
 obtain⟨h1,h2,h3,h4⟩:=jl h;rw[Int.toNat_natCast,Nat.min_eq_left (by omega),IntKind.wrap_i64];have e:(1:Int)*2 ^ aA n=(kO n:Int):=by
  unfold kO;rw[Int.one_mul]
  norm_cast
 rw[e];omega
def iM(f:Nat -> Int):Nat -> Nat -> Value:=λ i k=>match k with|0=>.int .u64 (f i)|_=>default
def tH(f:Nat -> Int)(i:Nat)(v:Int):Nat -> Int:=λ j=>if j=i then v else f j
theorem tI(f:Nat -> Int)(i:Nat)(v:Int):eF (iM f) i 0 (.int .u64 v)=iM (tH f i v):=by
 funext j k;unfold eF iM tH;cases k with
 | zero=>by_cases h:j=i <;> simp[h]
 | succ k=>simp
def JL(xs:List Int)(sz:Nat):Nat -> Nat -> Int
 | 0=>λ _=>0
 | i+1=>tH (JL xs sz i) (sz+i) (aI i (xs.getD i 0))
def FS(xs:List Int)(sz:Nat):Nat -> Nat -> Int
 | 0=>JL xs sz xs.length
 | m+1=>tH (FS xs sz m) (sz+(xs.length+m)) tG
def nC(xs:List Int)(sz:Nat):Nat -> Nat -> Int
 | 0=>FS xs sz (sz-xs.length)
 | m+1=>tH (nC xs sz m) (sz-1-m) (nB (nC xs sz m (2*(sz-1-m))) (nC xs sz m (2*(sz-1-m)+1)))
def gx(xs:List Int):Int:=nC xs (kO xs.length) (kO xs.length-1) 1
theorem FT(xs:List Int)(sz:Nat):mU [.int .u64 0]=iM (JL xs sz 0):=by
 funext j k;cases k with
 | zero=>rfl
 | succ k=>simp[mU,iM]
theorem Mo{xs:List Int}{sz j:Nat}(h:xs.length <= j):tH (FS xs sz (j-xs.length)) (sz+j) tG=FS xs sz (j+1-xs.length):=by
 rw[show j+1-xs.length=(j-xs.length)+1 by omega,FS,show xs.length+(j-xs.length)=j by omega]
theorem Mp{xs:List Int}{sz k:Nat}(h:k+1 <= sz)(h1:1 <= k):tH (nC xs sz (sz-1-k)) k (nB (nC xs sz (sz-1-k) (2*k)) (nC xs sz (sz-1-k) (2*k+1)))=nC xs sz (sz-1-(k-1)):=by
 rw[show sz-1-(k-1)=(sz-1-k)+1 by omega,nC,show sz-1-(sz-1-k)=k by omega]
theorem FU(xs:List Int){n:Nat}(h:xs.length=n):bC 1 (aM xs) n=xs.map vI:=by
 refine iT (by simpa using h) λ i k hi hk=>?_;obtain rfl:k=0:=by omega
 have Yv:i<xs.length:=by omega
 simp[aM,aaK,aa3 Yv]
theorem JM{q c:Nat}{ty:TypeId}{xs:List Int}{H F:HL}(hq:(q,.rows 1 c (aM xs) ty (0,0))∈H++F)(hc:xs.length <= c):∀w,Rel (H++F) w -> ∀j v,(xs.map vI)[j]?=some v -> w.cell? (Addr.add ⟨q,0,none⟩ j)=some v:=by
 intro w hr j v hv;have hj:j<xs.length:=by
  have:=(List.getElem?_eq_some_iff.1 hv).1;simpa using this
 have hb:=hr.holds _ hq;rw[show Addr.add ⟨q,0,none⟩ j=⟨q,j,none⟩ by unfold Addr.add;split <;> simp_all,jZ (i:=j) (k:=0) hb rfl rfl (by simp) (by omega) (by omega)];rw[<- hv];simp[aM,aaK,aa3 hj]
theorem Pw{xs:List Int}:∀v∈xs.map vI,v.oneCell'=true:=by
 intro v hv;obtain⟨x,_,rfl⟩:=List.mem_map.1 hv;rfl
theorem JN(b:ByteArray)(F:HL)(hb:b.size <= 1000000):Sp Tryz.prog 114 #[.string b,.slice none 0 0] [] F (λ u H'=>u=.int .u64 (wD b []) /\ H'=[]):=by
 refine aas Tryz.func114 rfl mn (A:=[]) (Ts:=[]) rfl λ w0=>?_;refine ae 10 [] λ _=>aah (so b 0 _ (by assumption))<|ae 12 [] λ _=>aaq 1<|ae 15 [] λ _=>aah (mw (pQ b 0) 0 _)<|ae 3 [] λ _=>?_;exact aap [] [] [] ⟨rfl,rfl⟩
theorem om(n:Nat)(F:HL)(hl:n <= 1000000):Sp Tryz.prog 68 #[vI (n:Int)] [] F (λ u H'=>u=vI (aA n:Int) /\ H'=[]):=by
 refine aas Tryz.func68 rfl mn (A:=[]) (Ts:=[]) rfl λ w0=>?_;refine ae 12 [] λ _=>aal ((n:Int) <= 1) 4 (λ h1=>?_) λ h1=>?_
 ·refine ae 6 [] λ _=>aap [] [] [] (v:=vI 0) (H':=[]) ?_;exact⟨congrArg (λ x:Nat=>vI (x:Int)) (Pu (by assumption)).symm,rfl⟩
 ·refine ai 8 [.nw] [bm ((n:Int)-1)] λ _=>aah (xR ((n:Int)-1) _)<|ae 3 [] λ _=>aap [] [] [] (v:=vI (wy ((n:Int)-1))) (H':=[]) ?_;exact⟨congrArg vI (Pv hl (by assumption)),rfl⟩
theorem mO(i v:Int)(F:HL):Sp Tryz.prog 71 #[vI i,vI v] [] F (λ u H'=>u=.int .u64 (aI i v) /\ H'=[]):=by
 refine aas Tryz.func71 rfl mn (A:=[]) (Ts:=[]) rfl λ w0=>?_;refine ae 10 [] λ n1=>aaj 0 (.rows 1 2 (aM [i,v]) 3 (0,0))<|aah (sr (⟨#[108,101,97,102]⟩) ([i,v]) (n1+0) 2 _ (by decide) (aaN rfl) (aaN rfl) (au 0))<|ae 3 [] λ _=>?_;exact aap [] [] [] ⟨rfl,rfl⟩
theorem qo(a b:Int)(F:HL):Sp Tryz.prog 116 #[.int .u64 a,.int .u64 b] [] F (λ u H'=>u=.int .u64 (nB a b) /\ H'=[]):=by
 refine aas Tryz.func116 rfl mn (A:=[]) (Ts:=[]) rfl λ w0=>?_;refine ae 12 [] λ n1=>aaj 0 (.rows 1 2 (aM [i64.wrap a,i64.wrap b]) 3 (0,0))<|aah (sr (⟨#[112,97,105,114]⟩) ([i64.wrap a,i64.wrap b]) (n1+0) 2 _ (by decide) (aaN rfl) (aaN rfl) (au 0))<|ae 3 [] λ _=>?_;exact aap [] [] [] ⟨rfl,rfl⟩
theorem zV(q c:Nat)(xs:List Int)(F:HL)(hq:(q,.rows 1 c (aM xs) 3 (0,0))∈F)(hc:xs.length <= c)(hl:xs.length <= 1000000):Sp Tryz.prog 181 #[vS q 0 xs.length c] (ap [] []) F (λ u H'=>∃x:Nat × Nat × Nat,H'=ap [(x.1,.lit [vI (aA xs.length:Int),vS x.2.1 0 xs.length xs.length,vS x.2.2 0 (2*kO xs.length) (2*kO xs.length)] 353 (0,0)),(x.2.1,.rows 1 xs.length (aM xs) 3 (0,0)),(x.2.2,.rows 1 (2*kO xs.length) (iM (nC xs (kO xs.length) (kO xs.length-1))) 77 (0,0))] [] /\ u=vP x.1 0):=by
 obtain⟨UD,VF,YC,hb4⟩:=jl hl;have he:=Rj hl;obtain⟨sz,C_⟩:∃sz,kO xs.length=sz:=⟨_,rfl⟩;rw[C_] at VF YC hb4 he;refine aas Tryz.func181 rfl (mc hq mn) (A:=[]) (Ts:=[]) rfl λ w0=>?_;refine ae 9 [] λ _=>aah (om xs.length _ hl)<|ai 11 [.dv] [0 <= (aA xs.length:Int)] λ _=>aak [] []<|nz 4 (congrArg (λ v_=>(vI v_:Value)) he)<|aF [] [0,1,4,2,5] [.nw] [bm (2*(sz:Int))]<|i6 (σ:=Nat × Nat × Nat) (λ ⟨n1,n2,n3⟩=>⟨[(0,vS q 0 xs.length c),(4,vI (sz:Int)),(5,vP (n3+0) 0)],[((n3+0),.lit [vI (aA xs.length:Int),vS (n1+0) 0 xs.length xs.length,vS (n2+0) 0 (2*sz) (2*sz)] 353 (0,0)),((n2+0),.rows 1 (2*sz) (mU [.int .u64 0]) 77 (0,0)),((n1+0),.rows 1 xs.length (mU [vI 0]) 3 (0,0))],[],True,0⟩) ?_ ?_
 ·rintro⟨n1,n2,n3⟩;refine ae 8 [.own 0] λ _=>RN.cpy (b:=(n1+0)) (n:=xs.length) (cap:=xs.length) (m:=xs.length) (c':=c) (a:=⟨q,0,none⟩) (T:=3) (t:=22) (tx:=22) (ty:=3) (g:=(mU [vI 0])) 2 (.rows 1 xs.length (aM xs) 3 (0,0)) (xs.map vI) (by simp) rfl Pw rfl (JM (aau _ hq) hc) (congrArg (λ l:List Value=>(Obj.cells ⟨l⟩ 3 (0,0))) (FU xs rfl))<|ae 11 [] λ _=>ez 1 (congrArg (λ v_=>(.rows 1 (2*sz) v_ 77 (0,0):Blk)) (show (mU [.int .u64 0])=(iM (JL xs sz 0)) from FT xs sz))<|aan (σ:=Nat) (λ i=>⟨[(0,vS q 0 xs.length c),(4,vI (sz:Int)),(5,vP (n3+0) 0),(31,vS q 0 xs.length c),(32,vI (xs.length:Int)),(33,vI (i:Int))],[((n3+0),.lit [vI (aA xs.length:Int),vS (n1+0) 0 xs.length xs.length,vS (n2+0) 0 (2*sz) (2*sz)] 353 (0,0)),((n2+0),.rows 1 (2*sz) (iM (JL xs sz i)) 77 (0,0)),((n1+0),.rows 1 xs.length (aM xs) 3 (0,0))],[],i <= xs.length,xs.length-i⟩) 0 [0,1,2] [] (aaU _) ?_;rintro i hI4 XI;refine ae 6 [] λ _=>aal ((i:Int)<(xs.length:Int)) 34 (λ h6=>?_) λ h6=>?_
  ·refine ai 14 [.ix i,.rorow 0 i 0] [(0+i*1)=i*1+0 /\ i<c,(i:Int)=((i:Nat):Int) /\ i<xs.length] λ _=>aak [11] []<|aF [] [0,4,5,7,8,1,6,2,3] [.nw,.own 0] [bm ((sz:Int)+(i:Int))]<|aac [] 9 (λ X_=>(mO (i:Int) (xs.getD i 0) _))<|aF [] [10] [.ix (sz+i)] [(sz:Int)+(i:Int)=(((sz+i):Nat):Int) /\ (sz+i)<(2*sz)]<|aae 11 (eh [] [.row 1 (sz+i) 0] [(0+(sz+i)*1)=(sz+i)*1+0 /\ (sz+i)<(2*sz)] λ _=>?_);refine aad<|ai 6 [.nw] [bm ((i:Int)+1)] λ _=>ez 1 (congrArg (λ v_=>(.rows 1 (2*sz) v_ 77 (0,0):Blk)) (show (eF (iM (JL xs sz i)) (sz+i) 0 (.int .u64 (aI (i:Int) (xs.getD i 0))))=(iM (JL xs sz (i+1))) from (tI _ _ _))) ?_;refine XI (i+1) [0,1,2] [] ?_
   try dsimp only
   exact⟨by omega,by omega⟩
  ·obtain rfl:i=xs.length:=by omega
   refine ae 8 [] λ _=>aah (JN (⟨#[101,109,112,116,121]⟩) _ (by decide))<|ae 12 [] λ _=>ez 1 (congrArg (λ v_=>(.rows 1 (2*sz) v_ 77 (0,0):Blk)) (show (iM (JL xs sz xs.length))=(iM (FS xs sz (xs.length-xs.length))) from (by rw[Nat.sub_self];rfl)))<|aan (σ:=Nat) (λ j=>⟨[(4,vI (sz:Int)),(5,vP (n3+0) 0),(8,.int .u64 (wD (⟨#[101,109,112,116,121]⟩) [])),(9,vI (j:Int))],[((n3+0),.lit [vI (aA xs.length:Int),vS (n1+0) 0 xs.length xs.length,vS (n2+0) 0 (2*sz) (2*sz)] 353 (0,0)),((n2+0),.rows 1 (2*sz) (iM (FS xs sz (j-xs.length))) 77 (0,0)),((n1+0),.rows 1 xs.length (aM xs) 3 (0,0))],[],xs.length <= j /\ j <= sz,sz-j⟩) xs.length [0,1,2] [] (⟨aaS _,by omega⟩) ?_;rintro j ⟨hj_,anc⟩ XH;refine ae 8 [] λ _=>aal ((j:Int)<(sz:Int)) 55 (λ h9=>?_) λ h9=>?_
   ·refine ai 24 [.own 0,.nw,.ix (sz+j),.row 1 (sz+j) 0,.nw] [bm ((j:Int)+1),(0+(sz+j)*1)=(sz+j)*1+0 /\ (sz+j)<(2*sz),(sz:Int)+(j:Int)=(((sz+j):Nat):Int) /\ (sz+j)<(2*sz),bm ((sz:Int)+(j:Int))] λ _=>ez 1 (congrArg (λ v_=>(.rows 1 (2*sz) v_ 77 (0,0):Blk)) (show (eF (iM (FS xs sz (j-xs.length))) (sz+j) 0 (.int .u64 (wD (⟨#[101,109,112,116,121]⟩) [])))=(iM (FS xs sz (j+1-xs.length))) from (by rw[tI,<- Mo (by omega)];rfl))) ?_;refine XH (j+1) [0,1,2] [] ?_
    try dsimp only
    exact⟨⟨by omega,by omega⟩,by omega⟩
   ·obtain rfl:sz=j:=by omega
    refine ai 15 [.nw] [bm ((sz:Int)-1)] λ _=>ez 1 (congrArg (λ v_=>(.rows 1 (2*sz) v_ 77 (0,0):Blk)) (show (iM (FS xs sz (sz-xs.length)))=(iM (nC xs sz (sz-1-(sz-1)))) from (by rw[Nat.sub_self];rfl)))<|aS 10 (congrArg (λ v_=>(vI v_:Value)) (show (sz:Int)-1=((sz-1:Nat):Int) by omega))<|aan (σ:=Nat) (λ k=>⟨[(5,vP (n3+0) 0),(10,vI (k:Int))],[((n3+0),.lit [vI (aA xs.length:Int),vS (n1+0) 0 xs.length xs.length,vS (n2+0) 0 (2*sz) (2*sz)] 353 (0,0)),((n2+0),.rows 1 (2*sz) (iM (nC xs sz (sz-1-k))) 77 (0,0)),((n1+0),.rows 1 xs.length (aM xs) 3 (0,0))],[],k+1 <= sz,k⟩) (sz-1) [0,1,2] [] (by omega) ?_;rintro k anZ Vn;refine ae 7 [] λ _=>aal ((k:Int) >= 1) 70 (λ TH=>?_) λ TH=>?_
    ·refine ae 5 [] λ _=>aak [24] []<|aF [] [0,4,5,9,13,17,1,6,10,14,18,2,7,15,19,3,8,16,11,20,12,21] [.nw,.nw,.nw,.own 0,.own 0,.own 0,.ix (2*k),.ix (2*k+1),.row 1 (2*k) 0,.row 1 (2*k+1) 0] [(0+(2*k+1)*1)=(2*k+1)*1+0 /\ (2*k+1)<(2*sz),(0+(2*k)*1)=(2*k)*1+0 /\ (2*k)<(2*sz),(2*(k:Int))+1=(((2*k+1):Nat):Int) /\ (2*k+1)<(2*sz),2*(k:Int)=(((2*k):Nat):Int) /\ (2*k)<(2*sz),bm ((2*(k:Int))+1),bm (2*(k:Int)),bm (2*(k:Int))]<|aac [] 22 (λ X_=>(qo ((nC xs sz (sz-1-k)) (2*k)) ((nC xs sz (sz-1-k)) (2*k+1)) _))<|aF [] [23] [.ix k] [(k:Int)=((k:Nat):Int) /\ k<(2*sz)]<|aae 24 (eh [] [.row 1 k 0] [(0+k*1)=k*1+0 /\ k<(2*sz)] λ _=>?_);refine aad<|ai 7 [.nw] [bm ((k:Int)-1)] λ _=>ez 1 (congrArg (λ v_=>(.rows 1 (2*sz) v_ 77 (0,0):Blk)) (show (eF (iM (nC xs sz (sz-1-k))) k 0 (.int .u64 (nB ((nC xs sz (sz-1-k)) (2*k)) ((nC xs sz (sz-1-k)) (2*k+1)))))=(iM (nC xs sz (sz-1-(k-1)))) from (by rw[tI,Mp (by omega) (by omega)])))<|aS 10 (congrArg (λ v_=>(vI v_:Value)) (show (k:Int)-1=((k-1:Nat):Int) by omega)) ?_;refine Vn (k-1) [0,1,2] [] ?_
     try dsimp only
     exact⟨by omega,by omega⟩
    ·obtain rfl:k=0:=by omega
     refine ae 12 [] λ _=>aap [] [0,2,1] [] (v:=vP (n3+0) 0) (H':=[((n3+0),.lit [vI (aA xs.length:Int),vS (n1+0) 0 xs.length xs.length,vS (n2+0) 0 (2*sz) (2*sz)] 353 (0,0)),((n1+0),.rows 1 xs.length (aM xs) 3 (0,0)),((n2+0),.rows 1 (2*sz) (iM (nC xs sz (sz-1-0))) 77 (0,0))]) ?_;subst C_;exact⟨(_,_,_),rfl,rfl⟩
 ·intro Y0;refine fe 3 6 ?_ ?_
  ·refine eh [] [.mk xs.length xs.length] [(xs.length:Int)=((xs.length:Nat):Int) /\ (xs.length:Int)=((xs.length:Nat):Int) /\ xs.length <= xs.length /\ 8*xs.length <= 140737488355328 /\ 1=1 /\ xs.length <= 9223372036854775807] λ n14=>aae 6 (eh [] [.mk (2*sz) (2*sz)] [2*(sz:Int)=(((2*sz):Nat):Int) /\ 2*(sz:Int)=(((2*sz):Nat):Int) /\ (2*sz) <= (2*sz) /\ 8*(2*sz) <= 140737488355328 /\ 1=1 /\ (2*sz) <= 9223372036854775807] λ n15=>?_);refine aae 7 (aag [] [] λ _=>?_);refine aae 8 (aag [] [] λ n16=>?_);refine aae 9 (aag [] [] λ _=>?_);exact Y0 ⟨n14,n15,n16⟩ [0,1,2] []
  ·refine eh [] [.mk (2*sz) (2*sz)] [2*(sz:Int)=(((2*sz):Nat):Int) /\ 2*(sz:Int)=(((2*sz):Nat):Int) /\ (2*sz) <= (2*sz) /\ 8*(2*sz) <= 140737488355328 /\ 1=1 /\ (2*sz) <= 9223372036854775807] λ n17=>aae 3 (eh [] [.mk xs.length xs.length] [(xs.length:Int)=((xs.length:Nat):Int) /\ (xs.length:Int)=((xs.length:Nat):Int) /\ xs.length <= xs.length /\ 8*xs.length <= 140737488355328 /\ 1=1 /\ xs.length <= 9223372036854775807] λ n18=>?_);refine aae 7 (aag [] [] λ _=>?_);refine aae 8 (aag [] [] λ n19=>?_);refine aae 9 (aag [] [] λ _=>?_);exact Y0 ⟨n18,n17,n19⟩ [0,2,1] []
theorem FV(t cb nb n c:Nat)(h:Int)(f:Nat -> Int)(F:HL)(ht:(t,.lit [vI h,vS cb 0 n n,vS nb 0 c c] 353 (0,0))∈F)(hn:(nb,.rows 1 c (iM f) 77 (0,0))∈F)(hc:2 <= c):Sp Tryz.prog 182 #[vP t 0] [] F (λ u H'=>u=.int .u64 (f 1) /\ H'=[]):=by
 refine aas Tryz.func182 rfl (mc ht (mc hn mn)) (A:=[]) (Ts:=[]) rfl λ w0=>?_;refine ai 16 [.ro 0,.ix 1,.rorow 1 1 0] [(0+1*1)=1*1+0 /\ 1<c,1=((1:Nat):Int) /\ 1<c] λ _=>?_;exact aap [] [] [] ⟨rfl,rfl⟩
theorem qp(q c:Nat)(xs:List Int)(F:HL)(hq:(q,.rows 1 c (aM xs) 3 (0,0))∈F)(hc:xs.length <= c)(hl:xs.length <= 1000000):Sp Tryz.prog 117 #[vS q 0 xs.length c] [] F (λ u H'=>u=.int .u64 (gx xs) /\ H'=[]):=by
 refine aas Tryz.func117 rfl (mc hq mn) (A:=[]) (Ts:=[]) rfl λ w0=>?_;refine ae 8 [] λ _=>aai (Hp:=[]) (Tp:=[]) [] [] (zV q c xs _ (aq hq) hc hl) ?_;rintro _ ⟨t1,c2,n3⟩ rfl;refine aah (FV t1 c2 n3 xs.length (2*kO xs.length) (aA xs.length) (nC xs (kO xs.length) (kO xs.length-1)) _ (au 0) (au 2) (by have:=(jl hl).2.2.1;omega))<|ae 3 [] λ _=>?_;exact aap [] [] [] ⟨rfl,rfl⟩
section
variable {r:Option Nat} {P:Program} {N:Nat} {D:List Deferred} {F:HL} {w0:World} {R:HL} {s:Cfg} {Q:Exit -> Act -> World -> Prop}
def SM(K:Act -> World -> Prop)(s:Cfg):Cfg:=match s with
 | ⟨.code c,k,L,A,Ts⟩=>⟨.code c,.met K::k,L,A,Ts⟩
 | s=>s
def JO(s:Cfg):Bool:=match s.c with
 | .code _=>true
 | _=>false
def SN(V:Inv)(s:Cfg):Cfg:=⟨.ex .normal,s.k,V.L,V.A,V.Ts⟩
theorem RN.cut{σ:Type}(V:σ -> Inv)
  (first:(∀ {s':Cfg} {R':HL} (x':σ) (ip jp:List Nat),(V x').I -> (hm:Ed s'=some (MV N D F w0 V (λ x'=>(V x').I)):=by kernel_rfl) -> (h:wu (V x') ip jp s'=oJ (V x'):=by kernel_rfl) -> (hp:cg ip jp s'=true:=by kernel_rfl) -> RN r P N D F w0 R' s' Q) ->
   RN r P N D F w0 R (SM (MV N D F w0 V (λ x'=>(V x').I)) s) Q)
  (rest:∀x,(V x).I -> RN r P N D F w0 R (SN (V x) s) Q) (hc:JO s=true:=by kernel_rfl):RN r P N D F w0 R s Q:=by
 refine⟨λ hR a w h1 h2 h3=>?_⟩;have h4:=(first (λ x' ip jp hi hm h hp=>rK x' ip jp hi hm h hp)).h hR;obtain⟨c,k,L,A,Ts⟩:=s;unfold JO at hc;split at hc
 case h_2=>cases hc
 rename_i c' e1;simp only at e1;subst e1;refine wpIn_mono (h4 a w h1 h2 h3) λ e a w q=>?_;cases e with
 | normal =>
  obtain⟨x,hI,m1,m2,m3⟩:=q;exact(rest x hI).h hR a w m1 m2 m3
 | exit id=>exact q
 | goto l=>exact q
 | ret=>exact q
 | panic ch=>exact q
 | outgrown=>exact q
end
section
variable (xs:List Int) (sz:Nat)
theorem NM:∀i j,JL xs sz i (sz+j)=if j<i then aI (j:Int) (xs.getD j 0) else 0
 | 0,j=>by rw[if_neg (Nat.not_lt_zero _)];rfl
 | i+1,j=>by
  rw[JL,tH]
  by_cases h:j=i
  ·subst h;rw[if_pos rfl,if_pos (by omega)]
  ·rw[if_neg (by omega),NM i j]
   by_cases h2:j<i
   ·rw[if_pos h2,if_pos (by omega)]
   ·rw[if_neg h2,if_neg (by omega)]
theorem NO:∀m j,FS xs sz m (sz+j)=if xs.length <= j /\ j<xs.length+m then tG else JL xs sz xs.length (sz+j)
 | 0,j=>by rw[if_neg (by omega)];rfl
 | m+1,j=>by
  rw[FS,tH]
  by_cases h:j=xs.length+m
  ·subst h;rw[if_pos rfl,if_pos (by omega)]
  ·rw[if_neg (by omega),NO m j]
   by_cases h2:xs.length <= j /\ j<xs.length+m
   ·rw[if_pos h2,if_pos (by omega)]
   ·rw[if_neg h2,if_neg (by omega)]
theorem DG(m k:Nat)(h:k≠sz-1-m):nC xs sz (m+1) k=nC xs sz m k:=by rw[nC,tH,if_neg h]
theorem DH:∀m j,m <= sz-1 -> 0<sz -> nC xs sz m (sz+j)=FS xs sz (sz-xs.length) (sz+j)
 | 0,_,_,_=>rfl
 | m+1,j,h,h0=>by rw[DG xs sz m _ (by omega),DH m j (by omega) h0]
theorem xj(m k:Nat)(hk:sz <= k+m):∀d,m+d <= sz -> nC xs sz (m+d) k=nC xs sz m k
 | 0,_=>rfl
 | d+1,h=>by
  rw[<- Nat.add_assoc,DG xs sz (m+d) k (by omega),xj m k hk d (by omega)]
def rC(k:Nat):Int:=nC xs sz (sz-1) k
theorem zW(h:xs.length <= sz){j:Nat}(hj:j<sz):rC xs sz (sz+j)=if j<xs.length then aI (j:Int) (xs.getD j 0) else tG:=by
 unfold rC;rw[DH xs sz _ _ (aaS _) (by omega),NO,NM]
 by_cases h1:j<xs.length
 ·rw[if_neg (by omega),if_pos h1,if_pos h1]
 ·rw[if_pos (by omega),if_neg h1]
theorem zX{k:Nat}(h1:1 <= k)(hk:k<sz):rC xs sz k=nB (rC xs sz (2*k)) (rC xs sz (2*k+1)):=by
 have key:∀q,k+1 <= q -> rC xs sz q=nC xs sz (sz-1-k) q:=λ q hq=>by
  unfold rC;have:=xj xs sz (sz-1-k) q (by omega) k (by omega);rwa [show sz-1-k+k=sz-1 by omega] at this
 have h2:rC xs sz k=nC xs sz (sz-1-k+1) k:=by
  unfold rC;have:=xj xs sz (sz-1-k+1) k (by omega) (k-1) (by omega);rwa [show sz-1-k+1+(k-1)=sz-1 by omega] at this
 rw[h2,key (2*k) (by omega),key (2*k+1) (by omega),nC,tH,show sz-1-(sz-1-k)=k by omega,if_pos rfl]
def lG:Nat -> Nat -> Int
 | 0,i=>if i<xs.length then aI (i:Int) (xs.getD i 0) else tG
 | j+1,f=>nB (lG j f) (lG j (f+2 ^ j))
end
theorem qr(xs:List Int)(h:Nat)(hn:xs.length <= 2 ^ h):∀j d p,j+d=h -> p<2 ^ d -> rC xs (2 ^ h) (2 ^ d+p)=lG xs j (p*2 ^ j)
 | 0,d,p,e,hp=>by
  obtain rfl:d=h:=by omega
  rw[zW xs _ hn hp,lG];simp
 | j+1,d,p,e,hp=>by
  have h2:2 ^ (d+1) <= 2 ^ h:=Nat.pow_le_pow_right (by omega) (by omega);have h3:0<2 ^ d:=Nat.two_pow_pos d;rw[Nat.pow_succ] at h2;rw[zX xs _ (by omega) (by omega),lG];have e1:2*(2 ^ d+p)=2 ^ (d+1)+2*p:=by rw[Nat.pow_succ];omega
  have e2:2*(2 ^ d+p)+1=2 ^ (d+1)+(2*p+1):=by rw[Nat.pow_succ];omega
  rw[e1,show 2 ^ (d+1)+2*p+1=2 ^ (d+1)+(2*p+1) by omega,qr xs h hn j (d+1) (2*p) (by omega) (by rw[Nat.pow_succ];omega),qr xs h hn j (d+1) (2*p+1) (by omega) (by rw[Nat.pow_succ];omega)];have e3:2*p*2 ^ j=p*2 ^ (j+1):=by rw[Nat.pow_succ,Nat.mul_comm 2 p,Nat.mul_assoc,Nat.mul_comm 2]
  have e4:(2*p+1)*2 ^ j=p*2 ^ (j+1)+2 ^ j:=by rw[Nat.add_mul,Nat.one_mul,e3]
  rw[e3,e4]
theorem Px{n i:Nat}(h:n <= 1000000):2 ^ i<n↔i<aA n:=by
 obtain⟨h1,h2,h3,h4⟩:=jl h;constructor
 ·intro hi;apply Classical.byContradiction;intro hc;have:=Nat.pow_le_pow_right (n:=2) (by omega) (show aA n <= i by omega);unfold kO at h2;omega
 ·intro hi;unfold aA at hi
  by_cases hn:n <= 1
  ·rw[if_pos hn] at hi;omega
  ·rw[if_neg hn] at hi;obtain⟨m,e,b2,b3⟩:=JK 64 (n-1) (by omega) (by omega);rw[show Lib.bitLen (n-1)=m+1 from e] at hi;have:=Nat.pow_le_pow_right (n:=2) (by omega) (show i <= m by omega);omega
section
variable {r:Option Nat} {P:Program} {N:Nat} {D:List Deferred} {F:HL} {w0:World} {R:HL} {s:Cfg} {Q:Exit -> Act -> World -> Prop} {hards:List Nat} {Rd:HL}
def Gs(p:Nat)(O:Obj)(s:Cfg):Cfg:=match s with
 | ⟨c,k,L,A,Ts⟩=>⟨c,k,L,match A[p]? with|some x=>aR A p (x.1,.obj O)|none=>A,Ts⟩
end
end Go.Proofs.YtghjbimijeinfaaGreatDoor
