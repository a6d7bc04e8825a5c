import Derived.Test.YtcfajdgeejeieaaGreatDoorV45
import Derived.Test.YtcfajdgeejeieaaGreatDoorV26
import Derived.Test.YtcfajdgeejeieaaGreatDoorV43
import Derived.Test.YtcfajdgeejeieaaGreatDoorV42
import Derived.Laws.IdiomCopy
import Derived.Laws.IdiomStrings
set_option maxHeartbeats 4000000
set_option maxRecDepth 100000
set_option linter.unusedSimpArgs false
set_option linter.unusedVariables false
namespace Go.Proofs.YtcfajdgeejeieaaGreatDoor
open Go.RowKit
def bndN (p n r f:Int):Int:=IntKind.i64.wrap ((IntKind.i64.wrap ((IntKind.i64.wrap ((IntKind.i64.wrap ((IntKind.i64.wrap (p+(IntKind.i64.wrap ((IntKind.i64.wrap ((IntKind.i64.wrap (p+1))+n)) * (IntKind.i64.wrap (f+3))))))+(IntKind.i64.wrap (2 * n))))+3))+(IntKind.i64.wrap ((IntKind.i64.wrap ((IntKind.i64.wrap (r * n)) * (IntKind.i64.wrap (n - 1)))).tdiv 2))))+(IntKind.i64.wrap (n * (IntKind.i64.wrap (n+1)))))
theorem bound_ok {S:Setup} (hS:SetV S):l0 S.players S.nb S.rounds 0 <= bndN S.players S.nb S.rounds S.fuel /\ bndN S.players S.nb S.rounds S.fuel <= 650:=by
  have hp:=hS.pl
  have hn:=hS.nb
  have hr:=hS.ro
  rw [hS.fu]
  have key:∀ p:Fin 3,∀ n:Fin 5,∀ r:Fin 3,l0 ((p.1+1:Nat):Int) ((n.1+1:Nat):Int) ((r.1+1:Nat):Int) 0 <= bndN ((p.1+1:Nat):Int) ((n.1+1:Nat):Int) ((r.1+1:Nat):Int) 60 /\ bndN ((p.1+1:Nat):Int) ((n.1+1:Nat):Int) ((r.1+1:Nat):Int) 60 <= 650:=by decide +kernel
  have:=key ⟨S.players.toNat - 1,by omega⟩ ⟨S.nb - 1,by omega⟩ ⟨S.rounds.toNat - 1,by omega⟩
  dsimp only at this
  rwa [show ((S.players.toNat - 1+1:Nat):Int)=S.players by omega,show S.nb - 1+1=S.nb by omega,show ((S.rounds.toNat - 1+1:Nat):Int)=S.rounds by omega] at this
theorem setV {xs:List Int} {F:HL} {A:Option Addr} {n:Nat} (hl:ArgL F A n xs) {S:Setup} {T:HL} (h:SetG xs S T):SetV S:=by
  have h1:=sCnt_bd hl
  have h2:=sPl_bd hl
  have hn:=h.nb
  have k2:=kv_bd hl 2
  obtain ⟨e1,e2,e3,e4,e5,e6,e7,e8⟩:=h.nums
  exact ⟨by rw [h.pl];exact h2,by omega,by rw [e7];omega,e8⟩
theorem vgetD_ne {l:List Int} {i j:Nat} {v:Int} (h:i ≠ j):(l.set i v).getD j 0=l.getD j 0:=by
  rw [List.getD_eq_getElem?_getD,List.getD_eq_getElem?_getD,List.getElem?_set_ne h]
theorem viniL_low {S:Setup} (hp:0 <= S.players) {j:Nat} (hj:j < 48):∀ i,i <= S.nb -> (iniL S i).getD j 0=0
  | 0,_=>by
    rw [iniL,List.getD_eq_getElem?_getD,List.getElem?_replicate]
    split <;> rfl
  | i+1,hi=>by
    have hb:bodyAt S (i:Int)=48+4 * S.players+8 * (i:Int):=by
      rcases vbodyAt hp (i:Int) with e | ⟨_,_,e⟩
      · unfold bodyAt at e
        rw [if_neg (by omega),if_neg (by omega)] at e;omega
      · exact e
    rw [iniL,vgetD_ne (by omega),vgetD_ne (by omega),vgetD_ne (by omega),vgetD_ne (by omega),vgetD_ne (by omega),vgetD_ne (by omega)]
    exact viniL_low hp hj i (by omega)
structure TE2 (S:Setup) (t:Int) (M:MemS):Prop where
  len:(M.cs.length:Int)=sizeOf S
  z:∀ k:Int,1 <= k -> k <= 10 -> M.get k=0
  t0:M.get 0=t
theorem ini_te2 {S:Setup} (hS:SetV S):TE2 S 0 ⟨iniL S S.nb,[],0⟩:=by
  have hp:=hS.pl
  have hlen:(((⟨iniL S S.nb,[],0⟩:MemS).cs.length:Nat):Int)=sizeOf S:=by
    show ((iniL S S.nb).length:Int)=_
    rw [iniL_len];unfold sizeOf;omega
  have g:∀ k:Int,0 <= k -> k < 48 -> (⟨iniL S S.nb,[],0⟩:MemS).get k=0:=λ k h0 h1=>by
    unfold MemS.get
    split
    · exact viniL_low (by omega) (by omega) S.nb (Nat.le_refl _)
    · rfl
  exact ⟨hlen,λ k h1 h2=>g k (by omega) (by omega),g 0 (by omega) (by omega)⟩
theorem TE2.tv {S:Setup} (hS:SetV S) {t:Int} (ht:0 <= t /\ t <= 1000) {M:MemS} (h:TE2 S t M) (ins:Nat -> Inp):TV S ins M /\ lfM S M=l0 S.players S.nb S.rounds 0 /\ stV M:=by
  have h1:=h.z 1 (by omega) (by omega)
  have h2:=h.z 2 (by omega) (by omega)
  have hp:=hS.pl
  refine ⟨⟨h.len,by rw [h.t0];omega,by rw [h1,h2];exact .inl ⟨rfl,by omega,by omega⟩,λ q hq=>by rw [h1,if_pos rfl,h2] at hq;omega,.inl ⟨h1,h2⟩⟩,?_,h1,h2⟩
  unfold lfM
  rw [h1,h2];rfl
theorem tickE {S:Setup} (hS:SetV S) {g:Gm} (hg:g.S=S) (hni:S.players <= g.ni) {t:Int} (ht:0 <= t /\ t <= 1000) {M:MemS} (h:TE2 S t M):∃ m,((m+1:Nat):Int) <= bndN S.players S.nb S.rounds S.fuel /\ goodRun g (m+1) M /\ TE2 S (t+1) (runM g (m+1) M) /\
    Numb t 0 (effsV g (m+1) M) /\ (runM g (m+1) M).get 11=((effsV g (m+1) M).length:Int) /\ ((effsV g (m+1) M).length:Int) <= 40:=by
  obtain ⟨h1,h2,h3⟩:=h.tv hS ht (λ q=>g.ins.getD (g.io+q) dI)
  have hb:=bound_ok hS
  have hpos:=lfV_pos hS.pl ⟨by have:=hS.nb;omega,by have:=hS.nb;omega⟩ hS.ro h1.ct
  unfold lfM at h2
  obtain ⟨m,a1,a2,a3,a4,a5,a6,a7,a8⟩:=tick_ok hS hg (λ _ _=>rfl) hni (l0 S.players S.nb S.rounds 0).toNat M h1 (by unfold lfM;omega)
  rw [if_pos h3] at a6 a7
  rw [h.t0] at a5 a6
  exact ⟨m,by omega,a2,⟨a4,a3,a5⟩,a6,by rw [a7];omega,by omega⟩
theorem SetEq.pl {S S1:Setup} (h:SetEq S S1):S1.players=S.players:=h.nums.1
theorem SetEq.nb {S S1:Setup} (h:SetEq S S1):S1.nb=S.nb:=h.nums.2.1
theorem SetEq.size {S S1:Setup} (h:SetEq S S1):sizeOf S1=sizeOf S:=by unfold sizeOf;rw [h.pl,h.nb]
theorem SetEq.setV {S S1:Setup} (h:SetEq S S1) (hV:SetV S):SetV S1:=by
  obtain ⟨e1,e2,_,_,_,_,_,_,_,_,e3,e4⟩:=h.nums
  exact ⟨by rw [e1];exact hV.pl,by rw [e2];exact hV.nb,by rw [e3];exact hV.ro,by rw [e4];exact hV.fu⟩
theorem TE2.eq {S S1:Setup} (h:SetEq S S1) {t:Int} {M:MemS} (hT:TE2 S t M):TE2 S1 t M:=⟨by rw [h.size];exact hT.len,hT.z,hT.t0⟩
theorem wrong0 {pl:Int} {n:Nat} {xs:List Inp} {now:Int} (h1:(n:Int)=pl) (h2:∀ k,k < n -> okIn (xs.getD k dI)) (h3:now < 6000):wrongE pl n xs now=0:=by
  unfold wrongE
  rw [if_pos h1,if_pos h2,if_neg (by omega)]
theorem tk_ok1 {S1:Setup} (hV:SetV S1) {t:Int} (ht:0 <= t /\ t <= 1000) {M:MemS} (hT:TE2 S1 t M) {xs:List Inp} (h1:(xs.length:Int)=S1.players) (h2:∀ k,k < xs.length -> okIn (xs.getD k dI)) (j:Nat × Int):TkOk S1 j xs M /\ TE2 S1 (t+1) (tkM (gmX S1 j xs) M):=by
  obtain ⟨m,a1,a2,a3,_⟩:=tickE hV (g:=gmX S1 j xs) rfl (by show S1.players <= (xs.length:Int);omega) ht hT
  have hb:=(bound_ok hV).2
  refine ⟨⟨⟨m,by omega,a2⟩,by rw [hT.t0];exact ht.1,by rw [hT.t0];exact wrong0 h1 h2 (by omega)⟩,?_⟩
  rw [<- (tk_of (by omega) a2).1]
  exact a3
def RowOk (pl:Int) (xs:List Inp):Prop:=(xs.length:Int)=pl /\ ∀ k,k < xs.length -> okIn (xs.getD k dI)
theorem rowOf_ok {n:Int} (h:0 <= n):okIn (rowOf n):=by
  unfold okIn rowOf
  dsimp only
  split <;> omega
theorem gen_row {F:HL} {A:Option Addr} {n:Nat} {xs:List Int} (hl:ArgL F A n xs) {pl:Int} (hp:0 <= pl) (t:Int):RowOk pl (rowL pl xs t pl.toNat):=by
  refine ⟨by rw [rowL_len];omega,λ k hk=>?_⟩
  rw [rowL_len] at hk
  rw [rowL_get hk]
  exact rowOf_ok (rowN_bd hl pl t k).1
theorem gen_rows {F:HL} {A:Option Addr} {n:Nat} {xs:List Int} (hl:ArgL F A n xs) {pl:Int} (hp:0 <= pl) (cnt i:Nat) (hi:i < cnt):RowOk pl ((rowsG pl xs cnt).getD i []):=by
  rw [rowsG_get hi]
  exact gen_row hl hp _
theorem ini_eq {S S1:Setup} (hV:SetV S) (he:SetEq S S1):TE2 S1 0 ⟨iniL S S.nb,[],0⟩:=(ini_te2 hV).eq he
section
variable {S S1:Setup} {rs_:List Bx} {ds_:List Dr} {bp n cap:Nat} {j:Nat × Int} {A:Option Addr} {rs:List Rw} {xss:List (List Inp)} {F:HL}
end
theorem SlIs.rowN {α:Type} {e:Enc α} {T:TypeId} {l:List α} {A:Option Addr} {cap n:Nat} {Hl F:HL} (h:SlIs e T l A cap Hl) (hF:∀ x ∈ Hl,x ∈ F) (hn:l.length=n):RowL e T F A n l:=hn ▸ h.toRowL hF
theorem take_drop_get {α:Type} {l r:List α} {o:Nat} (h:(l.drop o).take r.length=r) {k:Nat} (hk:k < r.length) (d:α):l.getD (o+k) d=r.getD k d:=by
 have h1:((l.drop o).take r.length)[k]?=r[k]?:=by rw [h]
 rw [List.getElem?_take,if_pos hk,List.getElem?_drop] at h1
 rw [List.getD_eq_getElem?_getD,List.getD_eq_getElem?_getD,h1]
open Go.Shelf
section
variable {r:Option Nat} {P:Program} {N:Nat} {D:List Deferred} {F:HL} {w0:World} {R:HL} {s:Cfg} {Q:Exit -> Act -> World -> Prop}
end
def slA (A:Option Addr) (l sz cap:Nat):Option Addr:=if cap=l then A else A.map (·.add (l * sz))
def slV (P:Program) (o:Oper) (L:FL):Option (Option Addr × Nat × Nat × Int × Nat):=match o.guard,o.op with
  | none,.slice t x (some lo) none none=>match inL L x && inL L lo,P.underlying t,rho L x,rho L lo with
    | true,some (.slice elem),.slice a len cap,.int .i64 l=>match P.info? elem with
      | some inf=>some (a,len,cap,l,inf.size)
      | none=>none
    | _,_,_,_=>none
  | _,_=>none
def slK (P:Program) (N:Nat) (oo:Option Oper) (s:Cfg):Option (Option Addr × Nat × Nat × Int × Nat):=match oo with
  | some o=>match slV P o s.L,(putL N o.dst undef s.L).isSome with
    | some x,true=>some x
    | _,_=>none
  | none=>none
section
variable {r:Option Nat} {P:Program} {N:Nat} {D:List Deferred} {F:HL} {w0:World} {R:HL} {s:Cfg} {Q:Exit -> Act -> World -> Prop}
theorem slV_spec {o:Oper} {L:FL} {A:Option Addr} {n cap sz:Nat} {l:Int} (h:slV P o L=some (A,n,cap,l,sz)) :
    ∃ t x lo elem inf,o.guard=none /\ o.op=.slice t x (some lo) none none /\ (inL L x && inL L lo)=true /\ P.underlying t=some (.slice elem) /\ rho L x=.slice A n cap /\ rho L lo=.int .i64 l /\ P.info? elem=some inf /\ inf.size=sz:=by
  unfold slV at h
  split at h
  case h_2=>cases h
  rename_i t x lo hg hop
  split at h
  case h_2=>cases h
  rename_i elem a len cp l' h1 h2 h3 h4
  split at h
  case h_2=>cases h
  rename_i inf h5
  simp only [Option.some.injEq,Prod.mk.injEq] at h
  obtain ⟨e1,e2,e3,e4,e5⟩:=h
  subst e1;subst e2;subst e3;subst e4
  exact ⟨t,x,lo,elem,inf,hg,hop,h1,h2,h3,h4,h5,e5⟩
theorem RN.slA {A:Option Addr} {n cap l sz:Nat} {li:Int} (hl:li=(l:Int)) (h1:l <= n) (h2:n <= cap) (hk:RN r P N D F w0 R (putC N (.slice (slA A l sz cap) (n - l) (cap - l)) s) Q)
    (h:slK P N (opAt s) s=some (A,n,cap,li,sz):=by kernel_rfl):RN r P N D F w0 R s Q:=by
  unfold slK at h
  split at h
  case h_2=>cases h
  rename_i o q0
  split at h
  case h_2=>cases h
  rename_i y hv hp
  simp only [Option.some.injEq] at h
  rw [h] at hv
  clear h
  obtain ⟨t,x,lo,elem,inf,q1,q2,q3,q4,q5,q6,q7,q8⟩:=slV_spec hv
  refine ⟨λ hR aa w hF hRel hB=>?_⟩
  obtain ⟨c,k,L,Bs,Ts⟩:=s
  unfold opAt at q0
  cases c with
  | code c=>cases q0
  | ex c=>cases q0
  | drw _ _=>cases q0
  | ops ops pc =>
    simp only at q0 q3 q5 q6 hp hF hRel
    have hdrop:ops.toList.drop pc=o :: ops.toList.drop (pc+1):=by
      have hlt:pc < ops.toList.length:=(List.getElem?_eq_some_iff.1 q0).1
      rw [List.drop_eq_getElem_cons hlt,(List.getElem?_eq_some_iff.1 q0).2]
    show wpListIn _ _ _ _ _ _ _ _
    rw [hdrop,wpListIn,if_pos (by simp [Region.wanted,q1])]
    refine ⟨λ _ _=>trivial,?_⟩
    have key:gives P o aa w λ u w'=>u=.slice (slA A l sz cap) (n - l) (cap - l) /\ Rel (ap Bs Ts++F) w' /\ Below 0 w w':=by
      simp only [Bool.and_eq_true] at q3
      have e1:=(hF.eval q3.1).trans q5
      have e2:=(hF.eval q3.2).trans q6
      have k1:=bounds_run (P:=P) (ρ:=aa.eval) (lo:=some lo) (hi:=none) (l:=l) (h:=n) (len:=n) (cap:=cap) (by show bnd _ _ _ _;unfold bnd;simp only [e2];exact hl) rfl h1 h2 w
      have k2:=λ W=>info_run q7 W
      have k3:=λ W=>und_run q4 W
      unfold gives
      have he:(execOp aa.eval o).run P w=.ok (.value (.slice (slA A l sz cap) (n - l) (cap - l))) w:=by
        rw [show Option.map aa.eval none=none from rfl,show Option.map aa.eval (some lo)=some (aa.eval lo) from rfl] at k1
        simp [execOp,q2,Instr.sliceAt,Instr.slice,e1,k3,Go.sizeOf,k2,Sem.run_bind,k1,slA,q8]
      rw [he]
      exact ⟨rfl,hRel,Below.refl _ _⟩
    refine gives_upon (by rw [q2];intro c hc;cases hc) key ?_
    rintro u w' ⟨rfl,hR',hB'⟩
    obtain ⟨L',p1⟩:=putL_some hp (.slice (slA A l sz cap) (n - l) (cap - l))
    have hh:=hk.h hR
    have hpc:putC N (.slice (slA A l sz cap) (n - l) (cap - l)) ⟨.ops ops pc,k,L,Bs,Ts⟩=⟨.ops ops (pc+1),k,L',Bs,Ts⟩:=by
      unfold putC
      simp only [q0,p1]
    rw [hpc] at hh
    exact hh _ w' (hF.put p1) hR' (hB.trans hB')
end
section
variable {α:Type} {e:Enc α} {T:TypeId} {F:HL} {A:Option Addr} {n cap:Nat} {xs:List α} {Hl:HL}
theorem RowL.take (h:RowL e T F A n xs) {k:Nat} (hk:k <= n):RowL e T F A k (xs.take k):=by
  cases h with
  | zero =>
    obtain rfl:k=0:=by omega
    exact .zero _
  | rows q o N full fz n xs hq ho hn hx =>
    refine .rows q o N full fz k _ hq (by omega) (by rw [List.length_take];omega) (λ i hi=>?_)
    rw [hx i (by omega),List.getD_eq_getElem?_getD,List.getD_eq_getElem?_getD,List.getElem?_take,if_pos hi]
theorem SlIs.drop (h:SlIs e T xs A cap Hl) (hF:∀ x ∈ Hl,x ∈ F) (hn:xs.length=n) {k:Nat} (hk:k <= n):RowL e T F (slA A k e.w cap) (n - k) (xs.drop k):=by
  subst hn
  have hr:=h.toRowL hF
  rcases h with ⟨rfl,rfl,rfl,rfl⟩ | ⟨b,o,full,rfl,rfl,h1,h2,h3⟩
  · have:k=0:=by simpa using hk
    subst this
    exact .zero _
  · by_cases hc:cap=k
    · have e1:xs.length - k=0:=by omega
      have e2:xs.drop k=[]:=List.eq_nil_of_length_eq_zero (by rw [List.length_drop];omega)
      rw [e1,e2]
      exact .zero _
    · have e1:slA (some ⟨b,o * e.w,none⟩) k e.w cap=some ⟨b,(o+k) * e.w,none⟩:=by
        unfold slA
        rw [if_neg hc,Option.map_some,add_addN rfl]
        simp [addN,Nat.add_mul]
      rw [e1]
      refine .rows b (o+k) (o+cap) full (0,0) _ _ (hF _ (List.mem_singleton.2 rfl)) (by omega) (by simp) (λ i hi=>?_)
      have h4:((full.drop o).take xs.length)[k+i]?=xs[k+i]?:=by rw [h3]
      rw [List.getElem?_take,if_pos (by omega),List.getElem?_drop] at h4
      rw [List.getD_eq_getElem?_getD,List.getD_eq_getElem?_getD,List.getElem?_drop,<- h4,Nat.add_assoc]
end
section
variable {r:Option Nat} {P:Program} {N:Nat} {D:List Deferred} {F:HL} {w0:World} {R:HL} {s:Cfg} {Q:Exit -> Act -> World -> Prop} {hards:List Nat} {Rd:HL}
theorem RDO.slA {i:Nat} {A:Option Addr} {n cap l sz:Nat} {li:Int} (hl:li=(l:Int)) (h1:l <= n) (h2:n <= cap) (hk:RD r P N D F w0 R hards Rd (dpC N i (.slice (slA A l sz cap) (n - l) (cap - l)) s) Q)
    (h:slK P N (opAtD i s) s=some (A,n,cap,li,sz):=by kernel_rfl) (hx:hards.contains i=false:=by kernel_rfl):RDO r P N D F w0 R hards Rd i s Q:=by
  unfold slK at h
  split at h
  case h_2=>cases h
  rename_i o q0
  split at h
  case h_2=>cases h
  rename_i y hv hp
  simp only [Option.some.injEq] at h
  rw [h] at hv
  clear h
  obtain ⟨t,x,lo,elem,inf,q1,q2,q3,q4,q5,q6,q7,q8⟩:=slV_spec hv
  obtain ⟨c,k,L,Bs,Ts⟩:=s
  unfold opAtD at q0
  cases c with
  | code c=>cases q0
  | ex c=>cases q0
  | ops _ _=>cases q0
  | drw ops li2 =>
    refine ⟨λ hR=>?_⟩
    simp only at q0 q3 q5 q6 hp
    have hpc:∀ v L',putL N o.dst v L=some L' -> dpC N i v ⟨.drw ops li2,k,L,Bs,Ts⟩=⟨.drw ops (setAt li2 i true),k,L',Bs,Ts⟩:=by
      intro v L' hl
      unfold dpC
      simp only [q0,hl]
    refine (RDO.give (Q:=Q) (by simpa using q0) (σ:=Unit) (λ u _=>u=.slice (slA A l sz cap) (n - l) (cap - l)) (λ _=>ap Bs Ts) hp (λ a hF=>⟨by simp [Region.wanted,q1],λ w hRel hB=>?_⟩) (λ _=>⟨λ _=>⟨[],rfl⟩,λ hi=>?_⟩) ?_:RDO r P N D F w0 R hards Rd i ⟨.drw ops li2,k,L,Bs,Ts⟩ Q).h hR
    · simp only [Bool.and_eq_true] at q3
      have e1:=(hF.eval q3.1).trans q5
      have e2:=(hF.eval q3.2).trans q6
      have k1:=bounds_run (P:=P) (ρ:=a.eval) (lo:=some lo) (hi:=none) (l:=l) (h:=n) (len:=n) (cap:=cap) (by show bnd _ _ _ _;unfold bnd;simp only [e2];exact hl) rfl h1 h2 w
      have k2:=λ W=>info_run q7 W
      have k3:=λ W=>und_run q4 W
      unfold gives
      have he:(execOp a.eval o).run P w=.ok (.value (.slice (slA A l sz cap) (n - l) (cap - l))) w:=by
        rw [show Option.map a.eval none=none from rfl,show Option.map a.eval (some lo)=some (a.eval lo) from rfl] at k1
        simp [execOp,q2,Instr.sliceAt,Instr.slice,e1,k3,Go.sizeOf,k2,Sem.run_bind,k1,slA,q8]
      rw [he]
      exact ⟨(),rfl,hRel,Below.refl _ _⟩
    · have h3:hards.contains i=true:=List.contains_iff_mem.2 hi
      rw [hx] at h3
      cases h3
    · rintro u _ rfl L' hl2 hs
      have h3:=hk.h hR
      rw [hpc _ L' hl2] at h3
      exact h3 hs
end
structure Ver where (t:Int) (A:Option Addr) (n c:Nat) (e0 e1 e2:Int)
def verE:Enc Ver:=⟨5,λ p k=>match k with | 0=>vI p.t | 1=>.slice p.A p.n p.c | 2=>vI p.e0 | 3=>vI p.e1 | _=>vI p.e2,⟨0,none,0,0,0,0,0⟩⟩
noncomputable def verEI:TypeInfo:=match Tryz.prog.info? 159 with | some i=>i | none=>⟨.bool,"",0,0,false,0,0,none,false,#[]⟩
noncomputable def verEZ:Value:=match verEI.zero with | some z=>z | none=>.bool false
theorem verEOk:EncOk verE Tryz.prog 159 verEI verEZ where
 info:=by kernel_rfl
 zero:=by kernel_rfl
 size:=by kernel_rfl
 zsize:=by kernel_rfl
 zcell:=λ k hk=>by
  have h:∀ k < 5,verEZ.cells[k]?=some (verE.cell verE.dflt k):=by intro k hk;(iterate 5 (rcases k with _ | k;· kernel_rfl));omega
  exact h k hk
 one:=λ x k=>by unfold verE;dsimp only;split <;> rfl
 bytes:=Nat.le_of_ble_eq_true (by kernel_rfl)
abbrev verB (t:Int) (j:Nat) (A:Option Addr) (c:Nat):Ver:=⟨t,A,lenB j,c,entI j 0,entI j 1,entI j 2⟩
inductive Book2 (tk:Int) (j1 j2 bp:Nat):HL -> Prop
 | mk (A:Option Addr) (c:Nat) (A1 A2:Option Addr) (c1 c2:Nat) (Hl T1 T2:HL) (hs:SlIs verE 159 [verB 0 j1 A1 c1,verB tk j2 A2 c2] A c Hl) (h1:CodT j1 A1 T1) (h2:CodT j2 A2 T2):Book2 tk j1 j2 bp (ap [(bp,.lit [.slice A 2 c] 162 (0,0))] [Hl,T1,T2])
theorem add_run (tk:Int) (htk:0 < tk) (j1 j2 bp q:Nat) (Aa:Option Addr) (ca:Nat) (Tz F:HL) (hj2:j2 < 5) (hE:TabIn F) (h1:CodT j1 Aa Tz):Sp Tryz.prog 40 #[vP bp 0,vI tk,.string (srcBi j2)] (ap [(bp,.lit [vS q 0 1 1] 162 (0,0)),(q,.lit [vI 0,.slice Aa (lenB j1) ca,vI (entI j1 0),vI (entI j1 1),vI (entI j1 2)] 159 (0,0))] [Tz]) F (λ u H'=>∃ x:HL,H'=ap [] [x] /\ (u=vI 0 /\ Book2 tk j1 j2 bp x)):=by
 refine Sp.run Tryz.func40 rfl mn (A:=[(bp,.lit [vS q 0 1 1] 162 (0,0)),(q,.lit [vI 0,.slice Aa (lenB j1) ca,vI (entI j1 0),vI (entI j1 1),vI (entI j1 2)] 159 (0,0))]) (Ts:=[Tz]) rfl λ w0=>?_
 refine RN.go 21 [.own 0] λ _=>RN.draw [] []<|RD.go [] [0,1,5,2,6,3,7,4,8,9,10,11,12,13,14] [.own 0,.own 0,.own 1]<|RD.fin<|RN.go 1 [] λ _=>RN.fx 29 (decide_eq_false (show ¬ tk <= 0 by omega))<|RN.go 6 [] λ _=>RN.ct (Hp:=[]) (Tp:=[]) [] [] (prog_w hj2 _ (ro_ap hE)) ?_
 rintro _ ⟨A1,c2,T3⟩ ⟨rfl,hC4⟩
 dsimp only at hC4
 refine RN.go 19 [.own 0,.own 0,.own 0,.own 0] λ n5=>RN.draw [9,12] []<|RD.go [] [0,1,5,6,2,7,3,4] [.own 0,.own 0,.own 0,.own 0,.own 1]<|RD.one 8 (RDO.ev [] [] λ n7=>?_)
 refine RD.dn 3 (.rows 5 1 (rowE verE [verB 0 j1 Aa ca]) 159 (0,0))<|RD.bt 3<|RD.one 9 (RDO.app [] verEOk ([verB 0 j1 Aa ca]) [verB tk j2 A1 c2] 0 0 rfl (SlIs.one (b:=q)) (Nat.le_of_ble_eq_true rfl) ?_)
 rintro A8 c9 T10 ⟨hs11,hz12⟩
 refine RD.go [] [10,11] []<|RD.one 12 (RDO.ev [] [.own 2] λ _=>?_)
 refine RD.fin<|RN.go 6 [] λ _=>RN.ret [] [2] [0,2,1] (v:=vI 0) (H':=(ap [(bp,.lit [.slice A8 2 c9] 162 (0,0))] [T10,Tz,T3])) ?_
 exact ⟨ap [(bp,.lit [.slice A8 2 c9] 162 (0,0))] [T10,Tz,T3],by simp [ap],rfl,.mk _ _ _ _ _ _ _ _ _ hs11 h1 hC4⟩
theorem add_any {j1 bp:Nat} {TB:HL} (hB:Book1 j1 bp TB) (tk:Int) (htk:0 < tk) (j2:Nat) (F:HL) (hj2:j2 < 5) (hE:TabIn F):Sp Tryz.prog 40 #[vP bp 0,vI tk,.string (srcBi j2)] (ap [] [TB]) F (λ u H'=>∃ x:HL,H'=ap [] [x] /\ (u=vI 0 /\ Book2 tk j1 j2 bp x)):=by
 cases hB with
 | mk q A c T h =>
  rw [ap_one]
  exact add_run tk htk j1 j2 bp q A c T F hj2 hE h
theorem book2_run (n m:Int) (F:HL) (hn:i64r n) (hm:i64r m) (hm0:0 <= m) (hE:TabIn F):Sp Tryz.prog 8 #[vI n,vI m] [] F (λ u H'=>∃ x:Nat × HL,H'=ap [] [x.2] /\ (u=vP x.1 0 /\ Book2 2 (around n 5).toNat (around m 5).toNat x.1 x.2)):=by
 refine Sp.run Tryz.func8 rfl mn (A:=[]) (Ts:=[]) rfl λ w0=>?_
 refine RN.go 8 [] λ _=>RN.cp (source_any n _ hn) ?_
 have hA1:=around_bd (n:=n) hn 5 (by decide)
 refine RN.ct (Hp:=[]) (Tp:=[]) [] [] (pnew_any (around n 5).toNat _ (by omega) (ro_ap hE)) ?_
 rintro _ ⟨b2,T3⟩ ⟨rfl,hB4⟩
 dsimp only at hB4
 refine RN.go 27 [] λ _=>RN.fx 21 (decide_eq_true hm0)<|RN.go 2 [] λ _=>RN.cp (source_any m _ hm) ?_
 have hA5:=around_bd (n:=m) hm 5 (by decide)
 refine RN.ct [] [0] (add_any hB4 2 (by decide) (around m 5).toNat _ (by omega) (ro_ap hE)) ?_
 rintro _ T6 ⟨rfl,hB7⟩
 refine RN.go 13 [] λ _=>RN.ret [] [] [0] (v:=vP b2 0) (H':=(ap [] [T6])) ?_
 exact ⟨(b2,T6),rfl,rfl,hB7⟩
theorem book2_any (n m:Int) (F:HL) (hn:i64r n) (hm:i64r m) (hm0:0 <= m) (hE:TabIn F):Sp Tryz.prog 8 #[vI n,vI m] (ap [] []) F (λ u H'=>∃ x:Nat × HL,H'=ap [] [x.2] /\ (u=vP x.1 0 /\ Book2 2 (around n 5).toNat (around m 5).toNat x.1 x.2)):=book2_run n m F hn hm hm0 hE
theorem at2c0 (q2 q3:Nat) (tk:Int) (bp b o c j1 j2:Nat) (full:List Ver) (Aa Ab:Option Addr) (ca cb:Nat) (t:Int) (F:HL) (hb:(bp,.lit [vS b (o * 5) 2 c] 162 (0,0)) ∈ F) (hq:(b,.rows 5 (o+c) (rowE verE full) 159 (0,0)) ∈ F) (hc:2 <= c) (hg0:full.getD o verE.dflt=verB 0 j1 Aa ca) (hg1:full.getD (1+o) verE.dflt=verB tk j2 Ab cb) (ht:0 <= t) (h2:(q2,.lit [vP bp 0] 35 (0,0)) ∈ F) (h3:(q3,.lit [vI t] 3 (0,0)) ∈ F):Sp Tryz.prog 116 #[vI 0,vP q2 0,vP q3 0] [] F (λ u H'=>u=.bool false /\ H'=[]):=by
 refine Sp.run Tryz.func116 rfl (mc h2 (mc h3 (mc hb (mc hq mn)))) (A:=[]) (Ts:=[]) rfl λ w0=>?_
 refine RN.go 6 [] λ _=>RN.draw [] []<|RD.goP [] [0,4,8,1,2,3,5,6,7] [.ro 0,.ro 1,.ro 2,.rorow 3 o 0] [o * 5=o * 5+0 /\ o < (o+c)]<|RD.sv 12 (congrArg (λ v_:Ver=>vI v_.t) hg0)<|RD.go [] [9,10] []<|RD.fin<|RN.go 1 [] λ _=>RN.ret [] [] [] (v:=.bool (decide (0 > t))) (H':=[]) ?_
 exact ⟨congrArg Value.bool (decide_eq_false (by omega)),rfl⟩
theorem at2c1 (q2 q3:Nat) (tk:Int) (bp b o c j1 j2:Nat) (full:List Ver) (Aa Ab:Option Addr) (ca cb:Nat) (t:Int) (F:HL) (hb:(bp,.lit [vS b (o * 5) 2 c] 162 (0,0)) ∈ F) (hq:(b,.rows 5 (o+c) (rowE verE full) 159 (0,0)) ∈ F) (hc:2 <= c) (hg0:full.getD o verE.dflt=verB 0 j1 Aa ca) (hg1:full.getD (1+o) verE.dflt=verB tk j2 Ab cb) (ht:0 <= t) (h2:(q2,.lit [vP bp 0] 35 (0,0)) ∈ F) (h3:(q3,.lit [vI t] 3 (0,0)) ∈ F):Sp Tryz.prog 116 #[vI 1,vP q2 0,vP q3 0] [] F (λ u H'=>u=.bool (decide (tk > t)) /\ H'=[]):=by
 refine Sp.run Tryz.func116 rfl (mc h2 (mc h3 (mc hb (mc hq mn)))) (A:=[]) (Ts:=[]) rfl λ w0=>?_
 refine RN.go 6 [] λ _=>RN.draw [] []<|RD.goP [] [0,4,8,1,2,3,5,6,7] [.ro 0,.ro 1,.ro 2,.rorow 3 (1+o) 0] [(o * 5+5)=(1+o) * 5+0 /\ (1+o) < (o+c)]<|RD.sv 12 (congrArg (λ v_:Ver=>vI v_.t) hg1)<|RD.go [] [9,10] []<|RD.fin<|RN.go 1 [] λ _=>?_
 exact RN.ret [] [] [] ⟨rfl,rfl⟩
theorem search2a (q2 q3:Nat) (tk:Int) (bp b o c j1 j2:Nat) (full:List Ver) (Aa Ab:Option Addr) (ca cb:Nat) (t:Int) (F:HL) (hb:(bp,.lit [vS b (o * 5) 2 c] 162 (0,0)) ∈ F) (hq:(b,.rows 5 (o+c) (rowE verE full) 159 (0,0)) ∈ F) (hc:2 <= c) (hg0:full.getD o verE.dflt=verB 0 j1 Aa ca) (hg1:full.getD (1+o) verE.dflt=verB tk j2 Ab cb) (ht:0 <= t) (h2:(q2,.lit [vP bp 0] 35 (0,0)) ∈ F) (h3:(q3,.lit [vI t] 3 (0,0)) ∈ F) (h2t:tk > t):Sp Tryz.prog 115 #[vI 2,.func (.func 116) #[] #[vP q2 0,vP q3 0]] [] F (λ u H'=>u=vI 1 /\ H'=[]):=by
 refine Sp.run Tryz.func115 rfl (mc h2 (mc h3 (mc hb (mc hq mn)))) (A:=[]) (Ts:=[]) rfl λ w0=>?_
 refine RN.go 14 [] λ _=>RN.rounds 4<|RN.go 27 [] λ _=>RN.cp (at2c1 q2 q3 tk bp b o c j1 j2 full Aa Ab ca cb t _ (ro_ap hb) (ro_ap hq) hc hg0 hg1 ht (ro_ap h2) (ro_ap h3))<|RN.go 3 [] λ _=>RN.fx 21 (nt (decide_eq_true h2t))<|RN.go 34 [] λ _=>RN.cp (at2c0 q2 q3 tk bp b o c j1 j2 full Aa Ab ca cb t _ (ro_ap hb) (ro_ap hq) hc hg0 hg1 ht (ro_ap h2) (ro_ap h3))<|RN.go 31 [] λ _=>?_
 exact RN.ret [] [] [] ⟨rfl,rfl⟩
theorem search2b (q2 q3:Nat) (tk:Int) (bp b o c j1 j2:Nat) (full:List Ver) (Aa Ab:Option Addr) (ca cb:Nat) (t:Int) (F:HL) (hb:(bp,.lit [vS b (o * 5) 2 c] 162 (0,0)) ∈ F) (hq:(b,.rows 5 (o+c) (rowE verE full) 159 (0,0)) ∈ F) (hc:2 <= c) (hg0:full.getD o verE.dflt=verB 0 j1 Aa ca) (hg1:full.getD (1+o) verE.dflt=verB tk j2 Ab cb) (ht:0 <= t) (h2:(q2,.lit [vP bp 0] 35 (0,0)) ∈ F) (h3:(q3,.lit [vI t] 3 (0,0)) ∈ F) (h2t:¬ tk > t):Sp Tryz.prog 115 #[vI 2,.func (.func 116) #[] #[vP q2 0,vP q3 0]] [] F (λ u H'=>u=vI 2 /\ H'=[]):=by
 refine Sp.run Tryz.func115 rfl (mc h2 (mc h3 (mc hb (mc hq mn)))) (A:=[]) (Ts:=[]) rfl λ w0=>?_
 refine RN.go 14 [] λ _=>RN.rounds 4<|RN.go 27 [] λ _=>RN.cp (at2c1 q2 q3 tk bp b o c j1 j2 full Aa Ab ca cb t _ (ro_ap hb) (ro_ap hq) hc hg0 hg1 ht (ro_ap h2) (ro_ap h3))<|RN.go 3 [] λ _=>RN.fx 21 (nf (decide_eq_false h2t))<|RN.go 28 [] λ _=>?_
 exact RN.ret [] [] [] ⟨rfl,rfl⟩
theorem at2a (tk:Int) (bp b o c j1 j2:Nat) (full:List Ver) (Aa Ab:Option Addr) (ca cb:Nat) (t:Int) (F:HL) (hb:(bp,.lit [vS b (o * 5) 2 c] 162 (0,0)) ∈ F) (hq:(b,.rows 5 (o+c) (rowE verE full) 159 (0,0)) ∈ F) (hc:2 <= c) (hg0:full.getD o verE.dflt=verB 0 j1 Aa ca) (hg1:full.getD (1+o) verE.dflt=verB tk j2 Ab cb) (ht:0 <= t) (hj:j1 < 5) (hC:SrcIn Tryz.prog insE F Aa (lenB j1) (insB j1)) (h2t:tk > t):Sp Tryz.prog 81 #[vP bp 0,vI t] [] F (λ u H'=>∃ x:Option Addr × Nat × HL,H'=ap [] [x.2.2] /\ (u=.tuple #[vI 0,.agg #[.slice x.1 (lenB j1) x.2.1,vI (entI j1 0),vI (entI j1 1),vI (entI j1 2)]] /\ ClS insE 206 (insB j1) x.1 x.2.1 x.2.2)):=by
 refine Sp.run Tryz.func81 rfl (mc hb (mc hq mn)) (A:=[]) (Ts:=[]) rfl λ w0=>?_
 refine RN.go 16 [.own 2,.ro 0] λ n1=>RN.cp (search2a (n1+0) (n1+1) tk bp b o c j1 j2 full Aa Ab ca cb t _ (ro_ap hb) (ro_ap hq) hc hg0 hg1 ht (in_ap 2) (in_ap 1) h2t)<|RN.goP 21 [.own 2,.ro 0,.rorow 1 o 1,.rorow 1 o 2,.rorow 1 o 3,.rorow 1 o 4] [(o * 5+4)=o * 5+4 /\ o < (o+c),(o * 5+3)=o * 5+3 /\ o < (o+c),(o * 5+2)=o * 5+2 /\ o < (o+c),(o * 5+1)=o * 5+1 /\ o < (o+c)] λ _=>RN.sv 26 (congrArg (λ v_:Ver=>(.agg #[.slice v_.A v_.n v_.c,vI v_.e0,vI v_.e1,vI v_.e2]:Value)) hg0)<|RN.go 5 [.own 0,.own 0,.own 0,.own 0] λ n2=>RN.draw [8] []<|RD.go [] [0,1,4,2,5] [.own 0,.own 0,.own 0,.own 0]<|RD.one 3 (RDO.ct [] (Hp:=[]) (Tp:=[]) [] [] (clone_Ins_any Aa (lenB j1) ca (insB j1) _ hC.up (by have:=lenB_le hj;omega)) ?_)
 rintro _ ⟨A3,c4,T5⟩ ⟨rfl,hc6⟩
 dsimp only at hc6
 refine RD.go [] [6,7] []<|RD.one 8 (RDO.ev [] [.own 1,.own 1,.own 1,.own 1] λ _=>?_)
 refine RD.fin<|RN.go 1 [] λ _=>RN.ret [.own 1,.own 1,.own 1,.own 1] [] [0] (v:=.tuple #[vI 0,.agg #[.slice A3 (lenB j1) c4,vI (entI j1 0),vI (entI j1 1),vI (entI j1 2)]]) (H':=(ap [] [T5])) ?_
 exact ⟨(A3,c4,T5),rfl,rfl,hc6⟩
theorem at2b (tk:Int) (bp b o c j1 j2:Nat) (full:List Ver) (Aa Ab:Option Addr) (ca cb:Nat) (t:Int) (F:HL) (hb:(bp,.lit [vS b (o * 5) 2 c] 162 (0,0)) ∈ F) (hq:(b,.rows 5 (o+c) (rowE verE full) 159 (0,0)) ∈ F) (hc:2 <= c) (hg0:full.getD o verE.dflt=verB 0 j1 Aa ca) (hg1:full.getD (1+o) verE.dflt=verB tk j2 Ab cb) (ht:0 <= t) (hj:j2 < 5) (hC:SrcIn Tryz.prog insE F Ab (lenB j2) (insB j2)) (h2t:¬ tk > t):Sp Tryz.prog 81 #[vP bp 0,vI t] [] F (λ u H'=>∃ x:Option Addr × Nat × HL,H'=ap [] [x.2.2] /\ (u=.tuple #[vI 1,.agg #[.slice x.1 (lenB j2) x.2.1,vI (entI j2 0),vI (entI j2 1),vI (entI j2 2)]] /\ ClS insE 206 (insB j2) x.1 x.2.1 x.2.2)):=by
 refine Sp.run Tryz.func81 rfl (mc hb (mc hq mn)) (A:=[]) (Ts:=[]) rfl λ w0=>?_
 refine RN.go 16 [.own 2,.ro 0] λ n1=>RN.cp (search2b (n1+0) (n1+1) tk bp b o c j1 j2 full Aa Ab ca cb t _ (ro_ap hb) (ro_ap hq) hc hg0 hg1 ht (in_ap 2) (in_ap 1) h2t)<|RN.goP 21 [.own 2,.ro 0,.rorow 1 (1+o) 1,.rorow 1 (1+o) 2,.rorow 1 (1+o) 3,.rorow 1 (1+o) 4] [(o * 5+9)=(1+o) * 5+4 /\ (1+o) < (o+c),(o * 5+8)=(1+o) * 5+3 /\ (1+o) < (o+c),(o * 5+7)=(1+o) * 5+2 /\ (1+o) < (o+c),(o * 5+6)=(1+o) * 5+1 /\ (1+o) < (o+c)] λ _=>RN.sv 26 (congrArg (λ v_:Ver=>(.agg #[.slice v_.A v_.n v_.c,vI v_.e0,vI v_.e1,vI v_.e2]:Value)) hg1)<|RN.go 5 [.own 0,.own 0,.own 0,.own 0] λ n2=>RN.draw [8] []<|RD.go [] [0,1,4,2,5] [.own 0,.own 0,.own 0,.own 0]<|RD.one 3 (RDO.ct [] (Hp:=[]) (Tp:=[]) [] [] (clone_Ins_any Ab (lenB j2) cb (insB j2) _ hC.up (by have:=lenB_le hj;omega)) ?_)
 rintro _ ⟨A3,c4,T5⟩ ⟨rfl,hc6⟩
 dsimp only at hc6
 refine RD.go [] [6,7] []<|RD.one 8 (RDO.ev [] [.own 1,.own 1,.own 1,.own 1] λ _=>?_)
 refine RD.fin<|RN.go 1 [] λ _=>RN.ret [.own 1,.own 1,.own 1,.own 1] [] [0] (v:=.tuple #[vI 1,.agg #[.slice A3 (lenB j2) c4,vI (entI j2 0),vI (entI j2 1),vI (entI j2 2)]]) (H':=(ap [] [T5])) ?_
 exact ⟨(A3,c4,T5),rfl,rfl,hc6⟩
theorem Book2.at {tk:Int} {j1 j2 bp:Nat} {TB F:HL} (hB:Book2 tk j1 j2 bp TB) (hT:∀ x ∈ TB,x ∈ F) (hj1:j1 < 5) (hj2:j2 < 5) (t:Int) (ht:0 <= t):AtOk F bp t (if tk > t then (j1,0) else (j2,1)):=λ F' hF=>by
 cases hB with
 | mk A c A1 A2 c1 c2 Hl T1 T2 hs h1 h2 =>
  rcases hs with ⟨_,_,h,_⟩ | ⟨b,o,full,rfl,rfl,e1,e2,e3⟩
  ·cases h
  ·have hc:2 <= c:=e2
   have hg0:full.getD o verE.dflt=verB 0 j1 A1 c1:=by have:=take_drop_get e3 (k:=0) (by simp) verE.dflt;rw [Nat.add_zero] at this;exact this
   have hg1:full.getD (1+o) verE.dflt=verB tk j2 A2 c2:=by have:=take_drop_get e3 (k:=1) (by simp) verE.dflt;rw [Nat.add_comm o 1] at this;exact this
   have hm:∀ x,x ∈ ap [(bp,Blk.lit [.slice (some ⟨b,o * verE.w,none⟩) 2 c] 162 (0,0))] [[(b,.rows verE.w (o+c) (rowE verE full) 159 (0,0))],T1,T2] -> x ∈ F':=λ x hx=>hF x (hT x hx)
   by_cases h2t:tk > t
   ·rw [if_pos h2t]
    exact at2a tk bp b o c j1 j2 full A1 A2 c1 c2 t F' (hm _ (List.mem_append_left _ List.mem_cons_self)) (hm _ (List.mem_append_right _ List.mem_cons_self)) hc hg0 hg1 ht hj1 (h1 F' λ x hx=>hm x (by simp [ap,hx])) h2t
   ·rw [if_neg h2t]
    exact at2b tk bp b o c j1 j2 full A1 A2 c1 c2 t F' (hm _ (List.mem_append_left _ List.mem_cons_self)) (hm _ (List.mem_append_right _ List.mem_cons_self)) hc hg0 hg1 ht hj2 (h2 F' λ x hx=>hm x (by simp [ap,hx])) h2t
theorem gnowH {rs:List Bx} {ds:List Dr} {bp gb:Nat} {S:Setup} {M:MemS} {k:Nat} {T F:HL} (h:GameH rs ds bp gb S M k T) (hF:∀ x ∈ T,x ∈ F):Sp Tryz.prog 28 #[vP gb 0] [] F (λ u H'=>u=vI (M.get 0) /\ H'=[]):=by
 cases h with
 | mk mb T1 U hM hU=>exact gnow_any S bp gb mb M k T1 F (hF _ (by simp [ap])) hM λ x hx=>hF x (by simp [ap,hx])
section
variable (xs:List Int) (sz:Nat)
end
section
variable {r:Option Nat} {P:Program} {N:Nat} {D:List Deferred} {F:HL} {w0:World} {R:HL} {s:Cfg} {Q:Exit -> Act -> World -> Prop}
end
def J2 (tk:Int) (j1 j2 i:Nat):Nat × Int:=if tk > (i:Int) then (j1,0) else (j2,1)
theorem at_j2 {tk:Int} {j1 j2 bp:Nat} {TB F:HL} (hB:Book2 tk j1 j2 bp TB) (hT:∀ x ∈ TB,x ∈ F) (hj1:j1 < 5) (hj2:j2 < 5) {t:Nat} {v:Int} (e:v=(t:Int)):(J2 tk j1 j2 t).1 < 5 /\ AtOk F bp v (J2 tk j1 j2 t):=by
  subst e
  refine ⟨?_,hB.at hT hj1 hj2 _ (by omega)⟩
  unfold J2
  split
  · exact hj1
  · exact hj2
theorem pl_okT {S1:Setup} (hV:SetV S1) {t:Nat} {M0:MemS} (hT:TE2 S1 (t:Int) M0) {xss:List (List Inp)} (J:Nat -> Nat × Int) (n:Nat) (hn:t+n <= 50) (hr:∀ i,i < n -> RowOk S1.players (xss.getD i [])):∀ i,i <= n -> TE2 S1 ((t+i:Nat):Int) (plM (rG S1 J xss) M0 i)
  | 0,_=>hT
  | i+1,h=>by
    have ih:=pl_okT hV hT J n hn hr i (by omega)
    have:=(tk_ok1 hV (t:=((t+i:Nat):Int)) (by omega) ih (hr i (by omega)).1 (hr i (by omega)).2 (J i)).2
    rw [plM]
    exact_mod_cast this
theorem pl_tkT {S1:Setup} (hV:SetV S1) {t:Nat} {M0:MemS} (hT:TE2 S1 (t:Int) M0) {xss:List (List Inp)} (J:Nat -> Nat × Int) (n:Nat) (hn:t+n <= 50) (hr:∀ i,i < n -> RowOk S1.players (xss.getD i [])) (i:Nat) (hi:i < n):TkOk S1 (J i) (xss.getD i []) (plM (rG S1 J xss) M0 i) :=
  (tk_ok1 hV (t:=((t+i:Nat):Int)) (by omega) (pl_okT hV hT J n hn hr i (by omega)) (hr i hi).1 (hr i hi).2 (J i)).1
theorem RwsIn.take {F:HL} {rs:List Rw} {xss:List (List Inp)} (h:RwsIn F rs xss) (k:Nat):RwsIn F (rs.take k) (xss.take k):=by
  refine ⟨by rw [List.length_take,List.length_take,h.len],λ i hi=>?_⟩
  rw [List.length_take] at hi
  have e1:(xss.take k).getD i []=xss.getD i []:=by rw [List.getD_eq_getElem?_getD,List.getD_eq_getElem?_getD,List.getElem?_take,if_pos (by omega)]
  have e2:(rs.take k).getD i rwE.dflt=rs.getD i rwE.dflt:=by rw [List.getD_eq_getElem?_getD,List.getD_eq_getElem?_getD,List.getElem?_take,if_pos (by omega)]
  rw [e1,e2]
  exact h.row i (by omega)
theorem RwsIn.drop {F:HL} {rs:List Rw} {xss:List (List Inp)} (h:RwsIn F rs xss) (k:Nat):RwsIn F (rs.drop k) (xss.drop k):=by
  refine ⟨by rw [List.length_drop,List.length_drop,h.len],λ i hi=>?_⟩
  rw [List.length_drop] at hi
  have e1:(xss.drop k).getD i []=xss.getD (k+i) []:=by rw [List.getD_eq_getElem?_getD,List.getD_eq_getElem?_getD,List.getElem?_drop]
  have e2:(rs.drop k).getD i rwE.dflt=rs.getD (k+i) rwE.dflt:=by rw [List.getD_eq_getElem?_getD,List.getD_eq_getElem?_getD,List.getElem?_drop]
  rw [e1,e2]
  exact h.row (k+i) (by omega)
theorem rows_take {pl:Int} {xss:List (List Inp)} {n k:Nat} (h:∀ i,i < n -> RowOk pl (xss.getD i [])) (hk:k <= n):∀ i,i < k -> RowOk pl ((xss.take k).getD i []):=λ i hi=>by
  rw [List.getD_eq_getElem?_getD,List.getElem?_take,if_pos hi,<- List.getD_eq_getElem?_getD]
  exact h i (by omega)
theorem rows_drop {pl:Int} {xss:List (List Inp)} {n k:Nat} (h:∀ i,i < n -> RowOk pl (xss.getD i [])):∀ i,i < n - k -> RowOk pl ((xss.drop k).getD i []):=λ i hi=>by
  rw [List.getD_eq_getElem?_getD,List.getElem?_drop,<- List.getD_eq_getElem?_getD]
  exact h (k+i) (by omega)
abbrev J2t (tk:Int) (j1 j2 t:Nat):Nat -> Nat × Int:=λ i=>J2 tk j1 j2 (t+i)
section
variable {tk:Int} {S S1 S2:Setup} {rs_:List Bx} {ds_:List Dr} {bp gb n cap k t j1 j2:Nat} {A:Option Addr} {rs:List Rw} {xss:List (List Inp)} {M R:MemS} {G0 F TB:HL}
end
section
variable {tk:Int} {S S1:Setup} {rs_:List Bx} {ds_:List Dr} {bp gb b o N c k n i j1 j2:Nat} {full:List Inp} {xss:List (List Inp)} {M0:MemS} {G0 F TB:HL}
end
end Go.Proofs.YtcfajdgeejeieaaGreatDoor
