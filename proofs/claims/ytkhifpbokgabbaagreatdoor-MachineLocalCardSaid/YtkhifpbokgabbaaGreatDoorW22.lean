import Derived.Test.YtkhifpbokgabbaaGreatDoorW21
import Derived.Test.YtkhifpbokgabbaaGreatDoorW07
set_option maxHeartbeats 4000000
set_option maxRecDepth 100000
set_option linter.unusedSimpArgs false
set_option linter.unusedVariables false
namespace Go.Proofs.YtkhifpbokgabbaaGreatDoor
open Go.RowKit
theorem bodyAt_in {S:Setup} (h:SetN S) {i:Nat} (hi:i < S.nb):0 <= bodyAt S i /\ bodyAt S i+8 <= sizeOf S /\ sizeOf S <= 20000000:=by
 have:=h.pl
 have:=h.nb
 unfold bodyAt sizeOf
 rw [if_neg (by omega),if_neg (by omega)]
 omega
theorem sizeOf_bd {S:Setup} (h:SetN S):48 <= sizeOf S /\ sizeOf S <= 20000000:=by
 have:=h.pl
 have:=h.nb
 unfold sizeOf
 omega
def iniL (S:Setup):Nat -> List Int
 | 0=>List.replicate (sizeOf S).toNat 0
 | i+1=>((((((iniL S i).set (bodyAt S i).toNat (S.body i).mot.px).set (bodyAt S i+1).toNat (S.body i).mot.py).set (bodyAt S i+2).toNat (S.body i).mot.vx).set (bodyAt S i+3).toNat (S.body i).mot.vy).set (bodyAt S i+4).toNat (S.body i).a).set (bodyAt S i+5).toNat (S.body i).b
theorem iniL_len (S:Setup):∀ i,(iniL S i).length=(sizeOf S).toNat
 | 0=>by simp [iniL]
 | i+1=>by simp [iniL,iniL_len S i]
theorem iniL_next {S:Setup} (h:SetN S) {i:Nat} (hi:i < S.nb):updG (updG (updG (updG (updG (updG (irow (iniL S i)) (bodyAt S i).toNat 0 (vI (S.body i).mot.px)) (bodyAt S i+1).toNat 0 (vI (S.body i).mot.py)) (bodyAt S i+2).toNat 0 (vI (S.body i).mot.vx)) (bodyAt S i+3).toNat 0 (vI (S.body i).mot.vy)) (bodyAt S i+4).toNat 0 (vI (S.body i).a)) (bodyAt S i+5).toNat 0 (vI (S.body i).b)=irow (iniL S (i+1)):=by
 have:=bodyAt_in h hi
 rw [irow_set,irow_set,irow_set,irow_set,irow_set,irow_set,iniL] <;> (simp only [List.length_set,iniL_len];omega)
theorem rinit_any (S:Setup) (F:HL) (hS:SetIn F S):Sp Tryz.prog 6 #[(Setup.v S)] [] F (λ u H'=>∃ q,H'=ap [(q,.rows 1 (sizeOf S).toNat (irow (iniL S S.nb)) 3 (0,0))] [] /\ u=vS q 0 (sizeOf S).toNat (sizeOf S).toNat):=by
 have hp:=hS.pl
 have hn:=hS.nb
 have hr:=hS.room
 have hz:=sizeOf_bd hS.toSetN
 refine Sp.run Tryz.func6 rfl (mc hS.blk mn) (A:=[]) (Ts:=[]) rfl λ w0=>?_
 refine RN.go 9 (ow 0 16) λ n1=>RN.cp (rsize_any S _ hS.toSetN)<|RN.goP 11 [.mk ((sizeOf S).toNat) ((sizeOf S).toNat)] [sizeOf S=(((sizeOf S).toNat:Nat):Int) /\ sizeOf S=(((sizeOf S).toNat:Nat):Int) /\ (sizeOf S).toNat <= (sizeOf S).toNat /\ 8 * ((sizeOf S).toNat) <= 140737488355328 /\ 1=1 /\ (sizeOf S).toNat <= 9223372036854775807] λ n2=>RN.bv 0 (congrArg (λ v_=>(.rows 1 ((sizeOf S).toNat) v_ 3 (0,0):Blk)) (show (zrow [vI 0])=(irow (iniL S 0)) from (by rw [zrow_irow (sizeOf S).toNat] <;> rfl)))<|RN.loop (σ:=Nat) (λ i=>⟨[(1,vP (n1+0) 0),(3,vS (n2+0) 0 ((sizeOf S).toNat) ((sizeOf S).toNat)),(4,vI (i:Int))],[((n2+0),.rows 1 ((sizeOf S).toNat) (irow (iniL S i)) 3 (0,0)),((n1+0),.lit (Setup.l S) 31 (0,0))],[],i <= S.nb,S.nb - i⟩) 0 [0,1] [] (Nat.zero_le _) ?_
 rintro i hI3 mt4
 refine RN.go 10 [.own 1] λ _=>RN.em ((i:Int) < (S.nb:Int)) 14 (λ h5=>?_) λ h5=>?_
 ·have hbi:=bodyAt_in hS.toSetN (i:=i) (by omega)
  refine RN.go 9 (ow 1 16) λ _=>RN.cp (rbody_any S (i:Int) _ hS.toSetN) ?_
  have hb6:=bodyAt_bd hS.toSetN (i:Int)
  refine RN.goP 92 ([.own 1,.ix i,.rorow 0 (S.bo+i) 0,.rorow 0 (S.bo+i) 1,.rorow 0 (S.bo+i) 2,.rorow 0 (S.bo+i) 3,.rorow 0 (S.bo+i) 4,.rorow 0 (S.bo+i) 5,.rorow 0 (S.bo+i) 6,.rorow 0 (S.bo+i) 7,.rorow 0 (S.bo+i) 8]++ow 0 10++[.ix ((bodyAt S (i:Int)).toNat),.row 1 ((bodyAt S (i:Int)).toNat) 0,.nw,.own 0,.ix (((bodyAt S (i:Int))+1).toNat),.row 1 (((bodyAt S (i:Int))+1).toNat) 0,.nw,.own 0,.ix (((bodyAt S (i:Int))+2).toNat),.row 1 (((bodyAt S (i:Int))+2).toNat) 0,.nw,.own 0,.ix (((bodyAt S (i:Int))+3).toNat),.row 1 (((bodyAt S (i:Int))+3).toNat) 0,.nw,.own 0,.ix (((bodyAt S (i:Int))+4).toNat),.row 1 (((bodyAt S (i:Int))+4).toNat) 0,.nw,.own 0,.ix (((bodyAt S (i:Int))+5).toNat),.row 1 (((bodyAt S (i:Int))+5).toNat) 0,.nw]) [I64 ((i:Int)+1),(0+(((bodyAt S (i:Int))+5).toNat) * 1)=(((bodyAt S (i:Int))+5).toNat) * 1+0 /\ (((bodyAt S (i:Int))+5).toNat) < ((sizeOf S).toNat),(bodyAt S (i:Int))+5=((((bodyAt S (i:Int))+5).toNat:Nat):Int) /\ ((bodyAt S (i:Int))+5).toNat < ((sizeOf S).toNat),I64 ((bodyAt S (i:Int))+5),(0+(((bodyAt S (i:Int))+4).toNat) * 1)=(((bodyAt S (i:Int))+4).toNat) * 1+0 /\ (((bodyAt S (i:Int))+4).toNat) < ((sizeOf S).toNat),(bodyAt S (i:Int))+4=((((bodyAt S (i:Int))+4).toNat:Nat):Int) /\ ((bodyAt S (i:Int))+4).toNat < ((sizeOf S).toNat),I64 ((bodyAt S (i:Int))+4),(0+(((bodyAt S (i:Int))+3).toNat) * 1)=(((bodyAt S (i:Int))+3).toNat) * 1+0 /\ (((bodyAt S (i:Int))+3).toNat) < ((sizeOf S).toNat),(bodyAt S (i:Int))+3=((((bodyAt S (i:Int))+3).toNat:Nat):Int) /\ ((bodyAt S (i:Int))+3).toNat < ((sizeOf S).toNat),I64 ((bodyAt S (i:Int))+3),(0+(((bodyAt S (i:Int))+2).toNat) * 1)=(((bodyAt S (i:Int))+2).toNat) * 1+0 /\ (((bodyAt S (i:Int))+2).toNat) < ((sizeOf S).toNat),(bodyAt S (i:Int))+2=((((bodyAt S (i:Int))+2).toNat:Nat):Int) /\ ((bodyAt S (i:Int))+2).toNat < ((sizeOf S).toNat),I64 ((bodyAt S (i:Int))+2),(0+(((bodyAt S (i:Int))+1).toNat) * 1)=(((bodyAt S (i:Int))+1).toNat) * 1+0 /\ (((bodyAt S (i:Int))+1).toNat) < ((sizeOf S).toNat),(bodyAt S (i:Int))+1=((((bodyAt S (i:Int))+1).toNat:Nat):Int) /\ ((bodyAt S (i:Int))+1).toNat < ((sizeOf S).toNat),I64 ((bodyAt S (i:Int))+1),(0+((bodyAt S (i:Int)).toNat) * 1)=((bodyAt S (i:Int)).toNat) * 1+0 /\ ((bodyAt S (i:Int)).toNat) < ((sizeOf S).toNat),bodyAt S (i:Int)=(((bodyAt S (i:Int)).toNat:Nat):Int) /\ (bodyAt S (i:Int)).toNat < ((sizeOf S).toNat),((S.bo * 9+i * 9)+8)=(S.bo+i) * 9+8 /\ (S.bo+i) < S.bR,((S.bo * 9+i * 9)+7)=(S.bo+i) * 9+7 /\ (S.bo+i) < S.bR,((S.bo * 9+i * 9)+6)=(S.bo+i) * 9+6 /\ (S.bo+i) < S.bR,((S.bo * 9+i * 9)+5)=(S.bo+i) * 9+5 /\ (S.bo+i) < S.bR,((S.bo * 9+i * 9)+4)=(S.bo+i) * 9+4 /\ (S.bo+i) < S.bR,((S.bo * 9+i * 9)+3)=(S.bo+i) * 9+3 /\ (S.bo+i) < S.bR,((S.bo * 9+i * 9)+2)=(S.bo+i) * 9+2 /\ (S.bo+i) < S.bR,((S.bo * 9+i * 9)+1)=(S.bo+i) * 9+1 /\ (S.bo+i) < S.bR,(S.bo * 9+i * 9)=(S.bo+i) * 9+0 /\ (S.bo+i) < S.bR,(i:Int)=((i:Nat):Int) /\ i < S.nb] λ n7=>RN.bv 1 (congrArg (λ v_=>(.rows 1 ((sizeOf S).toNat) v_ 3 (0,0):Blk)) (show (updG (updG (updG (updG (updG (updG (irow (iniL S i)) ((bodyAt S (i:Int)).toNat) 0 (vI ((S.bods.getD (S.bo+i) dB).mot.px))) (((bodyAt S (i:Int))+1).toNat) 0 (vI ((S.bods.getD (S.bo+i) dB).mot.py))) (((bodyAt S (i:Int))+2).toNat) 0 (vI ((S.bods.getD (S.bo+i) dB).mot.vx))) (((bodyAt S (i:Int))+3).toNat) 0 (vI ((S.bods.getD (S.bo+i) dB).mot.vy))) (((bodyAt S (i:Int))+4).toNat) 0 (vI ((S.bods.getD (S.bo+i) dB).a))) (((bodyAt S (i:Int))+5).toNat) 0 (vI ((S.bods.getD (S.bo+i) dB).b)))=(irow (iniL S (i+1))) from (by rw [<- iniL_next hS.toSetN (i:=i) (by omega)] <;> kernel_rfl))) ?_
  refine mt4 (i+1) [1,2] [] ?_
  try dsimp only
  exact ⟨by omega,by omega⟩
 ·refine RN.go 12 [] λ _=>RN.ret [] [0] [] (v:=vS (n2+0) 0 ((sizeOf S).toNat) ((sizeOf S).toNat)) (H':=[((n2+0),.rows 1 ((sizeOf S).toNat) (irow (iniL S i)) 3 (0,0))]) ?_
  have ei:i=S.nb:=by omega
  subst ei
  exact ⟨_,rfl,rfl⟩
open Go.Shelf
section
variable {r:Option Nat} {P:Program} {N:Nat} {D:List Deferred} {F:HL} {w0:World} {R:HL} {s:Cfg} {Q:Exit -> Act -> World -> Prop}
variable {α:Type} {e:Enc α} {T:TypeId} {inf:TypeInfo} {z:Value}
def appKS (P:Program) (N j:Nat) (oo:Option Oper) (s:Cfg):Option (Option Addr × Nat × Nat × TypeId × Option Addr × Nat × Nat × TypeId × HL):=match oo with
  | some o=>match appV P o s.L,s.Ts[j]?,([j]++oth [j] s.Ts.length).isPerm (List.range s.Ts.length) && (putL N o.dst undef s.L).isSome with
    | some (A,n,cap,T,B,m,c',tx),some Hl,true=>some (A,n,cap,T,B,m,c',tx,Hl)
    | _,_,_=>none
  | none=>none
theorem appKS_spec {j:Nat} {oo:Option Oper} {A:Option Addr} {n cap m c':Nat} {B:Option Addr} {tx:TypeId} {Hl:HL} (h:appKS P N j oo s=some (A,n,cap,T,B,m,c',tx,Hl)) :
    ∃ o a1 a2 t e',oo=some o /\ o.guard=none /\ o.op=.call { callee:=.builtin .append,args:=#[a1,a2],argTypes:=#[t,tx] } /\ (inL s.L a1 && inL s.L a2)=true /\ rho s.L a1=.slice A n cap /\ rho s.L a2=.slice B m c' /\ P.underlying t=some (.slice T) /\ P.underlying tx=some (.slice e') /\
      s.Ts[j]?=some Hl /\ ([j]++oth [j] s.Ts.length).isPerm (List.range s.Ts.length)=true /\ (putL N o.dst undef s.L).isSome=true:=by
  unfold appKS at h
  split at h
  case h_2=>cases h
  rename_i o
  split at h
  case h_2=>cases h
  rename_i A' n' cap' T' B' m' c2 tx' Hl' h1 h3 h4
  simp only [Option.some.injEq,Prod.mk.injEq] at h
  obtain ⟨e1,e2,e3,e4,e5,e6,e7,e8,e9⟩:=h
  subst e1;subst e2;subst e3;subst e4;subst e5;subst e6;subst e7;subst e8;subst e9
  obtain ⟨a1,a2,t,e',q1,q2,q3,q4,q5,q6,q7⟩:=appV_spec h1
  rw [Bool.and_eq_true] at h4
  exact ⟨o,a1,a2,t,e',rfl,q1,q2,q3,q4,q5,q6,q7,h3,h4.1,h4.2⟩
theorem RN.appS (ok:EncOk e P T inf z) (l src:List α) (j:Nat) {A:Option Addr} {n cap:Nat} {Hl:HL} {B:Option Addr} {m c':Nat} {tx:TypeId} (hm:m=src.length) (hn:n=l.length) (hsl:SlIs e T l A cap Hl) (hb:l.length+src.length <= 100000000)
    (hs:∀ e',P.underlying tx=some (.slice e') -> ∀ X w,Rel (X++F) w -> Src P inf.size tx (.slice B m c') src.length (cellsE e src) w)
    (hk:∀ (A':Option Addr) (cap':Nat) (Hl':HL),(SlIs e T (l++src) A' cap' Hl' /\ (zeroOff A -> zeroOff A')) -> RN r P N D F w0 R (rpC j Hl' (putC N (.slice A' (n+src.length) cap') s)) Q)
    (h:appKS P N j (opAt s) s=some (A,n,cap,T,B,m,c',tx,Hl):=by kernel_rfl):RN r P N D F w0 R s Q:=by
  obtain ⟨o,a1,a2,t,e',q0,q1,q2,q3,q4,q5,q6,q7,q9,q10,q11⟩:=appKS_spec h
  refine ⟨λ hR a w hF hRel hB=>?_⟩
  obtain ⟨c,k,L,Bs,Ts⟩:=s
  unfold opAt at q0
  cases c with
  | code c=>cases q0
  | ex c=>cases q0
  | drw _ _=>cases q0
  | ops ops i =>
    simp only at q0 q3 q4 q5 q9 q10 q11 hF hRel
    have hdrop:ops.toList.drop i=o :: ops.toList.drop (i+1):=by
      have hlt:i < ops.toList.length:=(List.getElem?_eq_some_iff.1 q0).1
      rw [List.drop_eq_getElem_cons hlt,(List.getElem?_eq_some_iff.1 q0).2]
    show wpListIn _ _ _ _ _ _ _ _
    rw [hdrop,wpListIn,if_pos (by simp [Region.wanted,q1])]
    refine ⟨λ _ _=>trivial,?_⟩
    have hperm:=tail_perm (A:=Bs) q9 q10
    refine gives_upon (by rw [q2];intro c hc;cases hc) (app_gives (x:=.slice B m c') (src:=src) (G:=Bs++((oth [j] Ts.length).filterMap (Ts[·]?)).flatten) ok q2 q6 q3 q4 hn q5 hperm hsl (λ w hw=>hs e' q7 _ w hw) hb a hF w hRel) ?_
    rintro u w' ⟨⟨A',cap',Hl'⟩,⟨rfl,hsl'⟩,hR',hB'⟩
    obtain ⟨L',p1⟩:=putL_some q11 (.slice A' (n+src.length) cap')
    have hh:=(hk A' cap' Hl' hsl').h hR
    have hpc:putC N (.slice A' (n+src.length) cap') ⟨.ops ops i,k,L,Bs,Ts⟩=⟨.ops ops (i+1),k,L',Bs,Ts⟩:=by
      unfold putC
      simp only [q0,p1]
    rw [hpc] at hh
    refine hh _ w' (hF.put p1) (hR'.perm (List.Perm.append_right F ?_)) (hB.trans hB')
    show (Bs++(Hl' :: (oth [j] Ts.length).filterMap (Ts[·]?)).flatten).Perm _
    rw [List.flatten_cons,<- List.append_assoc,<- List.append_assoc]
    exact List.Perm.append_right _ List.perm_append_comm
end
inductive RowL {α:Type} (e:Enc α) (T:TypeId) (F:HL):Option Addr -> Nat -> List α -> Prop
  | zero (A:Option Addr):RowL e T F A 0 []
  | rows (q o N:Nat) (full:List α) (fz:Nat × Nat) (n:Nat) (xs:List α) (hq:(q,.rows e.w N (rowE e full) T fz) ∈ F) (ho:o+n <= N) (hn:xs.length=n) (hx:∀ k,k < n -> full.getD (o+k) e.dflt=xs.getD k e.dflt):RowL e T F (some ⟨q,o * e.w,none⟩) n xs
section
variable {α:Type} {e:Enc α} {T:TypeId} {F:HL} {A:Option Addr} {n:Nat} {xs:List α}
theorem RowL.at (h:RowL e T F A n xs) {k:Nat} (hk:k < n):∃ q o N full fz,A=some ⟨q,o * e.w,none⟩ /\ (q,.rows e.w N (rowE e full) T fz) ∈ F /\ o+k < N /\ full.getD (o+k) e.dflt=xs.getD k e.dflt:=by
  cases h with
  | zero=>omega
  | rows q o N full fz n xs hq ho hn hx=>exact ⟨q,o,N,full,fz,rfl,hq,by omega,hx k hk⟩
theorem RowL.whole {q N:Nat} {fz:Nat × Nat} (hq:(q,.rows e.w N (rowE e xs) T fz) ∈ F) (h:xs.length <= N):RowL e T F (some ⟨q,0,none⟩) xs.length xs:=by
  have:=RowL.rows (e:=e) (T:=T) (F:=F) q 0 N xs fz xs.length xs hq (by omega) rfl (λ k hk=>by rw [Nat.zero_add])
  rwa [Nat.zero_mul] at this
end
section
variable {α:Type} {e:Enc α} {P:Program} {t tx ty T:TypeId} {inf:TypeInfo} {z:Value} {F:HL}
end
section
variable {r:Option Nat} {P:Program} {N:Nat} {D:List Deferred} {F:HL} {w0:World} {R:HL} {s:Cfg} {Q:Exit -> Act -> World -> Prop}
variable {α:Type} {e:Enc α} {T:TypeId} {inf:TypeInfo} {z:Value}
end
abbrev i64r (n:Int):Prop:=-9223372036854775808 <= n /\ n <= 9223372036854775807
theorem around_bd {n:Int} (hn:i64r n) (most:Int) (h:0 < most):0 <= around n most /\ around n most < most:=by
 unfold around
 have hx:0 <= (if n < 0 then w64 (0 - w64 (n+1)) else n):=by
  split
  ·rw [w64_id (x:=n+1) (by omega),w64_id (by omega)];omega
  ·omega
 exact ⟨Int.tmod_nonneg _ hx,Int.tmod_lt_of_pos _ h⟩
inductive ArgL (F:HL):Option Addr -> Nat -> List Int -> Prop
 | zero (A:Option Addr):ArgL F A 0 []
 | cells (q o N:Nat) (g:Nat -> Nat -> Value) (ty:TypeId) (fz:Nat × Nat) (xs:List Int) (hq:(q,.rows 1 N g ty fz) ∈ F) (ho:o+xs.length <= N) (hx:∀ k,k < xs.length -> g (o+k) 0=vI (xs.getD k 0)) (hb:∀ k,k < xs.length -> i64r (xs.getD k 0)):ArgL F (some ⟨q,o,none⟩) xs.length xs
theorem ArgL.up {F X:HL} {A:Option Addr} {n:Nat} {xs:List Int} (h:ArgL F A n xs):ArgL (X++F) A n xs:=by
 cases h with
 | zero=>exact .zero _
 | cells q o N g ty fz xs hq ho hx hb=>exact .cells q o N g ty fz xs (List.mem_append_right _ hq) ho hx hb
theorem ArgL.len {F:HL} {A:Option Addr} {n:Nat} {xs:List Int} (h:ArgL F A n xs):xs.length=n:=by
 cases h <;> rfl
theorem ArgL.at {F:HL} {A:Option Addr} {n:Nat} {xs:List Int} (h:ArgL F A n xs) {k:Nat} (hk:k < n):∃ q o N g ty fz,A=some ⟨q,o,none⟩ /\ (q,.rows 1 N g ty fz) ∈ F /\ o+k < N /\ g (o+k) 0=vI (xs.getD k 0) /\ i64r (xs.getD k 0):=by
 cases h with
 | zero=>omega
 | cells q o N g ty fz xs hq ho hx hb=>exact ⟨q,o,N,g,ty,fz,rfl,hq,by omega,hx k hk,hb k hk⟩
def kv (xs:List Int) (i:Nat):Int:=if i < xs.length then around (xs.getD i 0) 1000000 else 0
theorem kv_bd {F:HL} {A:Option Addr} {n:Nat} {xs:List Int} (h:ArgL F A n xs) (i:Nat):0 <= kv xs i /\ kv xs i < 1000000:=by
 unfold kv
 split
 ·next hi =>
  rw [h.len] at hi
  obtain ⟨_,_,_,_,_,_,_,_,_,_,hr⟩:=h.at hi
  exact around_bd hr 1000000 (by decide)
 ·omega
def ks (xs:List Int) (n:Nat):List Int:=(List.range n).map (kv xs)
theorem ks_len (xs:List Int) (n:Nat):(ks xs n).length=n:=by simp [ks]
theorem ks_succ (xs:List Int) (n:Nat):ks xs (n+1)=ks xs n++[kv xs n]:=by simp [ks,List.range_succ]
theorem ks_get {xs:List Int} {n i:Nat} (h:i < n):(ks xs n).getD i 0=kv xs i:=by simp [ks,h]
structure Dr where (a b:Int)
def vecE:Enc V2:=⟨2,λ p k=>match k with | 0=>vI p.x | _=>vI p.y,⟨0,0⟩⟩
def bxE:Enc Bx:=⟨4,λ p k=>match k with | 0=>vI p.x0 | 1=>vI p.y0 | 2=>vI p.x1 | _=>vI p.y1,⟨0,0,0,0⟩⟩
def drE:Enc Dr:=⟨2,λ p k=>match k with | 0=>vI p.a | _=>vI p.b,⟨0,0⟩⟩
structure MapIn (F:HL) (S:Setup) (rs:List Bx) (ds:List Dr):Prop where
 rooms:RowL bxE 25 F S.rA S.rn rs
 doors:RowL drE 55 F S.dA S.dn ds
abbrev genR:List Bx:=[⟨-12000,-9000,-1,9000⟩,⟨0,0,12000,9000⟩,⟨0,-9000,12000,-1⟩]
abbrev genD (i:Nat):List Dr:=match i with | 0=>[] | 1=>[⟨0,1⟩] | _=>[⟨0,2⟩,⟨1,2⟩]
def sPl (xs:List Int):Int:=1+kv xs 0 % 3
def sCnt (xs:List Int):Int:=sPl xs+kv xs 3 / 3 % 3
def bN (xs:List Int) (i:Nat):Int:=kv xs (4+2 * i)
def bM (xs:List Int) (i:Nat):Int:=kv xs (5+2 * i)
def bodyG (xs:List Int) (i:Nat) (A:Option Addr) (c:Nat):Bod:=⟨⟨(shapeS (bN xs i)).1,(shapeS (bN xs i)).2,A,c⟩,⟨((((bN xs i) / 1000) % 13) - 6) * 900,((((bM xs i) / 50) % 11) - 5) * 800,((((bM xs i) / 550) % 9) - 4) * 300,((((bN xs i) / 13000) % 9) - 4) * 300,([1024,1024,512,2048,0]:List Int).getD (((bM xs i) / 5000) % 5).toNat 0⟩,(bM xs i) % 50,(bN xs i) % 7⟩
def doorA (a b c:Nat) (i:Nat):Option Addr:=match i with | 0=>some ⟨a,0,none⟩ | 1=>some ⟨b,0,none⟩ | _=>some ⟨c,0,none⟩
def doorN (i:Nat):Nat:=match i with | 0=>0 | 1=>1 | _=>2
def doorRow (a b c:Nat):Nat -> Nat -> Value:=λ i _=>.slice (doorA a b c i) (doorN i) (doorN i)
theorem sPl_bd {F:HL} {A:Option Addr} {n:Nat} {xs:List Int} (h:ArgL F A n xs):1 <= sPl xs /\ sPl xs <= 3:=by
 have:=kv_bd h 0
 unfold sPl;omega
theorem sCnt_bd {F:HL} {A:Option Addr} {n:Nat} {xs:List Int} (h:ArgL F A n xs):1 <= sCnt xs /\ sCnt xs <= 5 /\ sPl xs <= sCnt xs:=by
 have:=kv_bd h 0
 have:=kv_bd h 3
 unfold sCnt sPl;omega
theorem ks_app {xs rest:List Int} {n i:Nat} (h:i < n):(ks xs n++rest).getD i 0=kv xs i:=by
 rw [List.getD_eq_getElem?_getD,List.getElem?_append_left (by rw [ks_len];exact h),<- List.getD_eq_getElem?_getD,ks_get h]
theorem getD_app {α:Type} {l r:List α} {i:Nat} {d:α} (h:i < l.length):(l++r).getD i d=l.getD i d:=by
 rw [List.getD_eq_getElem?_getD,List.getElem?_append_left h,<- List.getD_eq_getElem?_getD]
theorem getD_last {α:Type} {l:List α} {x d:α}:(l++[x]).getD l.length d=x:=by simp
theorem ShH.left {s:Shp} {T X:HL} (h:ShH s T):ShH s (T++X):=λ F hF=>h F λ x hx=>hF x (List.mem_append_left _ hx)
theorem ShH.right {s:Shp} {T X:HL} (h:ShH s X):ShH s (T++X):=λ F hF=>h F λ x hx=>hF x (List.mem_append_right _ hx)
theorem doors_rowL {F:HL} {a b c:Nat} (hb:(b,.rows 2 1 (rowE drE (genD 1)) 55 (0,0)) ∈ F) (hc:(c,.rows 2 2 (rowE drE (genD 2)) 55 (0,0)) ∈ F):∀ i:Nat,RowL drE 55 F (doorA a b c i) (doorN i) (genD i)
 | 0=>.zero _
 | 1=>RowL.whole (xs:=genD 1) hb (Nat.le_refl _)
 | _+2=>RowL.whole (xs:=genD 2) hc (Nat.le_refl _)
structure SetG (xs:List Int) (S:Setup) (T:HL):Prop where
 pl:S.players=sPl xs
 nb:(S.nb:Int)=sCnt xs
 bo:S.bo=0
 cap:S.nb <= S.bc
 room:S.bo+S.nb <= S.bR
 nums:S.box=⟨-12000,-9000,12000,9000⟩ /\ S.fog=4000+(kv xs 1 % 9) * 1000 /\ S.g=⟨0,(-((kv xs 2 / 36) % 3)) * 40⟩ /\ S.push=((kv xs 1 / 9) % 5) * 100 /\ S.drag=(kv xs 2 % 4) * 100 /\ S.rest=((kv xs 2 / 4) % 3) * 512 /\ S.rounds=1+(kv xs 2 / 12) % 3 /\ S.fuel=60
 bod:∀ j,j < S.nb -> ∃ A c,S.body j=bodyG xs j A c
 sin:∀ F,(S.bb,.rows 9 S.bR (brow S.bods) 64 (0,0)) ∈ F -> (∀ x ∈ T,x ∈ F) -> SetIn F S
 maps:(S.rn=3 /\ S.dn=doorN (kv xs 3 % 3).toNat) /\ ∀ F,(∀ x ∈ T,x ∈ F) -> MapIn F S genR (genD (kv xs 3 % 3).toNat)
theorem setup_any (A:Option Addr) (n cap:Nat) (xs:List Int) (F:HL) (hl:ArgL F A n xs) (hn:n <= 9223372036854775807):Sp Tryz.prog 4 #[.slice A n cap] [] F (λ u H'=>∃ x:Setup × HL,H'=ap [(x.1.bb,.rows 9 x.1.bR (brow x.1.bods) 64 (0,0))] [x.2] /\ (u=Setup.v x.1 /\ SetG xs x.1 x.2)):=by
 refine Sp.run Tryz.func4 rfl mn (A:=[]) (Ts:=[]) rfl λ w0=>?_
 refine RN.go 17 [] λ n1=>RN.nt<|RN.loop (σ:=Nat × Option Addr × Nat × HL) (λ ⟨i,A_,c_,T_⟩=>⟨[(0,.slice A n cap),(2,vP (n1+0) 0),(3,.slice A_ i c_),(4,vI (i:Int))],[((n1+0),.lit [vI 0,.slice none 0 0,vI 0,vI 0,vI 0,vI 0,.slice none 0 0,.slice none 0 0,vI 0,vI 0,vI 0,vI 0,vI 0,vI 0,vI 0,vI 0] 31 (0,0))],[T_],i <= 24 /\ SlIs intE 3 (ks xs i) A_ c_ T_ /\ zeroOff A_,24 - i⟩) (0,none,0,[]) [0] [0] (⟨Nat.zero_le _,SlIs.nil _ _,trivial⟩) ?_
 rintro ⟨i,A_,c_,T_⟩ ⟨hi_,hs_,hz_⟩ mt3
 refine RN.go 7 [] λ _=>RN.em ((i:Int) < 24) 12 (λ h4=>?_) λ h4=>?_
 ·refine RN.go 19 [] λ _=>RN.em ((i:Int) < (n:Int)) 18 (λ h5=>?_) λ h5=>?_
  ·refine RN.go 4 [] λ _=>?_
   obtain ⟨qx6,ox6,Nx6,gx6,tyx6,fzx6,hAx6,hqx6,hox6,hgx6,hrx6⟩:=hl.at (k:=i) (by omega)
   refine RN.sv 19 (congrArg (λ v_=>(.slice v_ n cap:Value)) hAx6)<|RN.ro (λ _=>(mc hqx6 mn))<|RN.goP 2 [.ix i,.rorow 0 (ox6+i) 0] [(ox6+i * 1)=(ox6+i) * 1+0 /\ (ox6+i) < Nx6,(i:Int)=((i:Nat):Int) /\ i < n] λ _=>RN.sv 22 (congrArg (λ v_=>(v_:Value)) hgx6)<|RN.cp (around_any (xs.getD i 0) 1000000 (by decide) _) ?_
   have hA7:=around_bd (n:=xs.getD i 0) hrx6 1000000 (by decide)
   refine RN.go 7 [] λ n8=>RN.app intEOk (ks xs i) [around (xs.getD i 0) 1000000] 0 0 (ks_len xs i).symm hs_ (by rw [ks_len];show i+1 <= 100000000;omega) ?_
   rintro A9 c10 T11 ⟨hs12,hz13⟩
   refine RN.goP 9 [.nw] [I64 ((i:Int)+1)] λ _=>?_
   have hz2:=hz13 hz_
   refine mt3 (i+1,A9,c10,T11) [1] [0] ?_
   try dsimp only
   refine ⟨⟨by omega,?_,hz2⟩,by omega⟩
   rw [ks_succ,show kv xs i=_ from by unfold kv;rw [if_pos (by rw [hl.len];omega)]]
   exact hs12
  ·refine RN.go 7 [] λ n14=>RN.app intEOk (ks xs i) [0] 0 0 (ks_len xs i).symm hs_ (by rw [ks_len];show i+1 <= 100000000;omega) ?_
   rintro A15 c16 T17 ⟨hs18,hz19⟩
   refine RN.goP 9 [.nw] [I64 ((i:Int)+1)] λ _=>?_
   have hz2:=hz19 hz_
   refine mt3 (i+1,A15,c16,T17) [1] [0] ?_
   try dsimp only
   refine ⟨⟨by omega,?_,hz2⟩,by omega⟩
   rw [ks_succ,show kv xs i=_ from by unfold kv;rw [if_neg (by rw [hl.len];omega)]]
   exact hs18
 ·refine RN.go 7 [] λ _=>?_
  have ei:i=24:=by omega
  subst ei
  obtain ⟨kb,rest,rfl,rfl,hcap0⟩:=hs_.open0 hz_ (by decide) (by rw [ks_len];decide)
  have hcap:24 <= c_:=by rw [ks_len] at hcap0;exact hcap0
  refine RN.ot 0 (x:=(kb,.rows 1 c_ (rowE intE (ks xs 24++rest)) 3 (0,0))) ?_
  have hk0:=kv_bd hl 0
  have hk1:=kv_bd hl 1
  have hk2:=kv_bd hl 2
  have hk3:=kv_bd hl 3
  have hse:sCnt xs=1+kv xs 0 % 3+kv xs 3 / 3 % 3:=rfl
  have hsc:=sCnt_bd hl
  have hsp:=sPl_bd hl
  refine RN.draw [37] []<|RD.goP [] [0,5,6,12,18,23,29,1,7,13,19,24,30,2,8,14,20,25,31,3,9,15,21,26,32,4,10,16,22,27,33,11,17,28,34,35] [.row 0 0 0,.row 0 1 0,.row 0 1 0,.row 0 2 0,.row 0 2 0,.row 0 2 0,.nw,.nw,.nw,.nw,.nw,.nw,.nw,.nw,.nw,.nw,.nw,.nw,.nw,.nw,.nw,.nw] [I64 (1+(((kv xs 2) / 12) % 3)),I64 ((((kv xs 2) / 4) % 3) * 512),I64 ((((kv xs 1) / 9) % 5) * 100),I64 (4000+(((kv xs 1) % 9) * 1000)),0 <= (kv xs 2) / 12 /\ (0:Int) < 3 /\ (kv xs 2) / 12 <= 9223372036854775807,0 <= (kv xs 2) / 4 /\ (0:Int) < 3 /\ (kv xs 2) / 4 <= 9223372036854775807,I64 (((kv xs 2) % 4) * 100),0 <= (kv xs 1) / 9 /\ (0:Int) < 5 /\ (kv xs 1) / 9 <= 9223372036854775807,I64 (((kv xs 1) % 9) * 1000),I64 (1+((kv xs 0) % 3)),0 <= kv xs 2 /\ (0:Int) < 12 /\ kv xs 2 <= 9223372036854775807,0 <= kv xs 2 /\ (0:Int) < 4 /\ kv xs 2 <= 9223372036854775807,0 <= kv xs 2 /\ (0:Int) < 4 /\ kv xs 2 <= 9223372036854775807,0 <= kv xs 1 /\ (0:Int) < 9 /\ kv xs 1 <= 9223372036854775807,0 <= kv xs 1 /\ (0:Int) < 9 /\ kv xs 1 <= 9223372036854775807,0 <= kv xs 0 /\ (0:Int) < 3 /\ kv xs 0 <= 9223372036854775807,2=2 * 1+0 /\ 2 < c_,2=2 * 1+0 /\ 2 < c_,2=2 * 1+0 /\ 2 < c_,1=1 * 1+0 /\ 1 < c_,1=1 * 1+0 /\ 1 < c_,0=0 * 1+0 /\ 0 < c_]<|RD.one 36 (RDO.ev [] [] λ n20=>?_)
  refine RD.one 37 (RDO.ev [] (ow 0 16) λ _=>?_)
  refine RD.fin<|RN.goP 38 [.row 1 2 0,.nw,.nw,.nw,.nw,.own 0,.own 0,.own 1,.row 6 3 0,.nw] [0 <= kv xs 3 /\ (0:Int) < 3 /\ kv xs 3 <= 9223372036854775807,3=3 * 1+0 /\ 3 < c_,I64 ((-(((kv xs 2) / 36) % 3)) * 40),-9223372036854775807 <= ((kv xs 2) / 36) % 3 /\ ((kv xs 2) / 36) % 3 <= 9223372036854775808,0 <= (kv xs 2) / 36 /\ (0:Int) < 3 /\ (kv xs 2) / 36 <= 9223372036854775807,0 <= kv xs 2 /\ (0:Int) < 36 /\ kv xs 2 <= 9223372036854775807,2=2 * 1+0 /\ 2 < c_] λ n21=>RN.dn 0 (.rows 1 3 (doorRow (n21+1) (n21+2) (n21+3)) 27 (0,0))<|RN.goP 13 [.ix (((kv xs 3) % 3).toNat),.row 0 (((kv xs 3) % 3).toNat) 0,.own 5] [(0+(((kv xs 3) % 3).toNat) * 1)=(((kv xs 3) % 3).toNat) * 1+0 /\ (((kv xs 3) % 3).toNat) < 3,(kv xs 3) % 3=((((kv xs 3) % 3).toNat:Nat):Int) /\ ((kv xs 3) % 3).toNat < 3] λ _=>RN.nt<|RN.nt<|RN.loop (σ:=Nat × List Bod × Option Addr × Nat × HL × HL) (λ ⟨j,bods,B_,d_,V_,U_⟩=>⟨[(2,vP (n1+0) 0),(3,vS kb 0 24 c_),(6,vP (n20+0) 0),(7,vI (j:Int))],[((n21+4),.rows 1 3 (doorRow (n21+1) (n21+2) (n21+3)) 27 (0,0)),((n21+3),.lit [vI 0,vI 2,vI 1,vI 2] 55 (0,0)),((n21+2),.lit [vI 0,vI 1] 55 (0,0)),((n21+1),.lit [] 55 (0,0)),((n21+0),.lit [vI (-12000),vI (-9000),vI (-1),vI 9000,vI 0,vI 0,vI 12000,vI 9000,vI 0,vI (-9000),vI 12000,vI (-1)] 25 (0,0)),((n20+0),.lit [vI (1+((kv xs 0) % 3)),.slice B_ j d_,vI (-12000),vI (-9000),vI 12000,vI 9000,vS (n21+0) 0 3 3,.slice (doorA (n21+1) (n21+2) (n21+3) (((kv xs 3) % 3).toNat)) (doorN (((kv xs 3) % 3).toNat)) (doorN (((kv xs 3) % 3).toNat)),vI (4000+(((kv xs 1) % 9) * 1000)),vI 0,vI ((-(((kv xs 2) / 36) % 3)) * 40),vI ((((kv xs 1) / 9) % 5) * 100),vI (((kv xs 2) % 4) * 100),vI ((((kv xs 2) / 4) % 3) * 512),vI (1+(((kv xs 2) / 12) % 3)),vI 60] 31 (0,0)),(kb,.rows 1 c_ (rowE intE (ks xs 24++rest)) 3 (0,0)),((n1+0),.lit [vI 0,.slice none 0 0,vI 0,vI 0,vI 0,vI 0,.slice none 0 0,.slice none 0 0,vI 0,vI 0,vI 0,vI 0,vI 0,vI 0,vI 0,vI 0] 31 (0,0))],[V_,U_],(j:Int) <= sCnt xs /\ bods.length=j /\ (∀ t,t < j -> ∃ A c,bods.getD t dB=bodyG xs t A c) /\ (∀ t,t < j -> ShH (bods.getD t dB).sh U_) /\ SlIs bodE 64 bods B_ d_ V_ /\ zeroOff B_,(sCnt xs).toNat - j⟩) (0,[],none,0,[],[]) [0,1,2,3,4,5,6,7] [0,1] (⟨by show (0:Int) <= _;omega,rfl,λ t ht=>absurd ht (Nat.not_lt_zero _),λ t ht=>absurd ht (Nat.not_lt_zero _),SlIs.nil _ _,trivial⟩) ?_
  rintro ⟨j,bods,B_,d_,V_,U_⟩ ⟨hj_,hbl_,hb_,hsh_,hs2_,hz2_⟩ mt23
  refine RN.go 2 [] λ _=>RN.draw [] []<|RD.goP [] [0,1,3,2,4,5,6,7,8,9] [.own 5,.row 6 3 0,.nw,.nw,.nw] [I64 ((1+((kv xs 0) % 3))+(((kv xs 3) / 3) % 3)),0 <= (kv xs 3) / 3 /\ (0:Int) < 3 /\ (kv xs 3) / 3 <= 9223372036854775807,0 <= kv xs 3 /\ (0:Int) < 3 /\ kv xs 3 <= 9223372036854775807,3=3 * 1+0 /\ 3 < c_]<|RD.fin<|RN.go 1 [] λ _=>RN.em ((j:Int) < (1+((kv xs 0) % 3))+(((kv xs 3) / 3) % 3)) 101 (λ h24=>?_) λ h24=>?_
  ·refine RN.goP 13 [.nw,.nw,.ix ((4+(2 * (j:Int))).toNat),.row 6 ((4+(2 * (j:Int))).toNat) 0] [(0+((4+(2 * (j:Int))).toNat) * 1)=((4+(2 * (j:Int))).toNat) * 1+0 /\ ((4+(2 * (j:Int))).toNat) < c_,4+(2 * (j:Int))=(((4+(2 * (j:Int))).toNat:Nat):Int) /\ (4+(2 * (j:Int))).toNat < 24,I64 (4+(2 * (j:Int))),I64 (2 * (j:Int))] λ _=>RN.sv 109 (congrArg (λ v_=>(vI v_:Value)) (ks_app (xs:=xs) (rest:=rest) (n:=24) (i:=4+2 * j) (by omega))) ?_
   have hbN:=kv_bd hl (4+2 * j)
   rw [show kv xs (4+2 * j)=bN xs j from rfl] at hbN
   refine RN.goP 11 [.nw,.nw,.ix ((5+(2 * (j:Int))).toNat),.row 6 ((5+(2 * (j:Int))).toNat) 0] [(0+((5+(2 * (j:Int))).toNat) * 1)=((5+(2 * (j:Int))).toNat) * 1+0 /\ ((5+(2 * (j:Int))).toNat) < c_,5+(2 * (j:Int))=(((5+(2 * (j:Int))).toNat:Nat):Int) /\ (5+(2 * (j:Int))).toNat < 24,I64 (5+(2 * (j:Int))),I64 (2 * (j:Int))] λ _=>RN.sv 115 (congrArg (λ v_=>(vI v_:Value)) (ks_app (xs:=xs) (rest:=rest) (n:=24) (i:=5+2 * j) (by omega))) ?_
   have hbM:=kv_bd hl (5+2 * j)
   rw [show kv xs (5+2 * j)=bM xs j from rfl] at hbM
   refine RN.go 6 [] λ _=>RN.ct (Hp:=[]) (Tp:=[]) [] [] (shapeOf_any (bN xs j) _) ?_
   rintro _ ⟨A25,c26,T27⟩ ⟨rfl,hsh28⟩
   dsimp only at hsh28
   refine RN.goP 37 ([.nw,.nw]++ow 0 9++[.nw,.nw,.nw,.nw,.nw,.nw,.nw,.nw,.nw,.nw,.nw,.nw,.nw,.nw,.nw,.nw,.nw,.nw]) [0 <= (bM xs j) / 5000 /\ (0:Int) < 5 /\ (bM xs j) / 5000 <= 9223372036854775807,0 <= bM xs j /\ (0:Int) < 5000 /\ bM xs j <= 9223372036854775807,I64 (((((bN xs j) / 13000) % 9) - 4) * 300),I64 ((((bN xs j) / 13000) % 9) - 4),0 <= (bN xs j) / 13000 /\ (0:Int) < 9 /\ (bN xs j) / 13000 <= 9223372036854775807,0 <= bN xs j /\ (0:Int) < 13000 /\ bN xs j <= 9223372036854775807,I64 (((((bM xs j) / 550) % 9) - 4) * 300),I64 ((((bM xs j) / 550) % 9) - 4),0 <= (bM xs j) / 550 /\ (0:Int) < 9 /\ (bM xs j) / 550 <= 9223372036854775807,0 <= bM xs j /\ (0:Int) < 550 /\ bM xs j <= 9223372036854775807,I64 (((((bM xs j) / 50) % 11) - 5) * 800),I64 ((((bM xs j) / 50) % 11) - 5),0 <= (bM xs j) / 50 /\ (0:Int) < 11 /\ (bM xs j) / 50 <= 9223372036854775807,0 <= bM xs j /\ (0:Int) < 50 /\ bM xs j <= 9223372036854775807,I64 (((((bN xs j) / 1000) % 13) - 6) * 900),I64 ((((bN xs j) / 1000) % 13) - 6),0 <= (bN xs j) / 1000 /\ (0:Int) < 13 /\ (bN xs j) / 1000 <= 9223372036854775807,0 <= bN xs j /\ (0:Int) < 1000 /\ bN xs j <= 9223372036854775807,0 <= bN xs j /\ (0:Int) < 7 /\ bN xs j <= 9223372036854775807,0 <= bM xs j /\ (0:Int) < 50 /\ bM xs j <= 9223372036854775807] λ n29=>RN.dn 0 (.rows 1 5 (irow [1024,1024,512,2048,0]) 3 (0,0))<|RN.goP 12 ([.ix ((((bM xs j) / 5000) % 5).toNat),.row 0 ((((bM xs j) / 5000) % 5).toNat) 0]++ow 1 5++[.own 7]++ow 1 9) [(0+((((bM xs j) / 5000) % 5).toNat) * 1)=((((bM xs j) / 5000) % 5).toNat) * 1+0 /\ ((((bM xs j) / 5000) % 5).toNat) < 5,((bM xs j) / 5000) % 5=(((((bM xs j) / 5000) % 5).toNat:Nat):Int) /\ (((bM xs j) / 5000) % 5).toNat < 5] λ n30=>RN.app bodEOk bods [bodyG xs j A25 c26] 1 0 hbl_.symm hs2_ (by rw [hbl_];show j+1 <= 100000000;omega) ?_
   rintro A31 c32 T33 ⟨hs34,hz35⟩
   refine RN.goP 10 [.own 8,.nw] [I64 ((j:Int)+1)] λ _=>?_
   have hz2:=hz35 hz2_
   refine RN.pt [2,1,0]<|RN.jt ?_
   refine mt23 (j+1,bods++[(bodyG xs j A25 c26)],A31,c32,T33,U_++T27) [3,4,5,6,7,8,9,10] [1,0] ?_
   try dsimp only
   refine ⟨⟨by omega,by rw [List.length_append,hbl_];rfl,?_,?_,hs34,hz2⟩,by omega⟩
   ·intro t ht
    rcases Nat.lt_or_ge t j with h | h
    ·rw [getD_app (by omega)];exact hb_ t h
    ·have:t=bods.length:=by omega
     subst this
     rw [getD_last,hbl_];exact ⟨_,_,rfl⟩
   ·intro t ht
    rcases Nat.lt_or_ge t j with h | h
    ·rw [getD_app (by omega)];exact (hsh_ t h).left
    ·have:t=bods.length:=by omega
     subst this
     rw [getD_last];exact ShH.right hsh28
  ·refine RN.go 7 [] λ _=>?_
   have ej:(j:Int)=sCnt xs:=by unfold sCnt sPl;unfold sCnt sPl at hj_;omega
   obtain ⟨bb,rest2,rfl,rfl,hcap2⟩:=hs2_.open0 hz2_ (by decide) (by rw [hbl_];omega)
   refine RN.ot 0 (x:=(bb,.rows 9 d_ (rowE bodE (bods++rest2)) 64 (0,0)))<|RN.go 5 (ow 6 16++ow 8 16) λ _=>RN.dn 5 (.rows 4 3 (rowE bxE genR) 25 (0,0))<|RN.dn 3 (.rows 2 1 (rowE drE (genD 1)) 55 (0,0))<|RN.dn 2 (.rows 2 2 (rowE drE (genD 2)) 55 (0,0))<|RN.ret (ow 8 16) [0,5,3,2] [0] (v:=.agg #[vI (1+((kv xs 0) % 3)),vS bb 0 j d_,vI (-12000),vI (-9000),vI 12000,vI 9000,vS (n21+0) 0 3 3,.slice (doorA (n21+1) (n21+2) (n21+3) (((kv xs 3) % 3).toNat)) (doorN (((kv xs 3) % 3).toNat)) (doorN (((kv xs 3) % 3).toNat)),vI (4000+(((kv xs 1) % 9) * 1000)),vI 0,vI ((-(((kv xs 2) / 36) % 3)) * 40),vI ((((kv xs 1) / 9) % 5) * 100),vI (((kv xs 2) % 4) * 100),vI ((((kv xs 2) / 4) % 3) * 512),vI (1+(((kv xs 2) / 12) % 3)),vI 60]) (H':=(ap [(bb,.rows 9 d_ (rowE bodE (bods++rest2)) 64 (0,0)),((n21+0),.rows 4 3 (rowE bxE genR) 25 (0,0)),((n21+2),.rows 2 1 (rowE drE (genD 1)) 55 (0,0)),((n21+3),.rows 2 2 (rowE drE (genD 2)) 55 (0,0))] [U_])) ?_
   have hbod:∀ k,k < j -> (bods++rest2).getD (0+k) dB=bods.getD k dB:=λ k hk=>by rw [Nat.zero_add,getD_app (by omega)]
   refine ⟨((⟨1+((kv xs 0) % 3),bb,0,j,d_,d_,bods++rest2,⟨-12000,-9000,12000,9000⟩,some ⟨(n21+0),0,none⟩,3,3,doorA (n21+1) (n21+2) (n21+3) (kv xs 3 % 3).toNat,doorN (kv xs 3 % 3).toNat,doorN (kv xs 3 % 3).toNat,4000+(((kv xs 1) % 9) * 1000),⟨0,(-(((kv xs 2) / 36) % 3)) * 40⟩,(((kv xs 1) / 9) % 5) * 100,((kv xs 2) % 4) * 100,(((kv xs 2) / 4) % 3) * 512,1+(((kv xs 2) / 12) % 3),60⟩:Setup),[((n21+0),.rows 4 3 (rowE bxE genR) 25 (0,0)),((n21+2),.rows 2 1 (rowE drE (genD 1)) 55 (0,0)),((n21+3),.rows 2 2 (rowE drE (genD 2)) 55 (0,0))]++U_),(by simp [ap]),rfl,?_⟩
   refine ⟨rfl,ej,rfl,(by rw [hbl_] at hcap2;exact hcap2),(by rw [hbl_] at hcap2;show 0+j <= d_;omega),⟨rfl,rfl,rfl,rfl,rfl,rfl,rfl,rfl⟩,λ k hk=>?_,λ F hbF hF=>⟨⟨by show (0:Int) <= 1+kv xs 0 % 3 /\ 1+kv xs 0 % 3 <= 1000000;omega,by show j <= 1000000;omega⟩,hbF,by show 0+j <= d_;rw [hbl_] at hcap2;omega,λ k hk=>?_⟩,⟨⟨rfl,rfl⟩,λ F hF=>⟨RowL.whole (xs:=genR) (hF _ (List.mem_append_left _ (List.mem_cons_self))) (Nat.le_refl _),doors_rowL (hF _ (List.mem_append_left _ (List.mem_cons_of_mem _ (List.mem_cons_self)))) (hF _ (List.mem_append_left _ (List.mem_cons_of_mem _ (List.mem_cons_of_mem _ (List.mem_cons_self))))) _⟩⟩⟩
   ·obtain ⟨A,c,h⟩:=hb_ k hk
    exact ⟨A,c,by show (bods++rest2).getD (0+k) dB=_;rw [hbod k hk];exact h⟩
   ·show ShIn F ((bods++rest2).getD (0+k) dB).sh
    rw [hbod k hk]
    exact hsh_ k hk F λ x hx=>hF x (by simp [hx])
end Go.Proofs.YtkhifpbokgabbaaGreatDoor
