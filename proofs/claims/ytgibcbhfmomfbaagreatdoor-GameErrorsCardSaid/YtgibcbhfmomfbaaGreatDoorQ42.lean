import Derived.Test.YtgibcbhfmomfbaaGreatDoorQ40
import Derived.Test.YtgibcbhfmomfbaaGreatDoorQ24
import Derived.Test.YtgibcbhfmomfbaaGreatDoorQ41
import Derived.Test.YtgibcbhfmomfbaaGreatDoorQ26
import Derived.Test.YtgibcbhfmomfbaaGreatDoorQ39
set_option maxHeartbeats 4000000
set_option maxRecDepth 100000
set_option linter.unusedSimpArgs false
set_option linter.unusedVariables false
namespace Go.Proofs.YtgibcbhfmomfbaaGreatDoor
open Go.RowKit Go.Shelf
section
variable {α:Type} {e:Enc α} {P:Program} {T:TypeId} {inf:TypeInfo} {z:Value} {l:List α} {A:Option Addr} {cap:Nat} {Hl F:HL}
theorem SlIs.toRowL (h:SlIs e T l A cap Hl) (hF:∀ x ∈ Hl,x ∈ F):RowL e T F A l.length l:=by
  rcases h with ⟨rfl,rfl,rfl,rfl⟩ | ⟨b,o,full,rfl,rfl,h1,h2,h3⟩
  · exact .zero _
  · refine .rows b o (o+cap) full (0,0) _ l (hF _ (List.mem_singleton.2 rfl)) (by omega) rfl (λ k hk=>?_)
    have h4:((full.drop o).take l.length)[k]?=l[k]?:=by rw [h3]
    rw [List.getElem?_take,if_pos hk,List.getElem?_drop] at h4
    rw [List.getD_eq_getElem?_getD,List.getD_eq_getElem?_getD,h4]
end
section
variable {r:Option Nat} {P:Program} {N:Nat} {D:List Deferred} {F:HL} {w0:World} {R:HL} {s:Cfg} {Q:Exit -> Act -> World -> Prop} {hards:List Nat} {Rd:HL}
def btC (i:Nat) (s:Cfg):Cfg:=match s with
  | ⟨c,k,L,A,Ts⟩=>⟨c,k,L,(oth [i] A.length).filterMap (A[·]?),[i].filterMap (A[·]?) :: Ts⟩
theorem bt_perm {A:HL} {Ts:List HL} {i:Nat} (h:([i]++oth [i] A.length).isPerm (List.range A.length)=true):(ap ((oth [i] A.length).filterMap (A[·]?)) ([i].filterMap (A[·]?) :: Ts)).Perm (ap A Ts):=by
  have hp:=pick_perm A [i] (oth [i] A.length) h
  show ((oth [i] A.length).filterMap (A[·]?)++([i].filterMap (A[·]?) :: Ts).flatten).Perm (A++Ts.flatten)
  rw [List.flatten_cons,<- List.append_assoc]
  exact (List.perm_append_comm.trans hp).append_right _
theorem RN.bt (i:Nat) (hk:RN r P N D F w0 R (btC i s) Q) (h:([i]++oth [i] s.A.length).isPerm (List.range s.A.length)=true:=by kernel_rfl):RN r P N D F w0 R s Q:=by
  obtain ⟨c,k,L,A,Ts⟩:=s
  exact ⟨λ hR a w h1 h2 h3=>hk.h hR a w h1 (h2.perm ((bt_perm h).append_right F)) h3⟩
theorem RD.bt (i:Nat) (hk:RD r P N D F w0 R hards Rd (btC i s) Q) (h:([i]++oth [i] s.A.length).isPerm (List.range s.A.length)=true:=by kernel_rfl):RD r P N D F w0 R hards Rd s Q:=by
  obtain ⟨c,k,L,A,Ts⟩:=s
  refine ⟨λ hR hs=>?_⟩
  have h1:=hk.h hR hs
  intro hcl a hF
  exact JJ.perm _ _ _ _ _ (bt_perm h) (h1 hcl a hF)
variable {α:Type} {e:Enc α} {T:TypeId} {inf:TypeInfo} {z:Value}
theorem RN.appU (ok:EncOk e P T inf z) (l src:List α) (j:Nat) {A:Option Addr} {n cap:Nat} {Hl:HL} {B:Option Addr} {m c':Nat} {tx:TypeId} (hn:n=l.length) (hsl:SlIs e T l A cap Hl) (hb:l.length+src.length <= 100000000)
    (hs:SrcIn P e (ap s.A s.Ts++F) B m src)
    (hk:∀ (A':Option Addr) (cap':Nat) (Hl':HL),(SlIs e T (l++src) A' cap' Hl' /\ (zeroOff A -> zeroOff A')) -> RN r P N D F w0 R (rpC j Hl' (putC N (.slice A' (n+src.length) cap') s)) Q)
    (h:appKS P N j (opAt s) s=some (A,n,cap,T,B,m,c',tx,Hl):=by kernel_rfl):RN r P N D F w0 R s Q:=by
  obtain ⟨o,a1,a2,t,e',q0,q1,q2,q3,q4,q5,q6,q7,q9,q10,q11⟩:=appKS_spec h
  refine ⟨λ hR a w hF hRel hB=>?_⟩
  obtain ⟨c,k,L,Bs,Ts⟩:=s
  unfold opAt at q0
  cases c with
  | code c=>cases q0
  | ex c=>cases q0
  | drw _ _=>cases q0
  | ops ops i =>
    simp only at q0 q3 q4 q5 q9 q10 q11 hF hRel
    have hdrop:ops.toList.drop i=o :: ops.toList.drop (i+1):=by
      have hlt:i < ops.toList.length:=(List.getElem?_eq_some_iff.1 q0).1
      rw [List.drop_eq_getElem_cons hlt,(List.getElem?_eq_some_iff.1 q0).2]
    show wpListIn _ _ _ _ _ _ _ _
    rw [hdrop,wpListIn,if_pos (by simp [Region.wanted,q1])]
    refine ⟨λ _ _=>trivial,?_⟩
    have hperm:=tail_perm (A:=Bs) q9 q10
    refine gives_upon (by rw [q2];intro c hc;cases hc) (app_gives (x:=.slice B m c') (src:=src) (G:=Bs++((oth [j] Ts.length).filterMap (Ts[·]?)).flatten) ok q2 q6 q3 q4 hn q5 hperm hsl (λ w hw=>by have h5:=hs.2 c' q7 [] w hw;rwa [<- ok.size] at h5) hb a hF w hRel) ?_
    rintro u w' ⟨⟨A',cap',Hl'⟩,⟨rfl,hsl'⟩,hR',hB'⟩
    obtain ⟨L',p1⟩:=putL_some q11 (.slice A' (n+src.length) cap')
    have hh:=(hk A' cap' Hl' hsl').h hR
    have hpc:putC N (.slice A' (n+src.length) cap') ⟨.ops ops i,k,L,Bs,Ts⟩=⟨.ops ops (i+1),k,L',Bs,Ts⟩:=by
      unfold putC
      simp only [q0,p1]
    rw [hpc] at hh
    refine hh _ w' (hF.put p1) (hR'.perm (List.Perm.append_right F ?_)) (hB.trans hB')
    show (Bs++(Hl' :: (oth [j] Ts.length).filterMap (Ts[·]?)).flatten).Perm _
    rw [List.flatten_cons,<- List.append_assoc,<- List.append_assoc]
    exact List.Perm.append_right _ List.perm_append_comm
theorem RDO.appU {i:Nat} (ix:List Nat) (ok:EncOk e P T inf z) (l src:List α) (j:Nat) {A:Option Addr} {n cap:Nat} {Hl:HL} {B:Option Addr} {m c':Nat} {tx:TypeId} (hn:n=l.length) (hsl:SlIs e T l A cap Hl) (hb:l.length+src.length <= 100000000)
    (hs:SrcIn P e (ap s.A s.Ts++F) B m src)
    (hk:∀ (A':Option Addr) (cap':Nat) (Hl':HL),(SlIs e T (l++src) A' cap' Hl' /\ (zeroOff A -> zeroOff A')) -> RD r P N D F w0 R hards Rd (rpC j Hl' (dpC N i (.slice A' (n+src.length) cap') s)) Q)
    (h:appKS P N j (opAtD i s) s=some (A,n,cap,T,B,m,c',tx,Hl):=by kernel_rfl) (hx:(hards.contains i,rdOf ix s)=(true,Rd):=by kernel_rfl):RDO r P N D F w0 R hards Rd i s Q:=by
  obtain ⟨o,a1,a2,t,e',q0,q1,q2,q3,q4,q5,q6,q7,q9,q10,q11⟩:=appKS_spec h
  obtain ⟨c,k,L,Bs,Ts⟩:=s
  unfold opAtD at q0
  simp only [Prod.mk.injEq] at hx
  cases c with
  | code c=>cases q0
  | ex c=>cases q0
  | ops _ _=>cases q0
  | drw ops li =>
    refine ⟨λ hR=>?_⟩
    simp only at q0 q3 q4 q5 q9 q10 q11
    have hperm:=tail_perm (A:=Bs) q9 q10
    have hpc:∀ v L',putL N o.dst v L=some L' -> dpC N i v ⟨.drw ops li,k,L,Bs,Ts⟩=⟨.drw ops (setAt li i true),k,L',Bs,Ts⟩:=by
      intro v L' hl
      unfold dpC
      simp only [q0,hl]
    refine (RDO.give (Q:=Q) (by simpa using q0) (σ:=Option Addr × Nat × HL) (λ u y=>u=.slice y.1 (n+src.length) y.2.1 /\ (SlIs e T (l++src) y.1 y.2.1 y.2.2 /\ (zeroOff A -> zeroOff y.1))) (λ y=>ap Bs (y.2.2 :: (oth [j] Ts.length).filterMap (Ts[·]?))) q11 (λ a hF=>⟨by simp [Region.wanted,q1],λ w hRel hB=>?_⟩) (λ y=>⟨λ hi=>?_,λ hi x hm=>List.mem_append_left _ (rd_in ix hx.2 x hm)⟩) ?_:RDO r P N D F w0 R hards Rd i ⟨.drw ops li,k,L,Bs,Ts⟩ Q).h hR
    · refine gives_mono (app_gives (x:=.slice B m c') (src:=src) (G:=Bs++((oth [j] Ts.length).filterMap (Ts[·]?)).flatten) ok q2 q6 q3 q4 hn q5 hperm hsl (λ w hw=>by have h5:=hs.2 c' q7 [] w hw;rwa [<- ok.size] at h5) hb a hF w hRel) ?_
      rintro u w' ⟨y,h3,hR',hB'⟩
      refine ⟨y,h3,hR'.perm (List.Perm.append_right F ?_),hB'⟩
      show (Bs++(y.2.2 :: (oth [j] Ts.length).filterMap (Ts[·]?)).flatten).Perm _
      rw [List.flatten_cons,<- List.append_assoc,<- List.append_assoc]
      exact List.Perm.append_right _ List.perm_append_comm
    · exact absurd (List.contains_iff_mem.1 hx.1) hi
    · rintro u ⟨A',cap',Hl'⟩ ⟨rfl,h3⟩ L' hl hs
      have h1:=(hk A' cap' Hl' h3).h hR
      rw [hpc _ L' hl] at h1
      exact h1 hs
end
structure Rw where (A:Option Addr) (n c:Nat)
inductive RwIn (F:HL) (xs:List Inp):Rw -> Prop
 | mk (b o N:Nat) (full:List Inp) (c:Nat) (hI:(b,.rows 3 N (inrow full) 24 (0,0)) ∈ F) (hir:o+xs.length <= N) (hx:∀ k,k < xs.length -> full.getD (o+k) dI=xs.getD k dI) (hcap:xs.length <= c):RwIn F xs ⟨some ⟨b,o * 3,none⟩,xs.length,c⟩
theorem SlIs.rw {xs:List Inp} {A:Option Addr} {c:Nat} {T F:HL} (h:SlIs inpE 24 xs A c T) (hF:∀ x ∈ T,x ∈ F) (h1:1 <= xs.length) {n:Nat} (hn:n=xs.length):RwIn F xs ⟨A,n,c⟩:=by
 subst hn
 rcases h with ⟨_,_,rfl,_⟩ | ⟨b,o,full,rfl,rfl,h2,h3,h4⟩
 ·simp at h1
 ·refine .mk b o (o+c) full c (hF _ (List.mem_singleton.2 rfl)) (by omega) (λ k hk=>?_) h3
  have h5:((full.drop o).take xs.length)[k]?=xs[k]?:=by rw [h4]
  rw [List.getElem?_take,if_pos hk,List.getElem?_drop] at h5
  rw [List.getD_eq_getElem?_getD,List.getD_eq_getElem?_getD,h5]
abbrev gmX (S:Setup) (j:Nat) (xs:List Inp):Gm:=gmB S j xs.length xs
structure TkOk (S:Setup) (j:Nat) (xs:List Inp) (M:MemS):Prop where
 ex:∃ m,m <= 999 /\ goodRun (gmX S j xs) (m+1) M
 now:0 <= M.get 0
 ok:wrongE S.players xs.length xs (M.get 0)=0
theorem tk_of {g:Gm} {M:MemS} {m:Nat} (hm:m <= 999) (h:goodRun g (m+1) M):runM g (m+1) M=tkM g M /\ effsV g (m+1) M=tkE g M:=by
 rw [tkM,tkE,tkN_of m 1000 M h (by omega)]
 exact ⟨rfl,rfl⟩
theorem tick_both {rs:List Bx} {ds:List Dr} {S:Setup} {bp gb mb b o N c j k:Nat} {full xs:List Inp} {M:MemS} {TB T U F:HL} (now:Int) (hM:MemH mb M (k+20000) T) (hU:SetTl S rs ds U) (hnow:M.get 0=now) (hj:j < 5) (hB:Book1 j bp TB) (hTB:∀ x ∈ TB,x ∈ F) (hE:EffIn F) (hI:(b,.rows 3 N (inrow full) 24 (0,0)) ∈ F) (hir:o+xs.length <= N) (hni:xs.length <= 1000000) (hx:∀ k,k < xs.length -> full.getD (o+k) dI=xs.getD k dI) (hk:TkOk S j xs M \/ ¬ wrongE S.players xs.length xs now=0) :
  Sp Tryz.prog 15 #[vP gb 0,vS b (o * 3) xs.length c] (ap [(gb,.lit (gameL S bp mb) 88 (0,0))] [T,U]) F (λ u H'=>∃ x:(Option Addr × Nat × Nat) × HL × HL,H'=ap [(gb,.lit (gameL S bp mb) 88 (0,0))] [x.2.1,U,x.2.2] /\
   ((TkOk S j xs M /\ MemH mb (tkM (gmX S j xs) M) k x.2.1 /\ SlIs effE 99 (tkE (gmX S j xs) M) x.1.1 x.1.2.1 x.2.2 /\ u=.tuple #[.slice x.1.1 (tkE (gmX S j xs) M).length x.1.2.1,vI ((x.1.2.2+1:Nat):Int),vI 0]) \/
    (¬ wrongE S.players xs.length xs now=0 /\ MemH mb M k x.2.1 /\ u=.tuple #[.slice none 0 0,vI 0,vI (wrongE S.players xs.length xs now)]))):=by
 subst hnow
 have hl:RowL inpE 24 F (some ⟨b,o * 3,none⟩) xs.length xs:=.rows b o N full (0,0) _ xs hI hir rfl hx
 rcases hk with hk | hk
 ·obtain ⟨m,hm,hg⟩:=hk.ex
  obtain ⟨e1,e2⟩:=tk_of hm hg
  refine (tick_run S rs ds bp gb mb b o N xs.length c j m k full xs M TB T U F hj hB hTB hU hE hI hir hni (by omega) rfl hx (hM.weak (by omega)) hk.now hg hk.ok).mono λ u H' h=>?_
  obtain ⟨⟨T1,A,cc,E⟩,rfl,h1,h2,h3⟩:=h
  dsimp only at h1 h2 h3
  rw [e1] at h1
  rw [e2] at h2 h3
  exact ⟨((A,cc,m),T1,E),rfl,.inl ⟨hk,h1,h2,h3⟩⟩
 ·refine (tickx_run _ S bp gb mb xs.length c (k+20000) (some ⟨b,o * 3,none⟩) xs M T U F hl hni hM rfl hk).mono λ u H' h=>?_
  obtain ⟨rfl,rfl⟩:=h
  exact ⟨((none,0,0),T,[]),by simp [ap],.inr ⟨hk,hM.weak (by omega),rfl⟩⟩
theorem shK_bd {n:Int} (h:i64r n):0 <= shK n /\ shK n < 1000:=around_bd h 1000 (by decide)
theorem around_small {n m:Int} (h0:0 <= n) (h1:n < m):around n m=n:=by
  unfold around
  rw [if_neg (by omega)]
  exact Int.tmod_eq_of_lt h0 h1
theorem shapeS_shK {n:Int} (h:i64r n):shapeS (shK n)=shapeS n:=by
  have hb:=shK_bd h
  have e:shK (shK n)=shK n:=around_small hb.1 hb.2
  unfold shapeS shR
  rw [e]
theorem shape_all:∀ k:Fin 1000,shOk ⟨(shapeS ((k.1:Nat):Int)).1,(shapeS ((k.1:Nat):Int)).2,none,0⟩:=by decide +kernel
theorem shape_ok {n:Int} (h:i64r n) (A:Option Addr) (c:Nat):shOk ⟨(shapeS n).1,(shapeS n).2,A,c⟩:=by
  have hb:=shK_bd h
  have:=shape_all ⟨(shK n).toNat,by omega⟩
  simp only at this
  rw [Int.toNat_of_nonneg hb.1,shapeS_shK h] at this
  exact this
theorem inv_bd (i:Nat):0 <= ([1024,1024,512,2048,0]:List Int).getD i 0 /\ ([1024,1024,512,2048,0]:List Int).getD i 0 <= 4096:=by
  rcases i with _ | _ | _ | _ | _ | i
  all_goals first | decide | simp
section
variable {xs:List Int} {F:HL} {A:Option Addr} {n:Nat} {S:Setup} {T:HL}
theorem body_ok (hl:ArgL F A n xs) (k:Nat) (B:Option Addr) (c:Nat):vbodyP (bodyG xs k B c) ⟨-12000,-9000,12000,9000⟩:=by
  have h1:=kv_bd hl (4+2 * k)
  have h2:=kv_bd hl (5+2 * k)
  have h3:=inv_bd ((bM xs k / 5000) % 5).toNat
  simp only [vbodyP,bodyG,winP_cons,winP_nil,and_true]
  rw [show kv xs (4+2 * k)=bN xs k from rfl] at h1
  rw [show kv xs (5+2 * k)=bM xs k from rfl] at h2
  refine ⟨h3,⟨⟨?_,?_⟩,?_,?_⟩,⟨?_,?_⟩,⟨?_,?_⟩,⟨?_,?_⟩,?_,?_⟩ <;> omega
theorem doors_ok (i:Nat):(doorN i:Int) <= 16 /\ ∀ k,k < doorN i -> vdoorP 3 ((genD i).getD k drE.dflt):=by
  rcases i with _ | _ | i
  · exact ⟨by decide,λ k hk=>absurd hk (Nat.not_lt_zero _)⟩
  · exact ⟨by decide,by decide⟩
  · exact ⟨by show ((2:Nat):Int) <= 16;decide,by show ∀ k,k < 2 -> vdoorP 3 (([⟨0,2⟩,⟨1,2⟩]:List Dr).getD k drE.dflt);decide⟩
theorem gen_valid (hl:ArgL F A n xs) (h:SetG xs S T):valE S genR (genD (kv xs 3 % 3).toNat)=0:=by
  have h1:=sCnt_bd hl
  have h2:=sPl_bd hl
  have hn:=h.nb
  have k0:=kv_bd hl 0
  have k1:=kv_bd hl 1
  have k2:=kv_bd hl 2
  obtain ⟨e1,e2,e3,e4,e5,e6,e7,e8⟩:=h.nums
  obtain ⟨⟨m1,m2⟩,-⟩:=h.maps
  have hd:=doors_ok (kv xs 3 % 3).toNat
  unfold valE
  rw [if_pos,if_pos,if_pos]
  · intro k hk
    obtain ⟨B,c,hb⟩:=h.bod k hk
    rw [hb,e1]
    exact body_ok hl k B c
  · refine ⟨?_,?_,⟨?_,?_⟩,?_,?_⟩
    · have hpl:=h.pl
      simp only [vnumP,winP_cons,winP_nil,and_true,e2,e3,e4,e5,e6,e7,e8,hpl]
      refine ⟨⟨?_,?_⟩,⟨?_,?_⟩,⟨?_,?_⟩,⟨⟨?_,?_⟩,?_,?_⟩,⟨?_,?_⟩,⟨⟨?_,?_⟩,?_,?_⟩,⟨?_,?_⟩,?_,?_⟩ <;> omega
    · rw [e1];decide
    · rw [m1];decide
    · rw [m2];exact hd.1
    · rw [m1];decide
    · rw [m1,m2];exact hd.2
  · intro k hk
    obtain ⟨B,c,hb⟩:=h.bod k hk
    rw [hb]
    have:=kv_bd hl (4+2 * k)
    exact shape_ok ⟨by show _ <= kv xs (4+2 * k);omega,by show kv xs (4+2 * k) <= _;omega⟩ B c
end
theorem Sp.den {P:Program} {f:FuncId} {args:Array Value} {H F F':HL} {R:Value -> HL -> Prop} (h:Sp P f args H F R) (e:denL F=denL F'):Sp P f args H F' R:=by
  have e2:∀ X:HL,denL (X++F)=denL (X++F'):=λ X=>by simp only [denL,List.map_append] at e ⊢;rw [e]
  intro w hR
  refine (h w (hR.den (e2 H).symm)).mono ?_
  rintro e' w' ⟨v,H',h1,h2,h3,h4⟩
  exact ⟨v,H',h1,h2,h3.den (e2 H'),h4⟩
def ArgD (F:HL) (A:Option Addr) (n:Nat) (xs:List Int):Prop:=∃ F',denL F'=denL F /\ ArgL F' A n xs
theorem ArgL.d {F F':HL} {A:Option Addr} {n:Nat} {xs:List Int} (h:ArgL F A n xs) (e:denL F=denL F'):ArgD F' A n xs:=⟨F,e,h⟩
theorem ArgD.up {F X:HL} {A:Option Addr} {n:Nat} {xs:List Int} (h:ArgD F A n xs):ArgD (X++F) A n xs:=by
  obtain ⟨F',e,h⟩:=h
  exact ⟨X++F',by simp only [denL,List.map_append] at e ⊢;rw [e],h.up⟩
theorem ArgD.ex {F:HL} {A:Option Addr} {n:Nat} {xs:List Int} (h:ArgD F A n xs):∃ F',ArgL F' A n xs:=by
  obtain ⟨F',e,h⟩:=h
  exact ⟨F',h⟩
theorem ArgD.use {F:HL} {A:Option Addr} {n:Nat} {xs:List Int} (h:ArgD F A n xs) {P:Program} {f:FuncId} {args:Array Value} {H:HL} {R:Value -> HL -> Prop} (k:∀ F',ArgL F' A n xs -> Sp P f args H F' R):Sp P f args H F R:=by
  obtain ⟨F',e,h⟩:=h
  exact (k F' h).den e
noncomputable def livesQ:Bool:=resQ tabsE [] (.bool true) (runK Tryz.prog 3 100000 (.fn 19 [] (tabH tabsE) 3))
theorem lives_q:livesQ=true:=by kernel_rfl
theorem lives_sp {F:HL}:Sp Tryz.prog 19 #[] (tabsE.map tabB) F λ v' H'=>v'=.bool true /\ H'=tabsE.map tabB :=
  (closed_sp (G:=3) (tabs:=tabsE) (picks:=[]) mixed rfl rfl rfl (by simp [tabsE]) lives_q).mono λ v' H' ⟨ν,rest,h1,h2⟩=>⟨by rw [h1];rfl,by simpa using h2⟩
noncomputable section
theorem lives_in {F:HL} (hF:(0,Blk.lit cefV 234 (0,0)) ∈ F):Sp Tryz.prog 19 #[] [] F λ u H'=>u=.bool true /\ H'=[] :=
  Sp.table hF λ F0=>lives_sp.mono λ u H' ⟨h1,h2⟩=>⟨[],⟨h1,rfl⟩,h2⟩
end
structure GF (xs:List Int) (S:Setup):Prop where
 pl:1 <= S.players /\ S.players <= 3
 nb:1 <= S.nb /\ S.nb <= 5
 rn:S.rn=3
 dn:S.dn <= 2
 sz:48 <= sizeOf S /\ sizeOf S <= 100
 val:valE S genR (genD (kv xs 3 % 3).toNat)=0
theorem gfacts {F:HL} {A:Option Addr} {n:Nat} {xs:List Int} (hl:ArgD F A n xs) {S:Setup} {T:HL} (h:SetG xs S T):GF xs S:=by
 obtain ⟨F',hl⟩:=hl.ex
 have h1:=sCnt_bd hl
 have h2:=sPl_bd hl
 have hn:=h.nb
 have hp:=h.pl
 obtain ⟨⟨m1,m2⟩,-⟩:=h.maps
 have hd:doorN (kv xs 3 % 3).toNat <= 2:=by
  generalize (kv xs 3 % 3).toNat=i
  rcases i with _ | _ | i
  ·exact Nat.zero_le _
  ·exact Nat.le_of_ble_eq_true rfl
  ·exact Nat.le_refl 2
 exact ⟨by omega,by omega,m1,by omega,by unfold sizeOf;omega,gen_valid hl h⟩
def rinP (n lo hi:Int):Prop:=lo <= n /\ n <= hi
instance (n lo hi:Int):Decidable (rinP n lo hi):=inferInstanceAs (Decidable (_ /\ _))
theorem properP_iff {b:Bx}:properP b ↔ (b.x0 <= b.x1 /\ b.y0 <= b.y1) /\ (-1048576 <= b.x0 /\ b.x0 <= 1048576) /\ (-1048576 <= b.y0 /\ b.y0 <= 1048576) /\ (-1048576 <= b.x1 /\ b.x1 <= 1048576) /\ (-1048576 <= b.y1 /\ b.y1 <= 1048576):=by
 simp only [properP,winP_cons,winP_nil,and_true]
theorem vbodyP_iff {b:Bod} {x:Bx}:vbodyP b x ↔ (0 <= b.mot.inv /\ b.mot.inv <= 4096) /\ ((-16384 <= b.mot.vx /\ b.mot.vx <= 16384) /\ (-16384 <= b.mot.vy /\ b.mot.vy <= 16384)) /\ (x.x0 <= b.mot.px /\ b.mot.px <= x.x1) /\ (x.y0 <= b.mot.py /\ b.mot.py <= x.y1) /\ ((-2147483647 <= b.a /\ b.a <= 2147483647) /\ (-2147483647 <= b.b /\ b.b <= 2147483647)):=by
 simp only [vbodyP,winP_cons,winP_nil,and_true]
theorem vnumP_iff {S:Setup}:vnumP S ↔ (1 <= S.players /\ S.players <= 8) /\ (S.players <= (S.nb:Int) /\ (S.nb:Int) <= 24) /\ (0 <= S.fog /\ S.fog <= 4194304) /\ ((-16384 <= S.g.x /\ S.g.x <= 16384) /\ (-16384 <= S.g.y /\ S.g.y <= 16384)) /\ (0 <= S.push /\ S.push <= 16384) /\ ((0 <= S.drag /\ S.drag <= 1024) /\ (0 <= S.rest /\ S.rest <= 1024)) /\ (1 <= S.rounds /\ S.rounds <= 4) /\ (0 <= S.fuel /\ S.fuel <= 1000):=by
 simp only [vnumP,winP_cons,winP_nil,and_true]
theorem vdoorP_iff {n:Nat} {d:Dr}:vdoorP n d ↔ ((0 <= d.a /\ d.a <= (n:Int) - 1) /\ (0 <= d.b /\ d.b <= (n:Int) - 1)) /\ ¬ d.a=d.b:=by
 simp only [vdoorP,winP_cons,winP_nil,and_true]
theorem valE_11 {S:Setup} {rs:List Bx} {ds:List Dr} (h:∀ k,k < S.nb -> shOk (S.body k).sh) (hn:¬ (valP S rs ds /\ ∀ k,k < S.nb -> vbodyP (S.body k) S.box)):11=valE S rs ds:=by
 rw [valE,if_pos h]
 split
 ·next h1=>rw [if_neg λ h2=>hn ⟨h1,h2⟩]
 ·rfl
theorem valE_0 {S:Setup} {rs:List Bx} {ds:List Dr} (h:∀ k,k < S.nb -> shOk (S.body k).sh) (h1:valP S rs ds) (h2:∀ k,k < S.nb -> vbodyP (S.body k) S.box):0=valE S rs ds:=by
 rw [valE,if_pos h,if_pos h1,if_pos h2]
theorem rin_any (n:Int) (lo:Int) (hi:Int)  (F:HL):Sp Tryz.prog 36 #[vI n,vI lo,vI hi] [] F (λ u H'=>u=.bool (decide (rinP n lo hi)) /\ H'=[]):=by
 refine Sp.run Tryz.func36 rfl mn (A:=[]) (Ts:=[]) rfl λ w0=>?_
 refine RN.go 11 [] λ _=>RN.em (n >= lo) 10 (λ h1=>?_) λ h1=>?_
 ·refine RN.go 7 [] λ _=>RN.ret [] [] [] (v:=.bool (decide (n <= hi))) (H':=[]) ?_
  exact ⟨by simp [rinP, *],rfl⟩
 ·refine RN.go 7 [] λ _=>RN.ret [] [] [] (v:=.bool false) (H':=[]) ?_
  exact ⟨by simp [rinP, *],rfl⟩
theorem rproper_any (b:Bx)  (F:HL):Sp Tryz.prog 35 #[.agg #[vI b.x0,vI b.y0,vI b.x1,vI b.y1]] [] F (λ u H'=>u=.bool (decide (properP b)) /\ H'=[]):=by
 refine Sp.run Tryz.func35 rfl mn (A:=[]) (Ts:=[]) rfl λ w0=>?_
 refine RN.go 19 [.own 0,.own 0] λ n1=>RN.em (b.x0 <= b.x1) 9 (λ h2=>?_) λ h2=>?_
 ·refine RN.go 7 [.own 0,.own 0] λ _=>RN.em (b.y0 <= b.y1) 16 (λ h3=>?_) λ h3=>?_
  ·refine RN.go 5 [.own 0] λ _=>RN.cp (rin_any b.x0 (-1048576) 1048576  _)<|RN.go 2 [] λ _=>RN.em (rinP b.x0 (-1048576) 1048576) 24 (λ h4=>?_) λ h4=>?_
   ·refine RN.go 5 [.own 0] λ _=>RN.cp (rin_any b.x1 (-1048576) 1048576  _)<|RN.go 2 [] λ _=>RN.em (rinP b.x1 (-1048576) 1048576) 32 (λ h5=>?_) λ h5=>?_
    ·refine RN.go 5 [.own 0] λ _=>RN.cp (rin_any b.y0 (-1048576) 1048576  _)<|RN.go 2 [] λ _=>RN.em (rinP b.y0 (-1048576) 1048576) 40 (λ h6=>?_) λ h6=>?_
     ·refine RN.go 5 [.own 0] λ _=>RN.cp (rin_any b.y1 (-1048576) 1048576  _)<|RN.go 4 [] λ _=>RN.ret [] [] [] (v:=.bool (decide (rinP b.y1 (-1048576) 1048576))) (H':=[]) ?_
      exact ⟨congrArg Value.bool (decide_eq_decide.2 ⟨λ h_=>properP_iff.2 (by unfold rinP at *;omega),λ h_=>by have h2_:=properP_iff.1 h_;unfold rinP at *;omega⟩),rfl⟩
     ·refine RN.go 10 [] λ _=>RN.ret [] [] [] (v:=.bool false) (H':=[]) ?_
      exact ⟨congrArg Value.bool (decide_eq_false (show ¬ properP b from λ h_=>by have h2_:=properP_iff.1 h_;unfold rinP at *;omega)).symm,rfl⟩
    ·refine RN.go 18 [] λ _=>RN.ret [] [] [] (v:=.bool false) (H':=[]) ?_
     exact ⟨congrArg Value.bool (decide_eq_false (show ¬ properP b from λ h_=>by have h2_:=properP_iff.1 h_;unfold rinP at *;omega)).symm,rfl⟩
   ·refine RN.go 26 [] λ _=>RN.ret [] [] [] (v:=.bool false) (H':=[]) ?_
    exact ⟨congrArg Value.bool (decide_eq_false (show ¬ properP b from λ h_=>by have h2_:=properP_iff.1 h_;unfold rinP at *;omega)).symm,rfl⟩
  ·refine RN.go 34 [] λ _=>RN.ret [] [] [] (v:=.bool false) (H':=[]) ?_
   exact ⟨congrArg Value.bool (decide_eq_false (show ¬ properP b from λ h_=>by have h2_:=properP_iff.1 h_;omega)).symm,rfl⟩
 ·refine RN.go 41 [] λ _=>RN.ret [] [] [] (v:=.bool false) (H':=[]) ?_
  exact ⟨congrArg Value.bool (decide_eq_false (show ¬ properP b from λ h_=>by have h2_:=properP_iff.1 h_;omega)).symm,rfl⟩
theorem left_any (a:V2) (b:V2) (q:V2)  (F:HL):Sp Tryz.prog 62 #[.agg #[vI a.x,vI a.y],.agg #[vI b.x,vI b.y],.agg #[vI q.x,vI q.y]] [] F (λ u H'=>u=vI (sideQ a b q) /\ H'=[]):=by
 refine Sp.run Tryz.func62 rfl mn (A:=[]) (Ts:=[]) rfl λ w0=>?_
 refine RN.go 36 [.own 1,.own 2,.own 0,.own 2,.own 1,.own 2,.own 0,.own 2] λ n1=>?_
 exact RN.ret [] [] [] ⟨rfl,rfl⟩
theorem rval_circle (r:Int) (A:Option Addr) (cap:Nat) (F:HL):Sp Tryz.prog 34 #[.agg #[vI r,.slice A 0 cap]] [] F (λ u H'=>u=.bool (decide (shOk ⟨r,[],A,cap⟩)) /\ H'=[]):=by
 refine Sp.run Tryz.func34 rfl mn (A:=[]) (Ts:=[]) rfl λ w0=>?_
 refine RN.go 28 [.own 0,.own 0] λ n1=>RN.em (r >= 1) 17 (λ h2=>?_) λ h2=>?_
 ·refine RN.go 7 [.own 0] λ _=>RN.ret [] [] [] (v:=.bool (decide (r <= 32768))) (H':=[]) ?_
  exact ⟨congrArg Value.bool (decide_eq_decide.2 ⟨λ h_=>shOk_circ.2 ⟨by omega,by omega⟩,λ h_=>by have h2_:=shOk_circ.1 h_;unfold circOk at h2_;omega⟩),rfl⟩
 ·refine RN.go 7 [] λ _=>RN.ret [] [] [] (v:=.bool false) (H':=[]) ?_
  exact ⟨congrArg Value.bool (decide_eq_false (λ h_=>by have h2_:=shOk_circ.1 h_;unfold circOk at h2_;omega)).symm,rfl⟩
theorem rval_poly (r:Int) (full:List V2) (b o N n cap:Nat) (fz:Nat × Nat) (F:HL) (hb:(b,.rows 2 N (vrow full) 31 fz) ∈ F) (ho:o+n <= N) (h1:1 <= n) (hnn:n <= 1000000):Sp Tryz.prog 34 #[.agg #[vI r,vS b (o * 2) n cap]] [] F (λ u H'=>u=.bool (decide (polOk r (λ k_=>full.getD (o+k_) ⟨0,0⟩) n)) /\ H'=[]):=by
 refine Sp.run Tryz.func34 rfl (mc hb mn) (A:=[]) (Ts:=[]) rfl λ w0=>?_
 refine RN.go 21 [.own 0] λ n1=>RN.fx 13 (decide_eq_false (show ¬ ((n:Int)=0) by omega))<|RN.go 10 [.own 0] λ _=>RN.en (r=0) 25 (λ h2=>?_) λ h2=>?_
 ·refine RN.go 4 [] λ _=>RN.em ((n:Int) < 3) 29 (λ h3=>?_) λ h3=>?_
  ·refine RN.go 11 [] λ _=>RN.ret [] [] [] (v:=.bool false) (H':=[]) ?_
   exact ⟨congrArg Value.bool (decide_eq_false (show ¬ polOk r (λ k_=>full.getD (o+k_) ⟨0,0⟩) n from λ h_=>by have:=h_.1;omega)).symm,rfl⟩
  ·refine RN.go 5 [] λ _=>RN.em ((n:Int) > 6) 32 (λ h4=>?_) λ h4=>?_
   ·refine RN.go 6 [] λ _=>RN.ret [] [] [] (v:=.bool false) (H':=[]) ?_
    exact ⟨congrArg Value.bool (decide_eq_false (show ¬ polOk r (λ k_=>full.getD (o+k_) ⟨0,0⟩) n from λ h_=>by have:=h_.1;omega)).symm,rfl⟩
   ·refine RN.go 10 [] λ _=>RN.loop (σ:=Nat) (λ k=>⟨[(1,vP (n1+0) 0),(3,vI (n:Int)),(4,vI (k:Int))],[((n1+0),.lit [vI r,vS b (o * 2) n cap] 74 (0,0))],[],k <= n /\ ∀ t,t < k -> inRP (full.getD (o+t) (⟨0,0⟩:V2)).x /\ inRP (full.getD (o+t) (⟨0,0⟩:V2)).y,n - k⟩) 0 [0] [] (⟨Nat.zero_le _,λ t ht=>absurd ht (Nat.not_lt_zero _)⟩) ?_
    rintro k ⟨hkl,hin⟩ mt6
    refine RN.go 8 [] λ _=>RN.em ((k:Int) < (n:Int)) 35 (λ h7=>?_) λ h7=>?_
    ·refine RN.goP 22 [.own 0,.ix k,.rorow 0 (o+k) 0,.rorow 0 (o+k) 1,.own 0,.own 0,.own 0] [((o * 2+k * 2)+1)=(o+k) * 2+1 /\ (o+k) < N,(o * 2+k * 2)=(o+k) * 2+0 /\ (o+k) < N,(k:Int)=((k:Nat):Int) /\ k < n] λ n8=>RN.em ((full.getD (o+k) ⟨0,0⟩).x < (-32768)) 46 (λ h9=>?_) λ h9=>?_
     ·refine RN.go 22 [] λ _=>RN.ret [] [] [] (v:=.bool false) (H':=[]) ?_
      exact ⟨congrArg Value.bool (decide_eq_false (show ¬ polOk r (λ k_=>full.getD (o+k_) ⟨0,0⟩) n from λ h_=>by have h2_:=h_.2.1 k (by omega);unfold inRP at h2_;dsimp only at h2_;omega)).symm,rfl⟩
     ·refine RN.go 5 [.own 0] λ _=>RN.em ((full.getD (o+k) ⟨0,0⟩).x > 32768) 51 (λ h10=>?_) λ h10=>?_
      ·refine RN.go 17 [] λ _=>RN.ret [] [] [] (v:=.bool false) (H':=[]) ?_
       exact ⟨congrArg Value.bool (decide_eq_false (show ¬ polOk r (λ k_=>full.getD (o+k_) ⟨0,0⟩) n from λ h_=>by have h2_:=h_.2.1 k (by omega);unfold inRP at h2_;dsimp only at h2_;omega)).symm,rfl⟩
      ·refine RN.go 5 [.own 0] λ _=>RN.em ((full.getD (o+k) ⟨0,0⟩).y < (-32768)) 56 (λ h11=>?_) λ h11=>?_
       ·refine RN.go 12 [] λ _=>RN.ret [] [] [] (v:=.bool false) (H':=[]) ?_
        exact ⟨congrArg Value.bool (decide_eq_false (show ¬ polOk r (λ k_=>full.getD (o+k_) ⟨0,0⟩) n from λ h_=>by have h2_:=h_.2.1 k (by omega);unfold inRP at h2_;dsimp only at h2_;omega)).symm,rfl⟩
       ·refine RN.go 6 [.own 0] λ _=>RN.em ((full.getD (o+k) ⟨0,0⟩).y > 32768) 60 (λ h12=>?_) λ h12=>?_
        ·refine RN.go 6 [] λ _=>RN.ret [] [] [] (v:=.bool false) (H':=[]) ?_
         exact ⟨congrArg Value.bool (decide_eq_false (show ¬ polOk r (λ k_=>full.getD (o+k_) ⟨0,0⟩) n from λ h_=>by have h2_:=h_.2.1 k (by omega);unfold inRP at h2_;dsimp only at h2_;omega)).symm,rfl⟩
        ·refine RN.goP 9 [.nw] [I64 ((k:Int)+1)] λ _=>?_
         refine mt6 (k+1) [1] [] ?_
         try dsimp only
         refine ⟨⟨by omega,λ t ht=>?_⟩,by omega⟩
         rcases Nat.lt_or_ge t k with h_ | h_
         ·exact hin t h_
         ·obtain rfl:t=k:=by omega
          exact ⟨⟨by omega,by omega⟩,⟨by omega,by omega⟩⟩
    ·refine RN.go 13 [] λ _=>RN.loop (σ:=Nat) (λ i_=>⟨[(1,vP (n1+0) 0),(3,vI (n:Int)),(6,vI (i_:Int))],[((n1+0),.lit [vI r,vS b (o * 2) n cap] 74 (0,0))],[],i_ <= n /\ ∀ t,t < i_ -> edgeF (λ k_=>full.getD (o+k_) ⟨0,0⟩) n t,n - i_⟩) 0 [0] [] (⟨Nat.zero_le _,λ t ht=>absurd ht (Nat.not_lt_zero _)⟩) ?_
     rintro i_ ⟨hil,hok⟩ mt14
     refine RN.go 8 [] λ _=>RN.em ((i_:Int) < (n:Int)) 63 (λ h15=>?_) λ h15=>?_
     ·refine RN.goP 16 [.nw,.nw] [0 <= (i_:Int)+1 /\ (0:Int) < (n:Int) /\ (i_:Int)+1 <= 9223372036854775807,I64 ((i_:Int)+1)] λ _=>?_
      have hm1:=Int.emod_nonneg ((i_:Int)+1) (show (n:Int) ≠ 0 by omega)
      have hm2:=Int.emod_lt_of_pos ((i_:Int)+1) (show (0:Int) < n by omega)
      refine RN.draw [] []<|RD.goP [] [0,2,5,7,10,1,6,3,8,4,9] [.own 0,.own 0,.ix i_,.ix ((((i_:Int)+1) % (n:Int)).toNat),.rorow 0 (o+i_) 0,.rorow 0 (o+i_) 1,.rorow 0 (o+((((i_:Int)+1) % (n:Int)).toNat)) 0,.rorow 0 (o+((((i_:Int)+1) % (n:Int)).toNat)) 1] [((o * 2+((((i_:Int)+1) % (n:Int)).toNat) * 2)+1)=(o+((((i_:Int)+1) % (n:Int)).toNat)) * 2+1 /\ (o+((((i_:Int)+1) % (n:Int)).toNat)) < N,(o * 2+((((i_:Int)+1) % (n:Int)).toNat) * 2)=(o+((((i_:Int)+1) % (n:Int)).toNat)) * 2+0 /\ (o+((((i_:Int)+1) % (n:Int)).toNat)) < N,((o * 2+i_ * 2)+1)=(o+i_) * 2+1 /\ (o+i_) < N,(o * 2+i_ * 2)=(o+i_) * 2+0 /\ (o+i_) < N,((i_:Int)+1) % (n:Int)=(((((i_:Int)+1) % (n:Int)).toNat:Nat):Int) /\ (((i_:Int)+1) % (n:Int)).toNat < n,(i_:Int)=((i_:Nat):Int) /\ i_ < n]<|RD.cp [] 11 (λ X_=>(left_any (full.getD (o+i_) ⟨0,0⟩) (full.getD (o+((((i_:Int)+1) % (n:Int)).toNat)) ⟨0,0⟩) (⟨0,0⟩:V2)  _))<|RD.go [] [12] []<|RD.fin<|RN.go 1 [] λ _=>RN.em (sideQ (full.getD (o+i_) ⟨0,0⟩) (full.getD (o+((((i_:Int)+1) % (n:Int)).toNat)) ⟨0,0⟩) (⟨0,0⟩:V2) <= 0) 82 (λ h16=>?_) λ h16=>?_
      ·refine RN.go 6 [] λ _=>RN.ret [] [] [] (v:=.bool false) (H':=[]) ?_
       exact ⟨congrArg Value.bool (decide_eq_false (show ¬ polOk r (λ k_=>full.getD (o+k_) ⟨0,0⟩) n from λ h_=>(h_.2.2 i_ (by omega)).1 h16)).symm,rfl⟩
      ·refine RN.go 9 [] λ _=>RN.loop (σ:=Nat) (λ q_=>⟨[(1,vP (n1+0) 0),(3,vI (n:Int)),(6,vI (i_:Int)),(7,vI (((i_:Int)+1) % (n:Int))),(8,vI (q_:Int))],[((n1+0),.lit [vI r,vS b (o * 2) n cap] 74 (0,0))],[],q_ <= n /\ ∀ t,t < q_ -> ¬ (t:Int)=(i_:Int) -> ¬ (t:Int)=nxtI n i_ -> ¬ sideQ (full.getD (o+i_) ⟨0,0⟩) (full.getD (o+(nxtI n i_).toNat) ⟨0,0⟩) (full.getD (o+t) ⟨0,0⟩) <= 0,n - q_⟩) 0 [0] [] (⟨Nat.zero_le _,λ t ht=>absurd ht (Nat.not_lt_zero _)⟩) ?_
       rintro q_ ⟨hk2l,hin2⟩ mt18
       refine RN.go 8 [] λ _=>RN.em ((q_:Int) < (n:Int)) 85 (λ h19=>?_) λ h19=>?_
       ·refine RN.go 6 [] λ _=>RN.draw [] []<|RD.go [] [0,1,2,3] []<|RD.en ((q_:Int)=(i_:Int)) 91 (λ h20=>?_) λ h20=>?_
        ·refine RD.go [] [4,5,6,7,8,9,11,14,16,19,21,10,15,20,12,17,22,13,18,23,24,25,26] []<|RD.fin<|RN.goP 10 [.nw] [I64 ((q_:Int)+1)] λ _=>?_
         refine mt18 (q_+1) [0] [] ?_
         try dsimp only
         refine ⟨⟨by omega,λ t ht e1_ e2_=>?_⟩,by omega⟩
         rcases Nat.lt_or_ge t q_ with h_ | h_
         ·exact hin2 t h_ e1_ e2_
         ·obtain rfl:t=q_:=by omega
          exact absurd h20 e1_
        ·refine RD.go [] [4,5,6,7,8] []<|RD.en ((q_:Int)=((i_:Int)+1) % (n:Int)) 96 (λ h21=>?_) λ h21=>?_
         ·refine RD.go [] [9,11,14,16,19,21,10,15,20,12,17,22,13,18,23,24,25,26] []<|RD.fin<|RN.goP 10 [.nw] [I64 ((q_:Int)+1)] λ _=>?_
          refine mt18 (q_+1) [0] [] ?_
          try dsimp only
          refine ⟨⟨by omega,λ t ht e1_ e2_=>?_⟩,by omega⟩
          rcases Nat.lt_or_ge t q_ with h_ | h_
          ·exact hin2 t h_ e1_ e2_
          ·obtain rfl:t=q_:=by omega
           exact absurd h21 e2_
         ·refine RD.goP [] [9,11,14,16,19,21,10,15,20,12,17,22,13,18,23] [.own 0,.own 0,.own 0,.ix i_,.ix ((((i_:Int)+1) % (n:Int)).toNat),.ix q_,.rorow 0 (o+i_) 0,.rorow 0 (o+i_) 1,.rorow 0 (o+((((i_:Int)+1) % (n:Int)).toNat)) 0,.rorow 0 (o+((((i_:Int)+1) % (n:Int)).toNat)) 1,.rorow 0 (o+q_) 0,.rorow 0 (o+q_) 1] [((o * 2+q_ * 2)+1)=(o+q_) * 2+1 /\ (o+q_) < N,(o * 2+q_ * 2)=(o+q_) * 2+0 /\ (o+q_) < N,((o * 2+((((i_:Int)+1) % (n:Int)).toNat) * 2)+1)=(o+((((i_:Int)+1) % (n:Int)).toNat)) * 2+1 /\ (o+((((i_:Int)+1) % (n:Int)).toNat)) < N,(o * 2+((((i_:Int)+1) % (n:Int)).toNat) * 2)=(o+((((i_:Int)+1) % (n:Int)).toNat)) * 2+0 /\ (o+((((i_:Int)+1) % (n:Int)).toNat)) < N,((o * 2+i_ * 2)+1)=(o+i_) * 2+1 /\ (o+i_) < N,(o * 2+i_ * 2)=(o+i_) * 2+0 /\ (o+i_) < N,(q_:Int)=((q_:Nat):Int) /\ q_ < n,((i_:Int)+1) % (n:Int)=(((((i_:Int)+1) % (n:Int)).toNat:Nat):Int) /\ (((i_:Int)+1) % (n:Int)).toNat < n,(i_:Int)=((i_:Nat):Int) /\ i_ < n]<|RD.cp [] 24 (λ X_=>(left_any (full.getD (o+i_) ⟨0,0⟩) (full.getD (o+((((i_:Int)+1) % (n:Int)).toNat)) ⟨0,0⟩) (full.getD (o+q_) ⟨0,0⟩)  _))<|RD.go [] [25,26] []<|RD.fin<|RN.go 1 [] λ _=>RN.em (sideQ (full.getD (o+i_) ⟨0,0⟩) (full.getD (o+((((i_:Int)+1) % (n:Int)).toNat)) ⟨0,0⟩) (full.getD (o+q_) ⟨0,0⟩) <= 0) 114 (λ h22=>?_) λ h22=>?_
          ·refine RN.go 6 [] λ _=>RN.ret [] [] [] (v:=.bool false) (H':=[]) ?_
           exact ⟨congrArg Value.bool (decide_eq_false (show ¬ polOk r (λ k_=>full.getD (o+k_) ⟨0,0⟩) n from λ h_=>(h_.2.2 i_ (by omega)).2 q_ (by omega) h20 h21 h22)).symm,rfl⟩
          ·refine RN.goP 9 [.nw] [I64 ((q_:Int)+1)] λ _=>?_
           refine mt18 (q_+1) [0] [] ?_
           try dsimp only
           refine ⟨⟨by omega,λ t ht e1_ e2_=>?_⟩,by omega⟩
           rcases Nat.lt_or_ge t q_ with h_ | h_
           ·exact hin2 t h_ e1_ e2_
           ·obtain rfl:t=q_:=by omega
            exact h22
       ·refine RN.goP 12 [.nw] [I64 ((i_:Int)+1)] λ _=>?_
        refine mt14 (i_+1) [0] [] ?_
        try dsimp only
        refine ⟨⟨by omega,λ t ht=>?_⟩,by omega⟩
        rcases Nat.lt_or_ge t i_ with h_ | h_
        ·exact hok t h_
        ·obtain rfl:t=i_:=by omega
         exact ⟨h16,λ s_ hs_=>hin2 s_ (by omega)⟩
     ·refine RN.go 11 [] λ _=>RN.ret [] [] [] (v:=.bool true) (H':=[]) ?_
      exact ⟨congrArg Value.bool (decide_eq_true (show polOk r (λ k_=>full.getD (o+k_) ⟨0,0⟩) n from ⟨⟨by omega,by omega,by omega⟩,λ t ht=>hin t (by omega),λ t ht=>hok t (by omega)⟩)).symm,rfl⟩
 ·refine RN.go 15 [] λ _=>RN.ret [] [] [] (v:=.bool false) (H':=[]) ?_
  exact ⟨congrArg Value.bool (decide_eq_false (show ¬ polOk r (λ k_=>full.getD (o+k_) ⟨0,0⟩) n from λ h_=>by have:=h_.1;omega)).symm,rfl⟩
theorem rval_any (s:Shp) (F:HL) (h:RowL vecE 31 F s.A s.poly.length s.poly) (hn:s.poly.length <= 1000000):Sp Tryz.prog 34 #[shV s] [] F (λ u H'=>u=.bool (decide (shOk s)) /\ H'=[]):=by
 obtain ⟨r,l,A,cap⟩:=s
 simp only at h hn
 rcases Nat.eq_zero_or_pos l.length with h0 | h0
 ·obtain rfl:l=[]:=List.eq_nil_of_length_eq_zero h0
  exact rval_circle r A cap F
 ·generalize hm:l.length=m at h h0 hn
  cases h with
  | zero=>omega
  | rows q o N full fz n xs hq ho hn' hx =>
   have:=rval_poly r full q o N m cap fz F hq ho h0 hn
   have e1:shOk ⟨r,l,some ⟨q,o * 2,none⟩,cap⟩ ↔ polOk r (λ k_=>full.getD (o+k_) ⟨0,0⟩) m:=by
    unfold shOk
    simp only
    rw [if_neg (by omega),hm]
    exact ⟨polOk_congr λ k hk=>(hx k hk).symm,polOk_congr λ k hk=>hx k hk⟩
   show Sp _ _ #[.agg #[vI r,.slice (some ⟨q,o * 2,none⟩) l.length cap]] _ _ (λ u H'=>u=.bool (decide (shOk ⟨r,l,some ⟨q,o * 2,none⟩,cap⟩)) /\ H'=[])
   rw [decide_eq_decide.2 e1,hm]
   exact this
end Go.Proofs.YtgibcbhfmomfbaaGreatDoor
