import Derived.Test.YtgibcbhfmomfbaaGreatDoorP41
import Derived.Test.YtgibcbhfmomfbaaGreatDoorP24
import Derived.Test.YtgibcbhfmomfbaaGreatDoorP42
set_option maxHeartbeats 4000000
set_option maxRecDepth 100000
set_option linter.unusedSimpArgs false
set_option linter.unusedVariables false
namespace Go.Proofs.YtgibcbhfmomfbaaGreatDoor
open Go.RowKit Go.Shelf
section
variable {α : Type} {e : Enc α} {P : Program} {T : TypeId} {inf : TypeInfo} {z : Value} {l : List α} {A : Option Addr} {cap : Nat} {Hl F : HL}
theorem SlIs.toRowL (h : SlIs e T l A cap Hl) (hF : ∀ x ∈ Hl,x ∈ F) : RowL e T F A l.length l:=by
  rcases h with ⟨rfl,rfl,rfl,rfl⟩ | ⟨b,o,full,rfl,rfl,h1,h2,h3⟩
  · exact .zero _
  · refine .rows b o (o + cap) full (0,0) _ l (hF _ (List.mem_singleton.2 rfl)) (by omega) rfl (λ k hk => ?_)
    have h4 : ((full.drop o).take l.length)[k]? = l[k]?:=by rw [h3]
    rw [List.getElem?_take,if_pos hk,List.getElem?_drop] at h4
    rw [List.getD_eq_getElem?_getD,List.getD_eq_getElem?_getD,h4]
theorem SlIs.src (ok : EncOk e P T inf z) (hw : 0 < e.w) (h : SlIs e T l A cap Hl) (hF : ∀ x ∈ Hl,x ∈ F) : SrcIn P e F A l.length l:=RowL.src ok hw (h.toRowL hF)
theorem SlIs.one {x : α} {b : Nat} : SlIs e T [x] (some ⟨b,0,none⟩) 1 [(b,.rows e.w 1 (rowE e [x]) T (0,0))]:=.inr ⟨b,0,[x],by simp,by simp,rfl,Nat.le_refl _,rfl⟩
end
section
variable {r : Option Nat} {P : Program} {N : Nat} {D : List Deferred} {F : HL} {w0 : World} {R : HL} {s : Cfg} {Q : Exit -> Act -> World -> Prop} {hards : List Nat} {Rd : HL}
def btC (i : Nat) (s : Cfg) : Cfg:=match s with
  | ⟨c,k,L,A,Ts⟩ => ⟨c,k,L,(oth [i] A.length).filterMap (A[·]?),[i].filterMap (A[·]?) :: Ts⟩
theorem bt_perm {A : HL} {Ts : List HL} {i : Nat} (h : ([i] ++ oth [i] A.length).isPerm (List.range A.length) = true) : (ap ((oth [i] A.length).filterMap (A[·]?)) ([i].filterMap (A[·]?) :: Ts)).Perm (ap A Ts):=by
  have hp:=pick_perm A [i] (oth [i] A.length) h
  show ((oth [i] A.length).filterMap (A[·]?) ++ ([i].filterMap (A[·]?) :: Ts).flatten).Perm (A ++ Ts.flatten)
  rw [List.flatten_cons,<- List.append_assoc]
  exact (List.perm_append_comm.trans hp).append_right _
theorem RD.bt (i : Nat) (hk : RD r P N D F w0 R hards Rd (btC i s) Q) (h : ([i] ++ oth [i] s.A.length).isPerm (List.range s.A.length) = true:=by kernel_rfl) : RD r P N D F w0 R hards Rd s Q:=by
  obtain ⟨c,k,L,A,Ts⟩:=s
  refine ⟨λ hR hs => ?_⟩
  have h1:=hk.h hR hs
  intro hcl a hF
  exact JJ.perm _ _ _ _ _ (bt_perm h) (h1 hcl a hF)
theorem RD.sv (t : Nat) {u v : Value} (e : u = v) (hk : RD r P N D F w0 R hards Rd (svC t v s) Q) (h : s.L.lookup t = some u:=by kernel_rfl) : RD r P N D F w0 R hards Rd s Q:=by
  subst e
  exact ⟨λ hR hs hcl a hF => hk.h hR hs hcl a (hF.fix h)⟩
variable {α : Type} {e : Enc α} {T : TypeId} {inf : TypeInfo} {z : Value}
theorem RN.appU (ok : EncOk e P T inf z) (l src : List α) (j : Nat) {A : Option Addr} {n cap : Nat} {Hl : HL} {B : Option Addr} {m c' : Nat} {tx : TypeId} (hn : n = l.length) (hsl : SlIs e T l A cap Hl) (hb : l.length + src.length <= 100000000)
    (hs : SrcIn P e (ap s.A s.Ts ++ F) B m src)
    (hk : ∀ (A' : Option Addr) (cap' : Nat) (Hl' : HL),(SlIs e T (l ++ src) A' cap' Hl' /\ (zeroOff A -> zeroOff A')) -> RN r P N D F w0 R (rpC j Hl' (putC N (.slice A' (n + src.length) cap') s)) Q)
    (h : appKS P N j (opAt s) s = some (A,n,cap,T,B,m,c',tx,Hl):=by kernel_rfl) : RN r P N D F w0 R s Q:=by
  obtain ⟨o,a1,a2,t,e',q0,q1,q2,q3,q4,q5,q6,q7,q9,q10,q11⟩:=appKS_spec h
  refine ⟨λ hR a w hF hRel hB => ?_⟩
  obtain ⟨c,k,L,Bs,Ts⟩:=s
  unfold opAt at q0
  cases c with
  | code c => cases q0
  | ex c => cases q0
  | drw _ _ => cases q0
  | ops ops i =>
    simp only at q0 q3 q4 q5 q9 q10 q11 hF hRel
    have hdrop : ops.toList.drop i = o :: ops.toList.drop (i + 1):=by
      have hlt : i < ops.toList.length:=(List.getElem?_eq_some_iff.1 q0).1
      rw [List.drop_eq_getElem_cons hlt,(List.getElem?_eq_some_iff.1 q0).2]
    show wpListIn _ _ _ _ _ _ _ _
    rw [hdrop,wpListIn,if_pos (by simp [Region.wanted,q1])]
    refine ⟨λ _ _ => trivial,?_⟩
    have hperm:=tail_perm (A:=Bs) q9 q10
    refine gives_upon (by rw [q2]; intro c hc; cases hc) (app_gives (x:=.slice B m c') (src:=src) (G:=Bs ++ ((oth [j] Ts.length).filterMap (Ts[·]?)).flatten) ok q2 q6 q3 q4 hn q5 hperm hsl (λ w hw => by have h5:=hs.2 c' q7 [] w hw; rwa [<- ok.size] at h5) hb a hF w hRel) ?_
    rintro u w' ⟨⟨A',cap',Hl'⟩,⟨rfl,hsl'⟩,hR',hB'⟩
    obtain ⟨L',p1⟩:=putL_some q11 (.slice A' (n + src.length) cap')
    have hh:=(hk A' cap' Hl' hsl').h hR
    have hpc : putC N (.slice A' (n + src.length) cap') ⟨.ops ops i,k,L,Bs,Ts⟩ = ⟨.ops ops (i + 1),k,L',Bs,Ts⟩:=by
      unfold putC
      simp only [q0,p1]
    rw [hpc] at hh
    refine hh _ w' (hF.put p1) (hR'.perm (List.Perm.append_right F ?_)) (hB.trans hB')
    show (Bs ++ (Hl' :: (oth [j] Ts.length).filterMap (Ts[·]?)).flatten).Perm _
    rw [List.flatten_cons,<- List.append_assoc,<- List.append_assoc]
    exact List.Perm.append_right _ List.perm_append_comm
theorem RDO.appU {i : Nat} (ix : List Nat) (ok : EncOk e P T inf z) (l src : List α) (j : Nat) {A : Option Addr} {n cap : Nat} {Hl : HL} {B : Option Addr} {m c' : Nat} {tx : TypeId} (hn : n = l.length) (hsl : SlIs e T l A cap Hl) (hb : l.length + src.length <= 100000000)
    (hs : SrcIn P e (ap s.A s.Ts ++ F) B m src)
    (hk : ∀ (A' : Option Addr) (cap' : Nat) (Hl' : HL),(SlIs e T (l ++ src) A' cap' Hl' /\ (zeroOff A -> zeroOff A')) -> RD r P N D F w0 R hards Rd (rpC j Hl' (dpC N i (.slice A' (n + src.length) cap') s)) Q)
    (h : appKS P N j (opAtD i s) s = some (A,n,cap,T,B,m,c',tx,Hl):=by kernel_rfl) (hx : (hards.contains i,rdOf ix s) = (true,Rd):=by kernel_rfl) : RDO r P N D F w0 R hards Rd i s Q:=by
  obtain ⟨o,a1,a2,t,e',q0,q1,q2,q3,q4,q5,q6,q7,q9,q10,q11⟩:=appKS_spec h
  obtain ⟨c,k,L,Bs,Ts⟩:=s
  unfold opAtD at q0
  simp only [Prod.mk.injEq] at hx
  cases c with
  | code c => cases q0
  | ex c => cases q0
  | ops _ _ => cases q0
  | drw ops li =>
    refine ⟨λ hR => ?_⟩
    simp only at q0 q3 q4 q5 q9 q10 q11
    have hperm:=tail_perm (A:=Bs) q9 q10
    have hpc : ∀ v L',putL N o.dst v L = some L' -> dpC N i v ⟨.drw ops li,k,L,Bs,Ts⟩ = ⟨.drw ops (setAt li i true),k,L',Bs,Ts⟩:=by
      intro v L' hl
      unfold dpC
      simp only [q0,hl]
    refine (RDO.give (Q:=Q) (by simpa using q0) (σ:=Option Addr × Nat × HL) (λ u y => u = .slice y.1 (n + src.length) y.2.1 /\ (SlIs e T (l ++ src) y.1 y.2.1 y.2.2 /\ (zeroOff A -> zeroOff y.1))) (λ y => ap Bs (y.2.2 :: (oth [j] Ts.length).filterMap (Ts[·]?))) q11 (λ a hF => ⟨by simp [Region.wanted,q1],λ w hRel hB => ?_⟩) (λ y => ⟨λ hi => ?_,λ hi x hm => List.mem_append_left _ (rd_in ix hx.2 x hm)⟩) ?_ : RDO r P N D F w0 R hards Rd i ⟨.drw ops li,k,L,Bs,Ts⟩ Q).h hR
    · refine gives_mono (app_gives (x:=.slice B m c') (src:=src) (G:=Bs ++ ((oth [j] Ts.length).filterMap (Ts[·]?)).flatten) ok q2 q6 q3 q4 hn q5 hperm hsl (λ w hw => by have h5:=hs.2 c' q7 [] w hw; rwa [<- ok.size] at h5) hb a hF w hRel) ?_
      rintro u w' ⟨y,h3,hR',hB'⟩
      refine ⟨y,h3,hR'.perm (List.Perm.append_right F ?_),hB'⟩
      show (Bs ++ (y.2.2 :: (oth [j] Ts.length).filterMap (Ts[·]?)).flatten).Perm _
      rw [List.flatten_cons,<- List.append_assoc,<- List.append_assoc]
      exact List.Perm.append_right _ List.perm_append_comm
    · exact absurd (List.contains_iff_mem.1 hx.1) hi
    · rintro u ⟨A',cap',Hl'⟩ ⟨rfl,h3⟩ L' hl hs
      have h1:=(hk A' cap' Hl' h3).h hR
      rw [hpc _ L' hl] at h1
      exact h1 hs
end
structure Rw where (A : Option Addr) (n c : Nat)
def rwE : Enc Rw:=⟨1,λ p k => match k with | 0 => .slice p.A p.n p.c | _ => default,⟨none,0,0⟩⟩
noncomputable def rwEI : TypeInfo:=match Tryz.prog.info? 44 with | some i => i | none => ⟨.bool,"",0,0,false,0,0,none,false,#[]⟩
noncomputable def rwEZ : Value:=match rwEI.zero with | some z => z | none => .bool false
theorem rwEOk : EncOk rwE Tryz.prog 44 rwEI rwEZ where
 info:=by kernel_rfl
 zero:=by kernel_rfl
 size:=by kernel_rfl
 zsize:=by kernel_rfl
 zcell:=λ k hk => by
  have h : ∀ k < 1,rwEZ.cells[k]? = some (rwE.cell rwE.dflt k):=by intro k hk; (iterate 1 (rcases k with _ | k; · kernel_rfl)); omega
  exact h k hk
 one:=λ x k => by unfold rwE; dsimp only; split <;> rfl
 bytes:=Nat.le_of_ble_eq_true (by kernel_rfl)
inductive RwIn (F : HL) (xs : List Inp) : Rw -> Prop
 | mk (b o N : Nat) (full : List Inp) (c : Nat) (hI : (b,.rows 3 N (inrow full) 24 (0,0)) ∈ F) (hir : o + xs.length <= N) (hx : ∀ k,k < xs.length -> full.getD (o + k) dI = xs.getD k dI) (hcap : xs.length <= c) : RwIn F xs ⟨some ⟨b,o * 3,none⟩,xs.length,c⟩
structure RwsIn (F : HL) (rs : List Rw) (xss : List (List Inp)) : Prop where
 len : rs.length = xss.length
 row : ∀ k,k < rs.length -> RwIn F (xss.getD k []) (rs.getD k rwE.dflt)
def RwsT (rs : List Rw) (xss : List (List Inp)) (T : HL) : Prop:=∀ F,(∀ x ∈ T,x ∈ F) -> RwsIn F rs xss
theorem RwsIn.get {F : HL} {rs : List Rw} {xss : List (List Inp)} (h : RwsIn F rs xss) {k : Nat} (hk : k < rs.length) : ∃ b o N full c,rs.getD k rwE.dflt = ⟨some ⟨b,o * 3,none⟩,(xss.getD k []).length,c⟩ /\ (b,.rows 3 N (inrow full) 24 (0,0)) ∈ F /\ o + (xss.getD k []).length <= N /\ (∀ i,i < (xss.getD k []).length -> full.getD (o + i) dI = (xss.getD k []).getD i dI) /\ (xss.getD k []).length <= c:=by
 have h1:=h.row k hk
 generalize rs.getD k rwE.dflt = p at h1 ⊢
 cases h1 with
 | mk b o N full c hI hir hx hc => exact ⟨b,o,N,full,c,rfl,hI,hir,hx,hc⟩
theorem SlIs.rw {xs : List Inp} {A : Option Addr} {c : Nat} {T F : HL} (h : SlIs inpE 24 xs A c T) (hF : ∀ x ∈ T,x ∈ F) (h1 : 1 <= xs.length) {n : Nat} (hn : n = xs.length) : RwIn F xs ⟨A,n,c⟩:=by
 subst hn
 rcases h with ⟨_,_,rfl,_⟩ | ⟨b,o,full,rfl,rfl,h2,h3,h4⟩
 ·simp at h1
 ·refine .mk b o (o + c) full c (hF _ (List.mem_singleton.2 rfl)) (by omega) (λ k hk => ?_) h3
  have h5 : ((full.drop o).take xs.length)[k]? = xs[k]?:=by rw [h4]
  rw [List.getElem?_take,if_pos hk,List.getElem?_drop] at h5
  rw [List.getD_eq_getElem?_getD,List.getD_eq_getElem?_getD,h5]
theorem RwsT.nil : RwsT [] [] []:=λ F _ => ⟨rfl,λ k hk => absurd hk (Nat.not_lt_zero _)⟩
theorem getD_snoc {α : Type} (l : List α) (x d : α) (k : Nat) : (l ++ [x]).getD k d = if k < l.length then l.getD k d else if k = l.length then x else d:=by
 rw [List.getD_eq_getElem?_getD,List.getElem?_append]
 split
 ·rw [List.getD_eq_getElem?_getD]
 ·split
  ·next h => subst h; simp
  ·rw [List.getElem?_eq_none (by simp; omega)]; rfl
theorem RwsT.snoc {rs : List Rw} {xss : List (List Inp)} {T T1 : HL} {xs : List Inp} {A : Option Addr} {c n : Nat} (h : RwsT rs xss T) (hs : SlIs inpE 24 xs A c T1) (h1 : 1 <= xs.length) (hn : n = xs.length) : RwsT (rs ++ [⟨A,n,c⟩]) (xss ++ [xs]) (T ++ T1):=λ F hF => by
 have h2:=h F λ x hx => hF x (List.mem_append_left _ hx)
 refine ⟨by simp [h2.len],λ k hk => ?_⟩
 rw [getD_snoc,getD_snoc,<- h2.len]
 by_cases hk1 : k < rs.length
 ·rw [if_pos hk1,if_pos hk1]; exact h2.row k hk1
 ·have : k = rs.length:=by simp at hk; omega
  rw [if_neg hk1,if_neg hk1,if_pos this,if_pos this]
  exact hs.rw (λ x hx => hF x (List.mem_append_right _ hx)) h1 hn
def rowsG (pl : Int) (xs : List Int) (n : Nat) : List (List Inp):=(List.range n).map λ t : Nat => rowL pl xs (t : Int) pl.toNat
theorem rowsG_succ (pl : Int) (xs : List Int) (n : Nat) : rowsG pl xs (n + 1) = rowsG pl xs n ++ [rowL pl xs (n : Int) pl.toNat]:=by simp [rowsG,List.range_succ]
theorem rowsG_len (pl : Int) (xs : List Int) (n : Nat) : (rowsG pl xs n).length = n:=by simp [rowsG]
theorem rowsG_get {pl : Int} {xs : List Int} {n k : Nat} (h : k < n) : (rowsG pl xs n).getD k [] = rowL pl xs (k : Int) pl.toNat:=by simp [rowsG,h]
theorem row_ap (S : Setup) (A : Option Addr) (n cap : Nat) (xs : List Int) (t : Int) (F : HL) (hl : ArgL F A n xs) (hn : n <= 9223372036854775807) (hp : 0 <= S.players /\ S.players <= 1000000) (ht : 0 <= t /\ t <= 1000000) : Sp Tryz.prog 44 #[Setup.v S,.slice A n cap,vI t] (ap [] []) F (λ u H' => ∃ x : Option Addr × Nat × HL,H' = ap [] [x.2.2] /\ (u = .slice x.1 S.players.toNat x.2.1 /\ SlIs inpE 24 (rowL S.players xs t S.players.toNat) x.1 x.2.1 x.2.2 /\ zeroOff x.1)):=row_any S A n cap xs t F hl hn hp ht
theorem rows_run (S : Setup) (A : Option Addr) (n cap : Nat) (xs : List Int) (c : Int) (cnt : Nat) (F : HL) (hl : ArgL F A n xs) (hn : n <= 9223372036854775807) (hp : 1 <= S.players /\ S.players <= 1000000) (hc : c = (cnt : Int)) (h20 : cnt <= 20) : Sp Tryz.prog 20 #[(Setup.v S),.slice A n cap,vI c] [] F (λ u H' => ∃ x : (Option Addr × Nat × List Rw) × HL × HL,H' = ap [] [x.2.1,x.2.2] /\ (u = .slice x.1.1 cnt x.1.2.1 /\ SlIs rwE 44 x.1.2.2 x.1.1 x.1.2.1 x.2.1 /\ x.1.2.2.length = cnt /\ RwsT x.1.2.2 (rowsG S.players xs cnt) x.2.2)):=by
 refine Sp.run Tryz.func20 rfl mn (A:=[]) (Ts:=[]) rfl λ w0 => ?_
 refine RN.go 18 [] λ n1 => RN.nt <| RN.nt <| RN.loop (σ:=Nat × Option Addr × Nat × List Rw × HL × HL) (λ ⟨t_,A_,c_,rs_,E_,T_⟩ => ⟨[(1,.slice A n cap),(2,vI c),(3,vP (n1 + 0) 0),(7,.slice A_ t_ c_),(8,vI (t_ : Int))],[((n1 + 0),.lit (Setup.l S) 33 (0,0))],[E_,T_],(t_ : Int) <= c /\ t_ <= 20 /\ SlIs rwE 44 rs_ A_ c_ E_ /\ rs_.length = t_ /\ RwsT rs_ (rowsG S.players xs t_) T_,20 - t_⟩) (0,none,0,[],[],[]) [0] [0,1] (⟨by omega,Nat.zero_le _,SlIs.nil _ _,rfl,RwsT.nil⟩) ?_
 rintro ⟨t_,A_,c_,rs_,E_,T_⟩ ⟨ht_,h20_,hs_,hrl_,hT_⟩ mt3
 refine RN.go 7 [] λ _ => RN.em ((t_ : Int) < c) 12 (λ h4 => ?_) λ h4 => ?_
 ·refine RN.go 5 [] λ _ => RN.em ((t_ : Int) < 20) 15 (λ h5 => ?_) λ h5 => ?_
  ·refine RN.go 10 (ow 0 16) λ _ => RN.ct (Hp:=[]) (Tp:=[]) [] [] (row_ap S A n cap xs (t_ : Int) _ hl.up hn (by omega) (by omega)) ?_
   rintro _ ⟨A6,c7,T8⟩ ⟨rfl,hs9,hz10⟩
   dsimp only at hs9 hz10
   refine RN.go 1 [] λ n11 => RN.app rwEOk rs_ [(⟨A6,S.players.toNat,c7⟩ : Rw)] 1 0 hrl_.symm hs_ (by simp; omega) ?_
   rintro A12 c13 T14 ⟨hs15,hz16⟩
   refine RN.goP 9 [.nw] [I64 ((t_ : Int) + 1)] λ _ => RN.pt [2,1,0] <| RN.jt ?_
   refine mt3 (t_ + 1,A12,c13,rs_ ++ [(⟨A6,S.players.toNat,c7⟩ : Rw)],T14,T_ ++ T8) [1] [1,0] ?_
   try dsimp only
   refine ⟨⟨by omega,by omega,hs15,by simp; omega,?_⟩,by omega⟩
   rw [rowsG_succ]
   exact hT_.snoc hs9 (by rw [rowL_len]; omega) (rowL_len _ _ _ _).symm
  ·(exfalso; omega)
 ·refine RN.go 17 [] λ _ => RN.ret [] [] [0,1] (v:=.slice A_ t_ c_) (H':=(ap [] [E_,T_])) ?_
  obtain rfl : t_ = cnt:=by omega
  exact ⟨((A_,c_,rs_),E_,T_),rfl,rfl,hs_,hrl_,hT_⟩
theorem rows_ap (S : Setup) (A : Option Addr) (n cap : Nat) (xs : List Int) (c : Int) (cnt : Nat) (F : HL) (hl : ArgL F A n xs) (hn : n <= 9223372036854775807) (hp : 1 <= S.players /\ S.players <= 1000000) (hc : c = (cnt : Int)) (h20 : cnt <= 20) : Sp Tryz.prog 20 #[Setup.v S,.slice A n cap,vI c] (ap [] []) F (λ u H' => ∃ x : (Option Addr × Nat × List Rw) × HL × HL,H' = ap [] [x.2.1,x.2.2] /\ (u = .slice x.1.1 cnt x.1.2.1 /\ SlIs rwE 44 x.1.2.2 x.1.1 x.1.2.1 x.2.1 /\ x.1.2.2.length = cnt /\ RwsT x.1.2.2 (rowsG S.players xs cnt) x.2.2)):=rows_run S A n cap xs c cnt F hl hn hp hc h20
theorem samee_any (A B : Option Addr) (n ca cb : Nat) (es : List Eff) (F : HL) (ha : RowL effE 99 F A n es) (hb : RowL effE 99 F B n es) (hn : n <= 1000000) : Sp Tryz.prog 23 #[.slice A n ca,.slice B n cb] [] F (λ u H' => u = .bool true /\ H' = []):=by
 refine Sp.run Tryz.func23 rfl mn (A:=[]) (Ts:=[]) rfl λ w0 => ?_
 refine RN.go 15 [] λ _ => RN.fx 10 (nt (decide_eq_true (rfl : (n : Int) = (n : Int)))) <| RN.go 10 [] λ _ => RN.loop (σ:=Nat) (λ k_ => ⟨[(0,.slice A n ca),(1,.slice B n cb),(5,vI (k_ : Int))],[],[],k_ <= n,n - k_⟩) 0 [] [] (Nat.zero_le _) ?_
 rintro k_ hI1 mt2
 refine RN.go 9 [] λ _ => RN.em ((k_ : Int) < (n : Int)) 14 (λ h3 => ?_) λ h3 => ?_
 ·refine RN.go 6 [] λ _ => RN.draw [] [] <| RD.go [] [0,1,4,5] [] ?_
  obtain ⟨qx4,ox4,Nx4,fx4,fzx4,hAx4,hqx4,hox4,hgx4⟩:=ha.at (k:=k_) (by omega)
  refine RD.sv 17 (congrArg (λ v_ => (.slice v_ n ca : Value)) hAx4) <| RD.ro (λ _ => (mc hqx4 mn)) ?_
  obtain ⟨qx5,ox5,Nx5,fx5,fzx5,hAx5,hqx5,hox5,hgx5⟩:=hb.at (k:=k_) (by omega)
  refine RD.sv 21 (congrArg (λ v_ => (.slice v_ n cb : Value)) hAx5) <| RD.ro (λ _ => (mc hqx4 (mc hqx5 mn))) <| RD.goP [] [2,6,3,7] [.ix k_,.ix k_,.rorow 0 (ox4 + k_) 0,.rorow 0 (ox4 + k_) 1,.rorow 0 (ox4 + k_) 2,.rorow 0 (ox4 + k_) 3,.rorow 1 (ox5 + k_) 0,.rorow 1 (ox5 + k_) 1,.rorow 1 (ox5 + k_) 2,.rorow 1 (ox5 + k_) 3] [((ox5 * 4 + k_ * 4) + 3) = (ox5 + k_) * 4 + 3 /\ (ox5 + k_) < Nx5,((ox5 * 4 + k_ * 4) + 2) = (ox5 + k_) * 4 + 2 /\ (ox5 + k_) < Nx5,((ox5 * 4 + k_ * 4) + 1) = (ox5 + k_) * 4 + 1 /\ (ox5 + k_) < Nx5,(ox5 * 4 + k_ * 4) = (ox5 + k_) * 4 + 0 /\ (ox5 + k_) < Nx5,((ox4 * 4 + k_ * 4) + 3) = (ox4 + k_) * 4 + 3 /\ (ox4 + k_) < Nx4,((ox4 * 4 + k_ * 4) + 2) = (ox4 + k_) * 4 + 2 /\ (ox4 + k_) < Nx4,((ox4 * 4 + k_ * 4) + 1) = (ox4 + k_) * 4 + 1 /\ (ox4 + k_) < Nx4,(ox4 * 4 + k_ * 4) = (ox4 + k_) * 4 + 0 /\ (ox4 + k_) < Nx4,(k_ : Int) = ((k_ : Nat) : Int) /\ k_ < n,(k_ : Int) = ((k_ : Nat) : Int) /\ k_ < n] <| RD.sv 20 (congrArg (λ v_ => (.agg #[vI v_.t,vI v_.i,vI v_.k,vI v_.v] : Value)) hgx4) <| RD.sv 24 (congrArg (λ v_ => (.agg #[vI v_.t,vI v_.i,vI v_.k,vI v_.v] : Value)) hgx5) ?_
  have hee_ : (decide ((es.getD k_ effE.dflt).t = (es.getD k_ effE.dflt).t) && (decide ((es.getD k_ effE.dflt).i = (es.getD k_ effE.dflt).i) && (decide ((es.getD k_ effE.dflt).k = (es.getD k_ effE.dflt).k) && (decide ((es.getD k_ effE.dflt).v = (es.getD k_ effE.dflt).v) && true)))) = true:=by simp
  refine RD.go [] [8] [.sq] <| RD.fin <| RN.go 1 [] λ _ => RN.fx 25 (nt hee_) <| RN.goP 9 [.nw] [I64 ((k_ : Int) + 1)] λ _ => ?_
  refine mt2 (k_ + 1) [] [] ?_
  try dsimp only
  exact ⟨by omega,by omega⟩
 ·refine RN.go 11 [] λ _ => ?_
  exact RN.ret [] [] [] ⟨rfl,rfl⟩
def plM (G : Nat -> Gm) (M : MemS) : Nat -> MemS
 | 0 => M
 | k + 1 => tkM (G k) (plM G M k)
def plE (G : Nat -> Gm) (M : MemS) : Nat -> List Eff
 | 0 => []
 | k + 1 => plE G M k ++ tkE (G k) (plM G M k)
theorem tkN_le (g : Gm) : ∀ (f : Nat) (M : MemS),tkN g f M <= f
 | 0,_ => Nat.le_refl _
 | f + 1,M => by
  rw [tkN]
  split
  ·omega
  ·have:=tkN_le g f (trM g M); omega
theorem tkE_len (g : Gm) (M : MemS) : (tkE g M).length <= 1001:=by
 have h1:=effsV_len g (tkN g 1000 M + 1) M
 have h2:=tkN_le g 1000 M
 unfold tkE
 omega
theorem plE_len (G : Nat -> Gm) (M : MemS) : ∀ k,(plE G M k).length <= 1001 * k
 | 0 => Nat.le_refl _
 | k + 1 => by
  have h1:=plE_len G M k
  have h2:=tkE_len (G k) (plM G M k)
  rw [plE,List.length_append]
  omega
abbrev gmX (S : Setup) (j : Nat) (xs : List Inp) : Gm:=gmB S j xs.length xs
abbrev rG (S : Setup) (j : Nat) (xss : List (List Inp)) : Nat -> Gm:=λ k => gmX S j (xss.getD k [])
structure TkOk (S : Setup) (j : Nat) (xs : List Inp) (M : MemS) : Prop where
 ex : ∃ m,m <= 999 /\ goodRun (gmX S j xs) (m + 1) M
 now : 0 <= M.get 0
 ok : wrongE S.players xs.length xs (M.get 0) = 0
theorem tk_of {g : Gm} {M : MemS} {m : Nat} (hm : m <= 999) (h : goodRun g (m + 1) M) : runM g (m + 1) M = tkM g M /\ effsV g (m + 1) M = tkE g M:=by
 rw [tkM,tkE,tkN_of m 1000 M h (by omega)]
 exact ⟨rfl,rfl⟩
theorem tick_tk {rs : List Bx} {ds : List Dr} {S : Setup} {bp gb b o N c j k : Nat} {full xs : List Inp} {M : MemS} {TB G0 F : HL} (hG : GameH rs ds bp gb S M (k + 20000) G0) (hj : j < 5) (hB : Book1 j bp TB) (hTB : ∀ x ∈ TB,x ∈ F) (hE : EffIn F) (hI : (b,.rows 3 N (inrow full) 24 (0,0)) ∈ F) (hir : o + xs.length <= N) (hni : xs.length <= 1000000) (hx : ∀ k,k < xs.length -> full.getD (o + k) dI = xs.getD k dI) (hk : TkOk S j xs M) :
  Sp Tryz.prog 15 #[vP gb 0,vS b (o * 3) xs.length c] (ap [] [G0]) F (λ u H' => ∃ x : (Option Addr × Nat × Nat) × HL × HL,H' = ap [] [x.2.1,x.2.2] /\ (GameH rs ds bp gb S (tkM (gmX S j xs) M) k x.2.1 /\ SlIs effE 99 (tkE (gmX S j xs) M) x.1.1 x.1.2.1 x.2.2 /\ u = .tuple #[.slice x.1.1 (tkE (gmX S j xs) M).length x.1.2.1,vI ((x.1.2.2 + 1 : Nat) : Int),vI 0])):=by
 obtain ⟨m,hm,hg⟩:=hk.ex
 obtain ⟨e1,e2⟩:=tk_of hm hg
 refine (tick_any (k:=k) (m:=m) (xs:=xs) (hG.weak (by omega)) hj hB hTB hE hI hir hni (by omega) rfl hx hk.now hg hk.ok).mono λ u H' h => ?_
 obtain ⟨⟨T,A,cc,E⟩,rfl,h1,h2,h3⟩:=h
 dsimp only at h1 h2 h3
 rw [e1] at h1
 rw [e2] at h2 h3
 exact ⟨((A,cc,m),T,E),rfl,h1,h2,h3⟩
end Go.Proofs.YtgibcbhfmomfbaaGreatDoor
