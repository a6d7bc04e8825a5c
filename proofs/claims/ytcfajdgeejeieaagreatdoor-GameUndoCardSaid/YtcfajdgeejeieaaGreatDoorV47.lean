import Derived.Test.YtcfajdgeejeieaaGreatDoorV24
import Derived.Test.YtcfajdgeejeieaaGreatDoorV27
import Derived.Test.YtcfajdgeejeieaaGreatDoorV46
set_option maxHeartbeats 4000000
set_option maxRecDepth 100000
set_option linter.unusedSimpArgs false
set_option linter.unusedVariables false
namespace Go.Proofs.YtcfajdgeejeieaaGreatDoor
open Go.RowKit
theorem clone_cellmem_entry_some (a:Addr) (n c:Nat) (xs:List (Int × Int)) (F:HL) (hl:SrcIn Tryz.prog entE F (some a) n xs) (hb:n <= 100000000):Sp Tryz.prog 59 #[.slice (some a) n c] [] F (λ u H'=>∃ x:Option Addr × Nat × HL,H'=ap [] [x.2.2] /\ (u=.slice x.1 n x.2.1 /\ ClS entE 128 xs x.1 x.2.1 x.2.2)):=by
 refine Sp.run Tryz.func59 rfl mn (A:=[]) (Ts:=[]) rfl λ w0=>?_
 refine RN.go 19 [] λ n1=>RN.nt<|RN.appN (A:=(some ⟨(n1+0),0,none⟩)) (B:=(some a)) (c':=c) entEOk xs 0 (λ a_ e_=>by cases e_;rfl) (m:=n) (tx:=123) hl.1.1.symm (by rw [hl.1.1];exact hb) (λ e_ he X w hR=>hl.2 c he X w hR) ?_
 rintro A2 c3 T4 hs5
 refine RN.go 3 [] λ _=>RN.ret [] [] [0] (v:=.slice A2 xs.length c3) (H':=(ap [] [T4])) ?_
 exact ⟨(A2,c3,T4),rfl,by rw [hl.1.1],_,hs5⟩
theorem clone_cellmem_entry_none (c:Nat) (F:HL):Sp Tryz.prog 59 #[.slice none 0 c] [] F (λ u H'=>∃ x:Option Addr × Nat × HL,H'=ap [] [x.2.2] /\ (u=.slice x.1 0 x.2.1 /\ ClS entE 128 [] x.1 x.2.1 x.2.2)):=by
 refine Sp.run Tryz.func59 rfl mn (A:=[]) (Ts:=[]) rfl λ w0=>?_
 refine RN.go 18 [] λ _=>RN.ret [] [] [] (v:=.slice none 0 0) (H':=(ap [] [])) ?_
 exact ⟨(none,0,[]),rfl,rfl,.nil _ _ _⟩
theorem clone_cellmem_entry_any (A:Option Addr) (n c:Nat) (xs:List (Int × Int)) (F:HL) (hl:SrcIn Tryz.prog entE F A n xs) (hb:n <= 100000000):Sp Tryz.prog 59 #[.slice A n c] (ap [] []) F (λ u H'=>∃ x:Option Addr × Nat × HL,H'=ap [] [x.2.2] /\ (u=.slice x.1 n x.2.1 /\ ClS entE 128 xs x.1 x.2.1 x.2.2)):=by
 cases A with
 | some a=>exact clone_cellmem_entry_some a n c xs F hl hb
 | none =>
  obtain rfl:n=0:=hl.1.2 rfl
  obtain rfl:xs=[]:=List.eq_nil_of_length_eq_zero hl.1.1
  exact clone_cellmem_entry_none c F
theorem mcheck_g (mb cb n:Nat) (A:Option Addr) (m cap:Nat) (base mk:Int) (F:HL) (hm:(mb,.lit [vS cb 0 n n,.slice A m cap,vI base] 125 (0,0)) ∈ F) (hb:0 <= base /\ base <= 1000000000) (hl:m <= 100000000) (h1:base <= mk) (h2:mk <= base+(m:Int)):Sp Tryz.prog 58 #[vP mb 0,vI mk] [] F (λ u H'=>u=vI 0 /\ H'=[]):=by
 refine Sp.run Tryz.func58 rfl (mc hm mn) (A:=[]) (Ts:=[]) rfl λ w0=>?_
 refine RN.go 18 [.ro 0] λ _=>RN.em (mk < base) 5 (λ h1=>?_) λ h1=>?_
 ·(exfalso;omega)
 ·refine RN.go 5 [] λ _=>RN.cp (mark_memb mb cb n A m cap base _ (ro_ap hm) hb hl)<|RN.go 4 [] λ _=>RN.em (mk > base+(m:Int)) 12 (λ h2=>?_) λ h2=>?_
  ·(exfalso;omega)
  ·refine RN.go 9 [] λ _=>?_
   exact RN.ret [] [] [] ⟨rfl,rfl⟩
abbrev encB (x:Nat × Int × Int):Array Value:=#[vI (x.1:Int),.agg #[vI x.2.1,vI x.2.2]]
def bkL (es:List (Int × Int)):List (Nat × Int × Int):=(List.range es.length).map λ k=>(es.length - 1 - k,es.getD (es.length - 1 - k) (0,0))
theorem bkL_len (es:List (Int × Int)):(bkL es).length=es.length:=by simp [bkL]
theorem bkL_get {es:List (Int × Int)} {k:Nat} (h:k < es.length):(bkL es)[k]?=some (es.length - 1 - k,es.getD (es.length - 1 - k) (0,0)):=by simp [bkL,h]
theorem bkL_of {es:List (Int × Int)} {i:Nat} {x:Nat × Int × Int} (e:(bkL es)[i]?=some x):i < es.length /\ x=(es.length - 1 - i,es.getD (es.length - 1 - i) (0,0)):=by
 have h1:i < es.length:=by have:=(List.getElem?_eq_some_iff.1 e).1;rwa [bkL_len] at this
 rw [bkL_get h1] at e
 exact ⟨h1,(Option.some.inj e).symm⟩
def undK (cs:List Int) (es:List (Int × Int)) (j:Nat):List Int:=undL cs (es.drop (es.length - j))
theorem undL_len (cs:List Int):∀ es:List (Int × Int),(undL cs es).length=cs.length
 | []=>rfl
 | e :: es=>by
  show ((undL cs es).set _ _).length=_
  rw [List.length_set,undL_len cs es]
theorem undK_zero (cs:List Int) (es:List (Int × Int)):undK cs es 0=cs:=by unfold undK;rw [Nat.sub_zero,List.drop_length];rfl
theorem undK_all (cs:List Int) (es:List (Int × Int)):undK cs es es.length=undL cs es:=by unfold undK;rw [Nat.sub_self];rfl
theorem undK_succ {cs:List Int} {es:List (Int × Int)} {j:Nat} (h:j < es.length):undK cs es (j+1)=(undK cs es j).set (es.getD (es.length - 1 - j) (0,0)).1.toNat (es.getD (es.length - 1 - j) (0,0)).2:=by
 have hlt:es.length - 1 - j < es.length:=by omega
 unfold undK
 rw [show es.length - (j+1)=es.length - 1 - j by omega,List.drop_eq_getElem_cons hlt,show es.length - 1 - j+1=es.length - j by omega,List.getD_eq_getElem?_getD,List.getElem?_eq_getElem hlt]
 rfl
theorem SlIs.capLe {α:Type} {e:Enc α} {T:TypeId} {l:List α} {A:Option Addr} {cap:Nat} {Hl:HL} (h:SlIs e T l A cap Hl):l.length <= cap:=by
 rcases h with ⟨_,rfl,rfl,_⟩ | ⟨b,o,full,_,_,h1,h2,h3⟩
 ·exact Nat.le_refl _
 ·exact h2
theorem getD_in {α:Type} {l:List α} {i:Nat} (h:i < l.length) (d:α):l.getD i d ∈ l:=by
 rw [List.getD_eq_getElem?_getD,List.getElem?_eq_getElem h]
 exact List.getElem_mem h
theorem SlIs.take {α:Type} {e:Enc α} {T:TypeId} {l:List α} {A:Option Addr} {cap:Nat} {Hl:HL} (h:SlIs e T l A cap Hl) (k:Nat):SlIs e T (l.take k) A cap Hl:=by
 rcases h with ⟨rfl,rfl,rfl,rfl⟩ | ⟨b,o,full,h1,h2,h3,h4,h5⟩
 ·rw [List.take_nil];exact SlIs.nil _ _
 ·refine .inr ⟨b,o,full,h1,h2,h3,by rw [List.length_take];omega,?_⟩
  rw [List.length_take]
  conv=>rhs;rw [<- h5]
  rw [List.take_take]
theorem irow_und {cs:List Int} {es:List (Int × Int)} {j:Nat} {a b:Int} (h:j < es.length) (e:(a,b)=es.getD (es.length - 1 - j) (0,0)) (h2:a.toNat < cs.length):updG (irow (undK cs es j)) a.toNat 0 (vI b)=irow (undK cs es (j+1)):=by
 rw [irow_set (by unfold undK;rw [undL_len];exact h2),undK_succ h,<- e]
theorem back_run (es:List (Int × Int)) (A:Option Addr) (c q lp:Nat) (X F:HL) (J:Nat -> HL -> Prop) (Jx:HL -> Prop) (T0:HL) (hn:es.length <= 100000000) (hl:RowL entE 128 F A es.length es) (hq:(q,.lit [.slice A es.length c] 123 (0,0)) ∈ F) (hY:∀ i x H Y,(bkL es)[i]?=some x -> J i H -> YL Tryz.prog lp (encB x) H (Y++(X++F)) (λ b H'=>(b=true /\ J (i+1) H') \/ (b=false /\ Jx H'))) (hJ0:J 0 T0):Sp Tryz.prog 92 #[.func (.yield lp) #[] #[],vP q 0] (ap [] [T0]) (X++F) (λ _ H'=>J (bkL es).length H' \/ Jx H'):=by
 refine Sp.run Tryz.func92 rfl (mc (List.mem_append_right _ hq) mn) (A:=[]) (Ts:=[T0]) rfl λ w0=>?_
 refine RN.goP 9 [.ro 0,.nw] [I64 ((es.length:Int) - 1)] λ _=>RN.sv 3 (congrArg (λ v_=>(vI v_:Value)) (show (es.length:Int) - 1=(es.length:Int) - 1 - ((0:Nat):Int) by omega))<|RN.loop (σ:=Nat × HL) (λ ⟨k,T_⟩=>⟨[(0,.func (.yield lp) #[] #[]),(1,vP q 0),(3,vI ((es.length:Int) - 1 - (k:Int)))],[],[T_],k <= es.length /\ J k T_,es.length - k⟩) (0,T0) [] [0] (⟨Nat.zero_le _,hJ0⟩) ?_
 rintro ⟨k,T_⟩ ⟨hi_,hJ_⟩ mt2
 refine RN.go 7 [] λ _=>RN.em ((es.length:Int) - 1 - (k:Int) >= 0) 8 (λ h3=>?_) λ h3=>?_
 ·refine RN.go 11 [.ro 0] λ _=>?_
  obtain ⟨qx4,ox4,Nx4,fx4,fzx4,hAx4,hqx4,hox4,hgx4⟩:=(hl.up (X:=X)).at (k:=(es.length - 1 - k)) (by omega)
  refine RN.sv 13 (congrArg (λ v_=>(.slice v_ es.length c:Value)) hAx4)<|RN.ro (λ _=>(mc (List.mem_append_right _ hq) (mc hqx4 mn)))<|RN.goP 2 [.ix (es.length - 1 - k),.rorow 1 (ox4+(es.length - 1 - k)) 0,.rorow 1 (ox4+(es.length - 1 - k)) 1] [((ox4 * 2+(es.length - 1 - k) * 2)+1)=(ox4+(es.length - 1 - k)) * 2+1 /\ (ox4+(es.length - 1 - k)) < Nx4,(ox4 * 2+(es.length - 1 - k) * 2)=(ox4+(es.length - 1 - k)) * 2+0 /\ (ox4+(es.length - 1 - k)) < Nx4,(es.length:Int) - 1 - (k:Int)=(((es.length - 1 - k):Nat):Int) /\ (es.length - 1 - k) < es.length] λ _=>RN.sv 16 (congrArg (λ v_=>(.agg #[vI v_.1,vI v_.2]:Value)) hgx4)<|RN.sv 12 (congrArg (λ v_=>(vI v_:Value)) (show (es.length:Int) - 1 - (k:Int)=((es.length - 1 - k:Nat):Int) by omega))<|RN.yield 0 (hY k (es.length - 1 - k,es.getD (es.length - 1 - k) (0,0)) _ _ (bkL_get (by omega)) hJ_) ?_
  rintro b_ T5 (⟨rfl,hJ6⟩ | ⟨rfl,hJ6⟩)
  ·refine RN.goP 12 [.gen,.nw] [I64 (((es.length:Int) - 1 - (k:Int)) - 1)] λ _=>RN.sv 3 (congrArg (λ v_=>(vI v_:Value)) (show ((es.length:Int) - 1 - (k:Int)) - 1=(es.length:Int) - 1 - ((k+1:Nat):Int) by omega)) ?_
   refine mt2 (k+1,T5) [] [0] ?_
   try dsimp only
   exact ⟨⟨by omega,hJ6⟩,by omega⟩
  ·refine RN.go 4 [] λ _=>RN.ret [] [] [0] (v:=.tuple #[]) (H':=(ap [] [T5])) ?_
   rw [ap_one]
   exact .inr hJ6
 ·refine RN.go 5 [] λ _=>RN.ret [] [] [0] (v:=.tuple #[]) (H':=(ap [] [T_])) ?_
  rw [ap_one]
  obtain rfl:k=es.length:=by omega
  exact .inl (by rw [bkL_len];exact hJ_)
theorem back_it (es:List (Int × Int)) (n:Nat) (A:Option Addr) (c q:Nat) (F:HL) (hn:es.length <= 100000000) (e:es.length=n) (hl:RowL entE 128 F A n es) (hq:(q,.lit [.slice A n c] 123 (0,0)) ∈ F):It Tryz.prog 92 #[vP q 0] F encB (bkL es):=by
 subst e
 intro X l J Jx H0 hY h0
 have key:=back_run es A c q l X F J Jx H0 hn hl hq hY h0
 rw [ap_one] at key
 exact key
theorem back_any (A:Option Addr) (m c:Nat) (F:HL):Sp Tryz.prog 63 #[.slice A m c] [] F (λ u H'=>∃ n:Nat,H'=ap [((n+0),.lit [.slice A m c] 123 (0,0))] [] /\ u=.func (.func 92) #[] #[vP (n+0) 0]):=by
 refine Sp.run Tryz.func63 rfl mn (A:=[]) (Ts:=[]) rfl λ w0=>?_
 refine RN.go 12 [] λ n1=>RN.ret [] [0] [] (v:=.func (.func 92) #[] #[vP (n1+0) 0]) (H':=(ap [((n1+0),.lit [.slice A m c] 123 (0,0))] [])) ?_
 exact ⟨_,rfl,rfl⟩
theorem back_ap (A:Option Addr) (m c:Nat) (F:HL):Sp Tryz.prog 63 #[.slice A m c] (ap [] []) F (λ u H'=>∃ n:Nat,H'=ap [((n+0),.lit [.slice A m c] 123 (0,0))] [] /\ u=.func (.func 92) #[] #[vP (n+0) 0]):=back_any A m c F
theorem undo_mem (mb cb n0 k cap:Nat) (M:MemS) (A:Option Addr) (Hl F:HL) (hs:SlIs entE 128 M.lg A cap Hl) (hc:M.cs.length <= 1000000) (hl:M.lg.length+k <= 100000000) (hb:0 <= M.base /\ M.base <= 1000000000) (hn0:n0 <= M.lg.length) (hent:∀ e ∈ (M.lg.drop n0),0 <= e.1 /\ e.1 < (M.cs.length:Int)):Sp Tryz.prog 26 #[vP mb 0,vI (M.base+(n0:Int))] (ap [(mb,.lit [vS cb 0 M.cs.length M.cs.length,.slice A M.lg.length cap,vI M.base] 125 (0,0)),(cb,.rows 1 M.cs.length (irow M.cs) 3 (0,0))] [Hl]) F (λ u H'=>u=vI 0 /\ MemH mb ⟨undL M.cs (M.lg.drop n0),M.lg.take n0,M.base⟩ k H'):=by
 have hcp_:M.lg.length <= cap:=hs.capLe
 refine Sp.runM Tryz.func26 rfl mn (A:=[(mb,.lit [vS cb 0 M.cs.length M.cs.length,.slice A M.lg.length cap,vI M.base] 125 (0,0)),(cb,.rows 1 M.cs.length (irow M.cs) 3 (0,0))]) (Ts:=[Hl]) rfl λ w0=>?_
 refine RN.go 11 [.own 0] λ n1=>RN.cp (mcheck_g mb cb M.cs.length A M.lg.length cap M.base (M.base+(n0:Int)) _ (in_ap 1) hb (by omega) (by omega) (by omega))<|RN.goP 25 [.own 0,.own 1,.nw] [I64 ((M.base+(n0:Int)) - M.base)] λ _=>RN.sv 6 (congrArg (λ v_=>(vI v_:Value)) (show M.base+(n0:Int) - M.base=(n0:Int) by omega))<|RN.go 6 [.own 0,.own 1] λ _=>RN.slA (A:=A) (n:=M.lg.length) (cap:=cap) (l:=n0) (sz:=2) rfl (by omega) hcp_<|RN.ct (Hp:=[]) (Tp:=[]) [] [] (back_ap (slA A n0 2 cap) (M.lg.length - n0) (cap - n0) _) ?_
 rintro _ m2 rfl
 refine RN.go 3 [] λ _=>RN.bv 3 (congrArg (λ v_=>(.rows 1 M.cs.length v_ 3 (0,0):Blk)) (show (irow M.cs)=(irow (undK M.cs (M.lg.drop n0) 0)) from (congrArg irow (undK_zero M.cs (M.lg.drop n0)).symm)))<|RN.range (σ:=Nat) (τ:=Nat × Nat × Int × Int) (encs:=λ (x_:Nat × Int × Int)=>#[vI (x_.1:Int),.agg #[vI x_.2.1,vI x_.2.2]]) (xs:=(bkL (M.lg.drop n0))) (enters_of Tryz.func92 (by kernel_rfl) rfl) (λ m_=>([(cb,.rows 1 M.cs.length (irow (undK M.cs (M.lg.drop n0) m_)) 3 (0,0))],[])) (λ i_ m_=>m_=i_) (λ c_ m_=>False) (λ ⟨m_,p_,a_,b_⟩=>⟨[(2,vP (n1+0) 0),(6,vI (n0:Int)),(8,vP p_ 0)],[(cb,.rows 1 M.cs.length (irow (undK M.cs (M.lg.drop n0) m_)) 3 (0,0)),(p_,.lit [vI a_,vI b_] 128 (0,0))],[],True,0⟩) (λ i_ x_ ⟨m_,p_,a_,b_⟩=>m_=i_ /\ i_ < (M.lg.drop n0).length /\ (a_,b_)=(M.lg.drop n0).getD ((M.lg.drop n0).length - 1 - i_) (0,0)) 0 rfl [3] [] (back_it (M.lg.drop n0) (M.lg.length - n0) _ (cap - n0) (m2+0) _ (by rw [List.length_drop];omega) (by rw [List.length_drop]) (hs.drop (sub_ap 0) rfl (by omega)) (in_ap 0)) ?_ ?_ ?_ ?_
 ·rintro l_ i_ x_ m_ Y3 w4 hx5 rfl mt6
  refine RN.go 4 [.own 0,.own 0] λ n7=>?_
  refine mt6 (m_,(n7+0),x_.2.1,x_.2.2) [1,0] [] ?_
  try dsimp only
  exact ⟨rfl,(bkL_of hx5).1,by rw [(bkL_of hx5).2]⟩
 ·rintro l_ i_ x_ ⟨m_,p_,a_,b_⟩ Y8 w9 hx10 ⟨rfl,hlt_,hab_⟩
  have hen_:=hent _ (getD_in (l:=(M.lg.drop n0)) (i:=(M.lg.drop n0).length - 1 - m_) (by omega) (0,0))
  rw [<- hab_] at hen_
  replace hen_:0 <= a_ /\ a_ < (M.cs.length:Int):=hen_
  refine RN.go 1 [] λ _=>RN.draw [9] []<|RD.goP [] [0,4,6,1,5,7,2,3,8] [.ro 1,.own 1,.own 1,.ro 2,.ix a_.toNat] [a_=((a_.toNat:Nat):Int) /\ a_.toNat < M.cs.length]<|RD.one 9 (RDO.evP [] [.row 0 a_.toNat 0] [(0+a_.toNat * 1)=a_.toNat * 1+0 /\ a_.toNat < M.cs.length] λ _=>?_)
  refine RD.fin<|RN.go 1 [] λ _=>RN.bv 0 (congrArg (λ v_=>(.rows 1 M.cs.length v_ 3 (0,0):Blk)) (show (updG (irow (undK M.cs (M.lg.drop n0) m_)) a_.toNat 0 (vI b_))=(irow (undK M.cs (M.lg.drop n0) (m_+1))) from (irow_und hlt_ hab_ (by omega))))<|RN.rn (m_+1) [0] [] ?_
  try dsimp only
  first | done | rfl
 ·rintro d11 m_  rfl
  refine RN.go 3 [] λ _=>RN.draw [9] []<|RD.goP [] [0,1,5,2,3,4,6,7,8] [.own 3,.own 3,.own 4,.sl0 n0] [(n0:Int)=((n0:Nat):Int) /\ n0 <= cap]<|RD.one 9 (RDO.ev [] [.own 4] λ _=>?_)
  refine RD.fin<|RN.go 6 [] λ _=>RN.retM [d11] [0] [] [3,0] [0] (v:=vI 0) (H':=(ap [(mb,.lit [vS cb 0 M.cs.length M.cs.length,.slice A n0 cap,vI M.base] 125 (0,0)),(cb,.rows 1 M.cs.length (irow (undK M.cs (M.lg.drop n0) (bkL (M.lg.drop n0)).length)) 3 (0,0))] [Hl])) ?_
  refine ⟨rfl,?_⟩
  rw [bkL_len,undK_all]
  have h_:=MemH.mk (mb:=mb) (M:=⟨undL M.cs (M.lg.drop n0),M.lg.take n0,M.base⟩) (k:=k) cb A cap Hl (hs.take n0) (by show (undL _ _).length <= _;rw [undL_len];exact hc) (by rw [List.length_take];omega)
  have e1_:(undL M.cs (M.lg.drop n0)).length=M.cs.length:=undL_len _ _
  have e2_:(M.lg.take n0).length=n0:=by rw [List.length_take];omega
  dsimp only at h_
  rw [e1_,e2_] at h_
  exact h_
 ·exact λ _ _ _ h=>h.elim
theorem undo_any {mb n0 k k2:Nat} {M:MemS} {T:HL} (F:HL) (h:MemH mb M k T) (hk:k2 <= k) (hb:0 <= M.base /\ M.base <= 1000000000) (hn0:n0 <= M.lg.length) (hent:∀ e ∈ (M.lg.drop n0),0 <= e.1 /\ e.1 < (M.cs.length:Int)):Sp Tryz.prog 26 #[vP mb 0,vI (M.base+(n0:Int))] (ap [] [T]) F (λ u H'=>∃ x,H'=ap [] [x] /\ (u=vI 0 /\ MemH mb ⟨undL M.cs (M.lg.drop n0),M.lg.take n0,M.base⟩ k2 x)):=by
 rw [ap_one]
 cases h with
 | mk cb A cap Hl hs hc hl=>exact (undo_mem mb cb n0 k2 cap M A Hl F hs hc (by omega) hb hn0 hent).tl
def chgS (es:List (Int × Int)):Nat -> List Int × Int
 | 0=>([],-1)
 | k+1=>if (decide ((es.getD k (0,0)).1=(chgS es k).2) && (decide (0=0) && true))=true then chgS es k else ((chgS es k).1++[(es.getD k (0,0)).1],(es.getD k (0,0)).1)
theorem chgS_len (es:List (Int × Int)):∀ k,(chgS es k).1.length <= k
 | 0=>Nat.le_refl _
 | k+1=>by
  have:=chgS_len es k
  rw [chgS]
  split
  ·omega
  ·show ((chgS es k).1++[_]).length <= _
   rw [List.length_append,List.length_singleton];omega
def chgL (es:List (Int × Int)):List Int:=(chgS (srtT es) es.length).1
theorem chgL_len (es:List (Int × Int)):(chgL es).length <= es.length:=chgS_len _ _
theorem sortT_of {es:List (Int × Int)} {A:Option Addr} {T F:HL} {n c:Nat} (hs:ClS entE 128 es A c T) (e:es.length=n) (hb:n <= 100000000):Sp Tryz.prog 60 #[.slice A n c,.func (.func 61) #[] #[]] (ap [] [T]) F (λ u H'=>∃ x:HL,H'=ap [] [x] /\ (u=.tuple #[] /\ ClS entE 128 (srtT es) A c x)):=by
 subst e
 exact sortT_any es A c T F hs hb
theorem ClS.opn {α:Type} {e:Enc α} {T:TypeId} {xs:List α} {A:Option Addr} {c:Nat} {Hl:HL} (h:ClS e T xs A c Hl) (h0:0 < xs.length):∃ b,A=some ⟨b,0,none⟩ /\ Hl=[(b,.rows e.w c (rowE e xs) T (0,0))] /\ xs.length <= c:=by
 obtain ⟨A0,h⟩:=h
 rcases h with ⟨rfl,_⟩ | ⟨b,h1,h2,h3⟩
 ·cases h0
 ·exact ⟨b,h1,h2,h3⟩
theorem chg_mem (mb cb n0 cap:Nat) (M:MemS) (A:Option Addr) (Hl F:HL) (hm:(mb,.lit [vS cb 0 M.cs.length M.cs.length,.slice A M.lg.length cap,vI M.base] 125 (0,0)) ∈ F) (hs:SlIs entE 128 M.lg A cap Hl) (hF:∀ x ∈ Hl,x ∈ F) (hl:M.lg.length <= 100000000) (hb:0 <= M.base /\ M.base <= 1000000000) (hn0:n0 <= M.lg.length):Sp Tryz.prog 25 #[vP mb 0,vI (M.base+(n0:Int))] [] F (λ u H'=>∃ x:Option Addr × Nat × HL,H'=ap [] [x.2.2] /\ (u=.tuple #[.slice x.1 (chgL (M.lg.drop n0)).length x.2.1,vI 0] /\ SlIs intE 3 (chgL (M.lg.drop n0)) x.1 x.2.1 x.2.2)):=by
 have hcp_:M.lg.length <= cap:=hs.capLe
 have hle_:(M.lg.drop n0).length=M.lg.length - n0:=List.length_drop
 have hlb_:M.lg.length - n0 <= 100000000:=by omega
 have hsl_:(srtT (M.lg.drop n0)).length=M.lg.length - n0:=by rw [srtT_len,List.length_drop]
 refine Sp.run Tryz.func25 rfl (mc hm mn) (A:=[]) (Ts:=[]) rfl λ w0=>?_
 refine RN.go 11 [] λ _=>RN.cp (mcheck_g mb cb M.cs.length A M.lg.length cap M.base (M.base+(n0:Int)) _ (ro_ap hm) hb (by omega) (by omega) (by omega))<|RN.go 13 [] λ _=>RN.draw [] []<|RD.goP [] [0,4,5,1,6,2,7,3,8,9] [.ro 0,.ro 0,.nw] [I64 ((M.base+(n0:Int)) - M.base)]<|RD.sv 27 (congrArg (λ v_=>(vI v_:Value)) (show M.base+(n0:Int) - M.base=(n0:Int) by omega))<|RD.one 10 (RDO.slA (A:=A) (n:=M.lg.length) (cap:=cap) (l:=n0) (sz:=2) rfl (by omega) hcp_ ?_)
 refine RD.one 11 (RDO.ct [] (Hp:=[]) (Tp:=[]) [] [] (clone_cellmem_entry_any (slA A n0 2 cap) (M.lg.length - n0) (cap - n0) (M.lg.drop n0) _ ((hs.drop hF rfl hn0).src entEOk (by decide)).up (by omega)) ?_)
 rintro _ ⟨A1,c2,T3⟩ ⟨rfl,hc4⟩
 dsimp only at hc4
 refine RD.go [] [12] []<|RD.fin<|RN.go 4 [] λ _=>RN.ct [] [0] (sortT_of hc4 hle_ hlb_) ?_
 rintro _ T5 ⟨rfl,hc6⟩
 refine RN.go 23 [.own 0,.own 0] λ n7=>RN.nt<|RN.loop (σ:=Nat × Option Addr × Nat × HL) (λ ⟨k_,A_,c_,T_⟩=>⟨[(8,.slice A_ ((chgS (srtT (M.lg.drop n0)) k_).1.length) c_),(9,vP (n7+0) 0),(33,.slice A1 (M.lg.length - n0) c2),(34,vI (((M.lg.length - n0):Nat):Int)),(35,vI (k_:Int))],[((n7+0),.lit [vI ((chgS (srtT (M.lg.drop n0)) k_).2),vI 0] 128 (0,0))],[T_,T5],k_ <= M.lg.length - n0 /\ SlIs intE 3 (chgS (srtT (M.lg.drop n0)) k_).1 A_ c_ T_,M.lg.length - n0 - k_⟩) (0,none,0,[]) [0] [0,1] (⟨Nat.zero_le _,SlIs.nil _ _⟩) ?_
 rintro ⟨k_,A_,c_,T_⟩ ⟨hk_,hs_⟩ mt9
 refine RN.go 6 [] λ _=>RN.em ((k_:Int) < (((M.lg.length - n0):Nat):Int)) 36 (λ h10=>?_) λ h10=>?_
 ·refine RN.go 6 [] λ _=>?_
  obtain ⟨bR,rfl,rfl,hcR⟩:=hc6.opn (by omega)
  refine RN.ot 1 (x:=(bR,.rows 2 c2 (rowE entE (srtT (M.lg.drop n0))) 128 (0,0)))<|RN.goP 20 ([.ix k_,.row 0 k_ 0,.row 0 k_ 1]++ow 0 5++[.own 2,.own 2,.sq]) [((0+k_ * 2)+1)=k_ * 2+1 /\ k_ < c2,(0+k_ * 2)=k_ * 2+0 /\ k_ < c2,(k_:Int)=((k_:Nat):Int) /\ k_ < (M.lg.length - n0)] λ n11=>RN.eB ((decide (((srtT (M.lg.drop n0)).getD k_ (0,0)).1=(chgS (srtT (M.lg.drop n0)) k_).2) && (decide (0=0) && true))) 42 (λ h12=>?_) λ h12=>?_
  ·refine RN.go 4 [] λ _=>RN.bt 1<|RN.goP 4 [.nw] [I64 ((k_:Int)+1)] λ _=>?_
   have e_:chgS (srtT (M.lg.drop n0)) (k_+1)=chgS (srtT (M.lg.drop n0)) k_:=by rw [chgS,if_pos h12]
   refine RN.bv 1 (congrArg (λ v_=>(.lit [vI v_,vI 0] 128 (0,0):Blk)) (congrArg Prod.snd e_).symm)<|RN.sv 8 (congrArg (λ v_=>(.slice A_ v_ c_:Value)) (show (chgS (srtT (M.lg.drop n0)) k_).1.length=(chgS (srtT (M.lg.drop n0)) (k_+1)).1.length by rw [e_])) ?_
   refine mt9 (k_+1,A_,c_,T_) [1] [1,0] ?_
   try dsimp only
   exact ⟨⟨by omega,by rw [e_];exact hs_⟩,by omega⟩
  ·refine RN.go 7 [.own 0] λ n13=>RN.app intEOk ((chgS (srtT (M.lg.drop n0)) k_).1) [((srtT (M.lg.drop n0)).getD k_ (0,0)).1] 0 0 rfl hs_ (by have:=chgS_len (srtT (M.lg.drop n0)) k_;simp;omega) ?_
   rintro A14 c15 T16 ⟨hs17,hz18⟩
   refine RN.go 9 [.own 1,.own 1,.own 3,.own 3] λ _=>RN.bt 2<|RN.goP 4 [.nw] [I64 ((k_:Int)+1)] λ _=>?_
   have e_:chgS (srtT (M.lg.drop n0)) (k_+1)=((chgS (srtT (M.lg.drop n0)) k_).1++[((srtT (M.lg.drop n0)).getD k_ (0,0)).1],((srtT (M.lg.drop n0)).getD k_ (0,0)).1):=by rw [chgS,if_neg h12]
   refine RN.bv 2 (congrArg (λ v_=>(.lit [vI v_,vI 0] 128 (0,0):Blk)) (congrArg Prod.snd e_).symm)<|RN.sv 8 (congrArg (λ v_=>(.slice A14 v_ c15:Value)) (show ((chgS (srtT (M.lg.drop n0)) k_).1.length+([((srtT (M.lg.drop n0)).getD k_ (0,0)).1]).length)=(chgS (srtT (M.lg.drop n0)) (k_+1)).1.length by rw [e_];simp)) ?_
   refine mt9 (k_+1,A14,c15,T16) [2] [1,0] ?_
   try dsimp only
   exact ⟨⟨by omega,by rw [e_];exact hs17⟩,by omega⟩
 ·refine RN.go 13 [] λ _=>RN.ret [] [] [0] (v:=.tuple #[.slice A_ ((chgS (srtT (M.lg.drop n0)) k_).1.length) c_,vI 0]) (H':=(ap [] [T_])) ?_
  obtain rfl:k_=M.lg.length - n0:=by omega
  exact ⟨(A_,c_,T_),rfl,by rw [chgL,List.length_drop],by rw [chgL,List.length_drop];exact hs_⟩
end Go.Proofs.YtcfajdgeejeieaaGreatDoor
