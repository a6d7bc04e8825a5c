import Derived.Test.YtdppjkjbghbnjaaGreatDoorY13
set_option maxHeartbeats 4000000
set_option maxRecDepth 100000
set_option linter.all false
namespace Go.Proofs.YtdppjkjbghbnjaaGreatDoor
open Go.RowKit Go.Shelf
section
variable {r:Option Nat} {P:Program} {N:Nat} {D:List Deferred} {F:HL} {w0:World} {R:HL} {s:Cfg} {Q:Exit -> Act -> World -> Prop} {hards:List Nat} {Rd:HL}
theorem cH(i:Nat)(hk:RN r P N D F w0 R (Qv i s) Q)(h:([i]++oth [i] s.A.length).isPerm (List.range s.A.length)=true:=by kernel_rfl):RN r P N D F w0 R s Q:=by
 obtain⟨c,k,L,A,Ts⟩:=s;exact⟨λ hR a w h1 h2 h3=>hk.h hR a w h1 (h2.perm ((pT h).append_right F)) h3⟩
variable {α:Type} {e:Enc α} {T:TypeId} {inf:TypeInfo} {z:Value}
end
theorem gL(g:Gm):∀n M,(effsV g n M).length <= n
 | 0,_=>Nat.le_refl _
 | n+1,M=>by
  rw[effsV,List.length_append];have:=gL g n (jH g M);split
  ·simp;omega
  ·simp;omega
theorem MemH.len{mb:Nat}{M:MemS}{k:Nat}{T:HL}(h:MemH mb M k T):M.cs.length <= 1000000:=by
 cases h with
 | mk cb A cap Hl hs hc hl=>exact hc
theorem mm(mb cb n:Nat)(A:Option Addr)(m cap:Nat)(base:Int)(F:HL)(hm:(mb,.lit [vS cb 0 n n,.slice A m cap,vI base] 162 (0,0))∈F):Sp Tryz.prog 79 #[vP mb 0] [] F (λ u H'=>u=vI (n:Int) /\ H'=[]):=by
 refine aav Tryz.func79 rfl (mc hm mn) (A:=[]) (Ts:=[]) rfl λ w0=>?_;refine ae 15 [.ro 0] λ _=>?_;exact aaq [] [] [] ⟨rfl,rfl⟩
theorem hZ{mb:Nat}{M:MemS}{k:Nat}{T:HL}{F:HL}(h:MemH mb M k T)(hs:∀x∈T,x∈F):Sp Tryz.prog 79 #[vP mb 0] [] F (λ u H'=>u=vI (M.cs.length:Int) /\ H'=[]):=by
 cases h with
 | mk cb A cap Hl VX hc hl=>exact mm mb cb M.cs.length A M.lg.length cap M.base F (hs _ (by simp))
theorem mr{M:MemS}{i:Nat}(h:i<M.cs.length):M.get (i:Int)=M.cs.getD i 0:=by
 unfold MemS.get;rw[if_pos (by omega),Int.toNat_natCast]
theorem gh(mb:Nat)(M:MemS)(k:Nat)(T F:HL)(hM:MemH mb M k T)(hT:∀x∈T,x∈F):Sp Tryz.prog 56 #[vP mb 0] (ap [] []) F (λ u H'=>∃q,H'=ap [(q,.rows 1 M.cs.length (aB M.cs) 3 (0,0))] [] /\ u=vS q 0 M.cs.length M.cs.length):=by
 have hl:=hM.len;refine aav Tryz.func56 rfl mn (A:=[]) (Ts:=[]) rfl λ w0=>?_;refine ae 8 [] λ _=>aai (hZ hM (λ x hx=>List.mem_append_right _ (hT x hx)))<|ah 8 [.mk M.cs.length M.cs.length] [(M.cs.length:Int)=((M.cs.length:Nat):Int) /\ (M.cs.length:Int)=((M.cs.length:Nat):Int) /\ M.cs.length <= M.cs.length /\ 8*M.cs.length <= 140737488355328 /\ 1=1 /\ M.cs.length <= 9223372036854775807] λ n1=>aai (hZ hM (λ x hx=>List.mem_append_right _ (hT x hx)))<|ae 4 [] λ _=>aah 0 (congrArg (λ v_=>(.rows 1 M.cs.length v_ 3 (0,0):Blk)) (show (sm [vI 0])=(aB (oB M.cs 0)) from (by rw[mX M.cs])))<|aao (σ:=Nat) (λ i=>⟨[(0,vP mb 0),(3,vS (n1+0) 0 M.cs.length M.cs.length),(9,vI (M.cs.length:Int)),(10,vI (i:Int))],[((n1+0),.rows 1 M.cs.length (aB (oB M.cs i)) 3 (0,0))],[],i <= M.cs.length,M.cs.length-i⟩) 0 [0] [] (Nat.zero_le _) ?_;rintro i Yl Th;refine ae 6 [] λ _=>aam ((i:Int)<(M.cs.length:Int)) 11 (λ h4=>?_) λ h4=>?_
 ·refine ae 16 [] λ _=>aai (aD (i:Int) hM (λ x hx=>List.mem_append_right _ (hT x hx)))<|ah 9 [.ix i,.row 0 i 0,.nw] [aI ((i:Int)+1),(0+i*1)=i*1+0 /\ i<M.cs.length,(i:Int)=((i:Nat):Int) /\ i<M.cs.length] λ _=>aah 0 (congrArg (λ v_=>(.rows 1 M.cs.length v_ 3 (0,0):Blk)) (show (dG (aB (oB M.cs i)) i 0 (vI (M.get (i:Int))))=(aB (oB M.cs (i+1))) from (by rw[<- mY (cs:=M.cs) (i:=i) (by omega)];rw[mr (by omega)]))) ?_;refine Th (i+1) [0] [] ?_
  try dsimp only
  exact⟨by omega,by omega⟩
 ·refine ae 12 [] λ _=>aaq [] [0] [] (v:=vS (n1+0) 0 M.cs.length M.cs.length) (H':=[((n1+0),.rows 1 M.cs.length (aB (oB M.cs i)) 3 (0,0))]) ?_;have ei:i=M.cs.length:=by omega
  subst ei;exact⟨_,by rw[qj];rfl,rfl⟩
theorem iO(qa qb na nb Na Nb ca cb:Nat)(xs ys:List Int)(F:HL)(ha:(qa,.rows 1 Na (aB xs) 3 (0,0))∈F)(hb:(qb,.rows 1 Nb (aB ys) 3 (0,0))∈F)(ZU:na <= Na)(U7:nb <= Nb)(hn:na <= 1000000):Sp Tryz.prog 27 #[vS qa 0 na ca,vS qb 0 nb cb] [] F (λ u H'=>u=.bool (decide (gz na nb xs ys)) /\ H'=[]):=by
 refine aav Tryz.func27 rfl (mc ha (mc hb mn)) (A:=[]) (Ts:=[]) rfl λ w0=>?_;refine ae 15 [] λ _=>aan ((na:Int)=(nb:Int)) 10 (λ h1=>?_) λ h1=>?_
 ·refine ae 10 [] λ _=>aao (σ:=Nat) (λ i=>⟨[(0,vS qa 0 na ca),(1,vS qb 0 nb cb),(5,vI (i:Int))],[],[],i <= na /\ ∀t,t<i -> xs.getD t 0=ys.getD t 0,na-i⟩) 0 [] [] (⟨Nat.zero_le _,λ t ht=>absurd ht (Nat.not_lt_zero _)⟩) ?_;rintro i ⟨Ve,ZL⟩ Th;refine ae 9 [] λ _=>aam ((i:Int)<(na:Int)) 14 (λ h4=>?_) λ h4=>?_
  ·refine ae 6 [] λ _=>aal [] []<|av [] [0,1,4,5,2,6,3,7,8] [.ix i,.ix i,.rorow 0 i 0,.rorow 1 i 0] [(0+i*1)=i*1+0 /\ i<Nb,(0+i*1)=i*1+0 /\ i<Na,(i:Int)=((i:Nat):Int) /\ i<nb,(i:Int)=((i:Nat):Int) /\ i<na]<|aad<|ae 1 [] λ _=>aan (xs.getD i 0=ys.getD i 0) 25 (λ h5=>?_) λ h5=>?_
   ·refine ah 9 [.nw] [aI ((i:Int)+1)] λ _=>?_;refine Th (i+1) [] [] ?_
    try dsimp only
    refine⟨⟨by omega,λ t ht=>?_⟩,by omega⟩;rcases Nat.lt_or_ge t i with h_|h_
    ·exact ZL t h_
    ·obtain rfl:t=i:=by omega
     exact h5
   ·refine ae 6 [] λ _=>aaq [] [] [] (v:=.bool false) (H':=[]) ?_;exact⟨congrArg Value.bool (decide_eq_false (show ¬ gz na nb xs ys from λ h_=>h5 (h_.2 i (by omega)))).symm,rfl⟩
  ·refine ae 11 [] λ _=>aaq [] [] [] (v:=.bool true) (H':=[]) ?_;exact⟨congrArg Value.bool (decide_eq_true (show gz na nb xs ys from ⟨by omega,λ t ht=>ZL t (by omega)⟩)).symm,rfl⟩
 ·refine ae 6 [] λ _=>aaq [] [] [] (v:=.bool false) (H':=[]) ?_;exact⟨congrArg Value.bool (decide_eq_false (show ¬ gz na nb xs ys from λ h_=>by have:=h_.1;omega)).symm,rfl⟩
theorem ia(b:Bool)(qa qb na nb Na Nb ca cb:Nat)(xs ys:List Int)(F:HL)(ha:(qa,.rows 1 Na (aB xs) 3 (0,0))∈F)(hb:(qb,.rows 1 Nb (aB ys) 3 (0,0))∈F)(ZU:na <= Na)(U7:nb <= Nb)(hn:na <= 1000000)(he:decide (gz na nb xs ys)=b):Sp Tryz.prog 27 #[vS qa 0 na ca,vS qb 0 nb cb] [] F (λ u H'=>u=.bool b /\ H'=[]):=he ▸ iO qa qb na nb Na Nb ca cb xs ys F ha hb ZU U7 hn
theorem rI(A B:Option Addr)(n ca cb:Nat)(es:List Eff)(F:HL)(ha:RowL dk 111 F A n es)(hb:RowL dk 111 F B n es)(hn:n <= 1000000):Sp Tryz.prog 25 #[.slice A n ca,.slice B n cb] [] F (λ u H'=>u=.bool true /\ H'=[]):=by
 refine aav Tryz.func25 rfl mn (A:=[]) (Ts:=[]) rfl λ w0=>?_;refine ae 15 [] λ _=>bL 10 (nt (decide_eq_true (rfl:(n:Int)=(n:Int))))<|ae 10 [] λ _=>aao (σ:=Nat) (λ k_=>⟨[(0,.slice A n ca),(1,.slice B n cb),(5,vI (k_:Int))],[],[],k_ <= n,n-k_⟩) 0 [] [] (Nat.zero_le _) ?_;rintro k_ hI1 Tw;refine ae 9 [] λ _=>aam ((k_:Int)<(n:Int)) 14 (λ h3=>?_) λ h3=>?_
 ·refine ae 6 [] λ _=>aal [] []<|ag [] [0,1,4,5] [] ?_;obtain⟨qx4,DO,Wo,fx4,YY,UH,Uh,YR,UP⟩:=ha.at (k:=k_) (by omega);refine eK 17 (congrArg (λ v_=>(.slice v_ n ca:Value)) UH)<|RD.ro (λ _=>(mc Uh mn)) ?_;obtain⟨qx5,r_,UZ,fx5,Xx,TH,TK,W_,Ub⟩:=hb.at (k:=k_) (by omega);refine eK 21 (congrArg (λ v_=>(.slice v_ n cb:Value)) TH)<|RD.ro (λ _=>(mc Uh (mc TK mn)))<|av [] [2,6,3,7] [.ix k_,.ix k_,.rorow 0 (DO+k_) 0,.rorow 0 (DO+k_) 1,.rorow 0 (DO+k_) 2,.rorow 0 (DO+k_) 3,.rorow 1 (r_+k_) 0,.rorow 1 (r_+k_) 1,.rorow 1 (r_+k_) 2,.rorow 1 (r_+k_) 3] [((r_*4+k_*4)+3)=(r_+k_)*4+3 /\ (r_+k_)<UZ,((r_*4+k_*4)+2)=(r_+k_)*4+2 /\ (r_+k_)<UZ,((r_*4+k_*4)+1)=(r_+k_)*4+1 /\ (r_+k_)<UZ,(r_*4+k_*4)=(r_+k_)*4+0 /\ (r_+k_)<UZ,((DO*4+k_*4)+3)=(DO+k_)*4+3 /\ (DO+k_)<Wo,((DO*4+k_*4)+2)=(DO+k_)*4+2 /\ (DO+k_)<Wo,((DO*4+k_*4)+1)=(DO+k_)*4+1 /\ (DO+k_)<Wo,(DO*4+k_*4)=(DO+k_)*4+0 /\ (DO+k_)<Wo,(k_:Int)=((k_:Nat):Int) /\ k_<n,(k_:Int)=((k_:Nat):Int) /\ k_<n]<|eK 20 (congrArg (λ v_=>(.agg #[vI v_.t,vI v_.i,vI v_.k,vI v_.v]:Value)) UP)<|eK 24 (congrArg (λ v_=>(.agg #[vI v_.t,vI v_.i,vI v_.k,vI v_.v]:Value)) Ub) ?_;have aeR:(decide ((es.getD k_ dk.dflt).t=(es.getD k_ dk.dflt).t) && (decide ((es.getD k_ dk.dflt).i=(es.getD k_ dk.dflt).i) && (decide ((es.getD k_ dk.dflt).k=(es.getD k_ dk.dflt).k) && (decide ((es.getD k_ dk.dflt).v=(es.getD k_ dk.dflt).v) && true))))=true:=by simp
  refine ag [] [8] [.sq]<|aad<|ae 1 [] λ _=>bL 25 (nt aeR)<|ah 9 [.nw] [aI ((k_:Int)+1)] λ _=>?_;refine Tw (k_+1) [] [] ?_
  try dsimp only
  exact⟨by omega,by omega⟩
 ·refine ae 11 [] λ _=>?_;exact aaq [] [] [] ⟨rfl,rfl⟩
theorem nD(g:Gm):∀ (f:Nat) (M:MemS),tL g f M <= f
 | 0,_=>Nat.le_refl _
 | f+1,M=>by
  rw[tL];split
  ·omega
  ·have:=nD g f (jH g M);omega
theorem kR(g:Gm)(M:MemS):(lq g M).length <= 1001:=by
 have h1:=gL g (tL g 1000 M+1) M;have h2:=nD g 1000 M;unfold lq;omega
section
variable {S S2:Setup} {J:Nat -> Nat × Int} {xss:List (List Inp)} {n:Nat}
theorem mt(hV:SetV S)(he:SetEq S S2)(hn:n <= 50)(o_:∀i,i<n -> RowOk S.players (xss.getD i [])){i:Nat}(hi:i <= n):((WS S J xss i).length:Int)=sizeOf S:=by
 have h:=(sj (J:=J) hV he hn o_ hi).len;rw[he.size] at h;exact h
end
section
variable {rs:List Bx} {ds:List Dr} {bp gb mb:Nat} {S:Setup} {M:MemS} {k:Nat} {G0:HL}
theorem mu(h:GameX rs ds bp gb mb S M k G0){F:HL}(hF:∀x∈G0,x∈F):Sp Tryz.prog 56 #[vP mb 0] (ap [] []) F (λ u H'=>∃q,H'=ap [(q,.rows 1 M.cs.length (aB M.cs) 3 (0,0))] [] /\ u=vS q 0 M.cs.length M.cs.length):=by
 obtain⟨T,hM,hT⟩:=h.mem;exact gh mb M k T F hM λ x hx=>hF x (hT x hx)
end
theorem kw{rs_:List Bx}{ds_:List Dr}{S2:Setup}{M:MemS}{bp mb k:Nat}{Tg:HL}(pp gb rb lb sg pl me w rn rc ck un uc en ec rbk:Nat)(rA uA eA:Option Addr)(F:HL)(hp:(pp,.lit [vI (pl:Int),vI (me:Int),vI (w:Int),vP gb 0,vP rb 0,.map (some lb),.slice rA rn rc,vI (ck:Int),.slice uA un uc,.slice eA en ec,vI (rbk:Int),vP sg 0] 102 (0,0))∈F)(hG:GameX rs_ ds_ bp gb mb S2 M k Tg)(hT:∀x∈Tg,x∈F):Sp Tryz.prog 28 #[vP pp 0] [] F (λ u H'=>∃q:Nat,H'=ap [(q,.rows 1 M.cs.length (aB M.cs) 3 (0,0))] [] /\ u=vS q 0 M.cs.length M.cs.length):=by
 refine aav Tryz.func28 rfl (mc hp mn) (A:=[]) (Ts:=[]) rfl λ w0=>?_;refine ae 11 [.ro 0] λ _=>aai (uN hG (λ x hx=>aq (hT x hx)))<|aaj (Hp:=[]) (Tp:=[]) [] [] (mu hG (λ x hx=>aq (hT x hx))) ?_;rintro _ q1 rfl;refine ae 3 [] λ _=>aaq [] [0] [] (v:=vS q1 0 M.cs.length M.cs.length) (H':=(ap [(q1,.rows 1 M.cs.length (aB M.cs) 3 (0,0))] [])) ?_;exact⟨q1,rfl,rfl⟩
section
variable {rs_:List Bx} {ds_:List Dr} {bp pp pl me w:Nat} {S:Setup} {J:Nat -> Nat × Int} {P:PS (List Inp)} {kv:List (Int × Value × Nat)} {c sn:Nat} {X:Option (Rw × List Inp)} {G F:HL}
theorem cy(h:PeerR rs_ ds_ bp pp pl me w S J P kv c sn X G)(hF:∀x∈G,x∈F):Sp Tryz.prog 19 #[vP pp 0] [] F (λ u H'=>u=vI (P.rows.length:Int) /\ H'=[]):=by
 cases h with
 | mk q1_ q2_ q3_ q4_ q5_ hse_ hg=>rw[q1_];exact eI _ _ _ _ _ _ _ _ _ _ _ _ _ _ _ _ _ _ _ F (hF _ (List.mem_append_left _ List.mem_cons_self))
theorem kS(h:PeerR rs_ ds_ bp pp pl me w S J P kv c sn X G)(hF:∀x∈G,x∈F){cs:List Int}(he:P.M.cs=cs):Sp Tryz.prog 28 #[vP pp 0] (ap [] []) F (λ u H'=>∃q:Nat,H'=ap [(q,.rows 1 cs.length (aB cs) 3 (0,0))] [] /\ u=vS q 0 cs.length cs.length):=by
 subst he;cases h with
 | mk q1_ q2_ q3_ q4_ q5_ hse_ hg=>exact kw _ _ _ _ _ _ _ _ _ _ _ _ _ _ _ _ _ _ _ F (hF _ (List.mem_append_left _ List.mem_cons_self)) hg (λ x hx=>hF x (by simp[ap,hx]))
end
theorem ie(a:Addr)(n c:Nat)(xs:List Eff)(F:HL)(hl:SrcIn Tryz.prog dk F (some a) n xs)(hb:n <= 100000000):Sp Tryz.prog 54 #[.slice (some a) n c] [] F (λ u H'=>∃x:Option Addr × Nat × HL,H'=ap [] [x.2.2] /\ (u=.slice x.1 n x.2.1 /\ ClS dk 111 xs x.1 x.2.1 x.2.2)):=by
 refine aav Tryz.func54 rfl mn (A:=[]) (Ts:=[]) rfl λ w0=>?_;refine ae 19 [] λ n1=>aap<|fJ (A:=(some ⟨(n1+0),0,none⟩)) (B:=(some a)) (c':=c) j5 xs 0 (λ a_ e_=>by cases e_;rfl) (m:=n) (tx:=58) hl.1.1.symm (by rw[hl.1.1];exact hb) (λ e_ he X w hR=>hl.2 c he X w hR) ?_;rintro A2 c3 T4 Ty;refine ae 3 [] λ _=>aaq [] [] [0] (v:=.slice A2 xs.length c3) (H':=(ap [] [T4])) ?_;exact⟨(A2,c3,T4),rfl,by rw[hl.1.1],_,Ty⟩
theorem ig(c:Nat)(F:HL):Sp Tryz.prog 54 #[.slice none 0 c] [] F (λ u H'=>∃x:Option Addr × Nat × HL,H'=ap [] [x.2.2] /\ (u=.slice x.1 0 x.2.1 /\ ClS dk 111 [] x.1 x.2.1 x.2.2)):=by
 refine aav Tryz.func54 rfl mn (A:=[]) (Ts:=[]) rfl λ w0=>?_;refine ae 18 [] λ _=>aaq [] [] [] (v:=.slice none 0 0) (H':=(ap [] [])) ?_;exact⟨(none,0,[]),rfl,rfl,.nil _ _ _⟩
theorem iQ(A:Option Addr)(n c:Nat)(xs:List Eff)(F:HL)(hl:SrcIn Tryz.prog dk F A n xs)(hb:n <= 100000000):Sp Tryz.prog 54 #[.slice A n c] (ap [] []) F (λ u H'=>∃x:Option Addr × Nat × HL,H'=ap [] [x.2.2] /\ (u=.slice x.1 n x.2.1 /\ ClS dk 111 xs x.1 x.2.1 x.2.2)):=by
 cases A with
 | some a=>exact ie a n c xs F hl hb
 | none =>
  obtain rfl:n=0:=hl.1.2 rfl;obtain rfl:xs=[]:=List.eq_nil_of_length_eq_zero hl.1.1;exact ig c F
theorem rJ(pp gb rb lb sg pl me w rn rc ck un uc en ec rbk:Nat)(rA uA eA:Option Addr)(t now k bp mb:Nat)(rs_:List Bx)(ds_:List Dr)(S2:Setup)(M:MemS)(es:List Eff)(effs:List (List Eff))(el:List Rw)(Tg Tq F:HL)(hp:(pp,.lit [vI (pl:Int),vI (me:Int),vI (w:Int),vP gb 0,vP rb 0,.map (some lb),.slice rA rn rc,vI (ck:Int),.slice uA un uc,.slice eA en ec,vI (rbk:Int),vP sg 0] 102 (0,0))∈F)(hg:GameX rs_ ds_ bp gb mb S2 M k Tg)(hT:∀x∈Tg,x∈F)(h0:M.get 0=(now:Int))(ht:t<now)(htn:t<en)(he:RowL gO 58 F eA en el)(hee:EfsT el effs Tq)(hTq:∀x∈Tq,x∈F)(aeN:effs.getD t []=es)(aeO:es.length <= 100000000):Sp Tryz.prog 26 #[vP pp 0,vI (t:Int)] [] F (λ u H'=>∃x:Option Addr × Nat × HL,H'=ap [] [x.2.2] /\ (u=.slice x.1 es.length x.2.1 /\ ClS dk 111 es x.1 x.2.1 x.2.2)):=by
 have ahQ:=he.len;refine aav Tryz.func26 rfl (mc hp mn) (A:=[]) (Ts:=[]) rfl λ w0=>?_;refine ae 11 [] λ _=>aam ((t:Int)<0) 7 (λ h1=>?_) λ h1=>?_
 ·(exfalso;omega)
 ·refine ae 2 [] λ _=>aai (gA pp gb rb lb sg pl me w rn rc ck un uc en ec rbk rA uA eA (now:Int) _ (aq hp) hg (λ x hx=>aq (hT x hx)) h0)<|ae 4 [] λ _=>aam ((t:Int) >= (now:Int)) 12 (λ h2=>?_) λ h2=>?_
  ·(exfalso;omega)
  ·refine ae 10 [.ro 0] λ _=>?_;obtain⟨qx3,ox3,Nx3,fx3,anf,afl,aet,alo,aeK⟩:=he.at (k:=t) (by omega);refine aC 16 (congrArg (λ v_=>(.slice v_ en ec:Value)) afl)<|aar (λ _=>(mc hp (mc aet mn)))<|ah 2 [.ix t,.rorow 1 (ox3+t) 0] [(ox3*1+t*1)=(ox3+t)*1+0 /\ (ox3+t)<Nx3,(t:Int)=((t:Nat):Int) /\ t<en] λ _=>aC 19 (congrArg (λ v_=>(.slice v_.A v_.n v_.c:Value)) aeK) ?_;obtain⟨Y_,TY⟩:=hee F hTq t (by rw[he.len];exact htn);rw[aeN] at Y_ TY;obtain⟨Ae,eA_⟩:∃A_,(el.getD t gO.dflt).A=A_:=⟨_,rfl⟩;rw[eA_] at TY;refine aC 19 (show (Value.slice (el.getD t gO.dflt).A (el.getD t gO.dflt).n (el.getD t gO.dflt).c)=.slice Ae es.length (el.getD t gO.dflt).c by rw[eA_,Y_])<|aaj (Hp:=[]) (Tp:=[]) [] [] (iQ Ae es.length ((el.getD t gO.dflt).c) es _ (TY.up.src j5 (by decide)) aeO) ?_;rintro _ ⟨A4,c5,T6⟩ ⟨rfl,hc7⟩;dsimp only at hc7;refine ae 3 [] λ _=>aaq [] [] [0] (v:=.slice A4 es.length c5) (H':=(ap [] [T6])) ?_;exact⟨(A4,c5,T6),rfl,rfl,hc7⟩
theorem oy{rs_:List Bx}{ds_:List Dr}{bp pp pl me w:Nat}{S:Setup}{J:Nat -> Nat × Int}{P:PS (List Inp)}{kv:List (Int × Value × Nat)}{c sn:Nat}{X:Option (Rw × List Inp)}{G F:HL}(h:PeerR rs_ ds_ bp pp pl me w S J P kv c sn X G)(hF:∀x∈G,x∈F){now t:Nat}(h0:P.M.get 0=(now:Int))(ht:t<now)(htn:t<P.effs.length){es:List Eff}(hes:P.effs.getD t []=es)(h8:es.length <= 100000000):Sp Tryz.prog 26 #[vP pp 0,vI (t:Int)] (ap [] []) F (λ u H'=>∃x:Option Addr × Nat × HL,H'=ap [] [x.2.2] /\ (u=.slice x.1 es.length x.2.1 /\ ClS dk 111 es x.1 x.2.1 x.2.2)):=by
 cases h with
 | mk q1_ q2_ q3_ q4_ q5_ hse_ hg hb hn hkv hr hrl hrr hu hul huu he hel hee hse3_ hs hsc hsn hsb hpl hX =>
  exact rJ _ _ _ _ _ _ _ _ _ _ _ _ _ _ _ _ _ _ _ t now 0 _ _ _ _ _ _ es P.effs _ _ _ F (hF _ (List.mem_append_left _ List.mem_cons_self)) hg (λ x hx=>hF x (by simp[ap,hx])) h0 ht (by omega) (by have h_:=he.toRowL λ x hx=>hF x (by simp[ap,hx]);rwa [hel] at h_) hee (λ x hx=>hF x (by simp[ap,hx])) hes h8
theorem dp(S:Setup)(A:Option Addr)(n cap:Nat)(xs:List Int)(t:Int)(F:HL)(hl:ArgL F A n xs)(hn:n <= 9223372036854775807)(hp:0 <= S.players /\ S.players <= 1000000)(ht:0 <= t /\ t <= 1000000):Sp Tryz.prog 53 #[Setup.v S,.slice A n cap,vI t] (ap [] []) F (λ u H'=>∃x:Option Addr × Nat × HL,H'=ap [] [x.2.2] /\ (u=.slice x.1 S.players.toNat x.2.1 /\ SlIs cS 40 (rowL S.players xs (t / 2) S.players.toNat) x.1 x.2.1 x.2.2 /\ bA x.1)):=by
 refine aav Tryz.func53 rfl mn (A:=[]) (Ts:=[]) rfl λ w0=>?_;refine ah 12 (ow 0 16++[.nw]) [0 <= t /\ (0:Int)<2 /\ t <= 9223372036854775807] λ n1=>aaj (Hp:=[]) (Tp:=[]) [] [] (nR S A n cap xs (t / 2) _ hl.up hn (by omega) (by omega)) ?_;rintro _ ⟨A2,c3,T4⟩ ⟨rfl,Ty,Y2⟩;dsimp only at Ty Y2;refine ae 3 [] λ _=>aaq [] [] [0] (v:=.slice A2 S.players.toNat c3) (H':=(ap [] [T4])) ?_;exact⟨(A2,c3,T4),rfl,rfl,Ty,Y2⟩
def ay(pl:Int)(xs:List Int)(n:Nat):List (List Inp):=(List.range n).map λ t:Nat=>rowL pl xs ((t:Int) / 2) pl.toNat
theorem kr{pl:Int}{xs:List Int}{n k:Nat}(h:k<n):(ay pl xs n).getD k []=rowL pl xs ((k:Int) / 2) pl.toNat:=by simp[ay,h]
theorem eX{F:HL}{A:Option Addr}{n:Nat}{xs:List Int}(hl:ArgL F A n xs){pl:Int}(hp:0 <= pl)(cnt i:Nat)(hi:i<cnt):RowOk pl ((ay pl xs cnt).getD i []):=by
 rw[kr hi];exact kQ hl hp _
structure ActI where (dO bY nN:Int)
def bd:Enc ActI:=⟨3,λ p k=>match k with|0=>vI p.dO|1=>vI p.bY|_=>vI p.nN,⟨0,0,0⟩⟩
noncomputable def nB:TypeInfo:=match Tryz.prog.info? 54 with | some i=>i | none=>⟨.bool,"",0,0,false,0,0,none,false,#[]⟩
noncomputable def nC:Value:=match nB.zero with|some z=>z|none=>.bool false
theorem kl:EncOk bd Tryz.prog 54 nB nC where
 info:=by kernel_rfl
 zero:=by kernel_rfl
 size:=by kernel_rfl
 zsize:=by kernel_rfl
 zcell:=λ k hk=>by
  have h:∀k<3,nC.cells[k]?=some (bd.cell bd.dflt k):=by intro k hk;(iterate 3 (rcases k with _|k;· kernel_rfl));omega
  exact h k hk
 one:=λ x k=>by unfold bd;dsimp only;split <;> rfl
 bytes:=Nat.le_of_ble_eq_true (by kernel_rfl)
def cX(n:Int):ActI:=⟨n % 5,if n / 540 % 9=0 then n / 4860 % 7-3 else n / 180 % 3,n / 5 % 36⟩
def aV(xs:List Int)(k:Nat):List ActI:=(List.range k).map λ i=>cX (ai (xs.getD i 0) 1000000)
theorem ep(xs:List Int)(k:Nat):aV xs (k+1)=aV xs k++[cX (ai (xs.getD k 0) 1000000)]:=by simp[aV,List.range_succ]
theorem bg(xs:List Int)(k:Nat):(aV xs k).length=k:=by simp[aV]
theorem ko(A:Option Addr)(n cap:Nat)(xs:List Int)(F:HL)(hl:ArgL F A n xs)(hn:n <= 9223372036854775807):Sp Tryz.prog 22 #[.slice A n cap] (ap [] []) F (λ u H'=>∃x:Nat × Option Addr × Nat × HL,H'=ap [] [x.2.2.2] /\ (x.1=min n 14 /\ u=.slice x.2.1 x.1 x.2.2.1 /\ SlIs bd 54 (aV xs x.1) x.2.1 x.2.2.1 x.2.2.2)):=by
 refine aav Tryz.func22 rfl mn (A:=[]) (Ts:=[]) rfl λ w0=>?_;refine ae 17 [] λ _=>aap<|aao (σ:=Nat × Option Addr × Nat × HL) (λ ⟨k_,A_,c_,T_⟩=>⟨[(0,.slice A n cap),(3,.slice A_ k_ c_),(4,vI (k_:Int))],[],[T_],k_ <= min n 14 /\ SlIs bd 54 (aV xs k_) A_ c_ T_,min n 14-k_⟩) (0,none,0,[]) [] [0] (⟨Nat.zero_le _,aau _ _⟩) ?_;rintro⟨k_,A_,c_,T_⟩ ⟨X8,IT⟩ Tw;refine ae 8 [] λ _=>aam ((k_:Int)<(n:Int)) 11 (λ h3=>?_) λ h3=>?_
 ·refine ae 5 [] λ _=>aam ((k_:Int)<14) 14 (λ h4=>?_) λ h4=>?_
  ·refine ae 9 [] λ _=>?_;obtain⟨qx5,r_,UZ,gx5,adM,Xx,TH,TK,W_,Ub,XZ⟩:=hl.at (k:=k_) (by omega);refine aC 17 (congrArg (λ v_=>(.slice v_ n cap:Value)) TH)<|aar (λ _=>(mc TK mn))<|ah 2 [.ix k_,.rorow 0 (r_+k_) 0] [(r_+k_*1)=(r_+k_)*1+0 /\ (r_+k_)<UZ,(k_:Int)=((k_:Nat):Int) /\ k_<n] λ _=>aC 20 (congrArg (λ v_=>(v_:Value)) Ub)<|aai (eT (xs.getD k_ 0) 1000000 (by decide) _) ?_;have hA_:=aA (n:=xs.getD k_ 0) XZ 1000000 (by decide);refine ah 27 [.nw,.nw,.nw,.nw,.nw,.own 0,.own 0,.own 0,.nw,.nw] [0 <= (ai (xs.getD k_ 0) 1000000) / 540 /\ (0:Int)<9 /\ (ai (xs.getD k_ 0) 1000000) / 540 <= 9223372036854775807,0 <= ai (xs.getD k_ 0) 1000000 /\ (0:Int)<540 /\ ai (xs.getD k_ 0) 1000000 <= 9223372036854775807,0 <= (ai (xs.getD k_ 0) 1000000) / 180 /\ (0:Int)<3 /\ (ai (xs.getD k_ 0) 1000000) / 180 <= 9223372036854775807,0 <= ai (xs.getD k_ 0) 1000000 /\ (0:Int)<180 /\ ai (xs.getD k_ 0) 1000000 <= 9223372036854775807,0 <= (ai (xs.getD k_ 0) 1000000) / 5 /\ (0:Int)<36 /\ (ai (xs.getD k_ 0) 1000000) / 5 <= 9223372036854775807,0 <= ai (xs.getD k_ 0) 1000000 /\ (0:Int)<5 /\ ai (xs.getD k_ 0) 1000000 <= 9223372036854775807,0 <= ai (xs.getD k_ 0) 1000000 /\ (0:Int)<5 /\ ai (xs.getD k_ 0) 1000000 <= 9223372036854775807] λ n6=>aam (((ai (xs.getD k_ 0) 1000000) / 540) % 9=0) 34 (λ h7=>?_) λ h7=>?_
   ·refine ah 13 [.nw,.nw,.nw,.own 0,.own 0,.own 0,.own 0] [aI ((((ai (xs.getD k_ 0) 1000000) / 4860) % 7)-3),0 <= (ai (xs.getD k_ 0) 1000000) / 4860 /\ (0:Int)<7 /\ (ai (xs.getD k_ 0) 1000000) / 4860 <= 9223372036854775807,0 <= ai (xs.getD k_ 0) 1000000 /\ (0:Int)<4860 /\ ai (xs.getD k_ 0) 1000000 <= 9223372036854775807] λ _=>aC 41 (congrArg (λ v_=>(.agg #[vI ((ai (xs.getD k_ 0) 1000000) % 5),vI v_,vI (((ai (xs.getD k_ 0) 1000000) / 5) % 36)]:Value)) (show (((ai (xs.getD k_ 0) 1000000) / 4860) % 7)-3=(cX (ai (xs.getD k_ 0) 1000000)).bY from (if_pos h7).symm))<|ae 1 [] λ n8=>fG kl (aV xs k_) [cX (ai (xs.getD k_ 0) 1000000)] 0 0 (bg xs k_).symm IT (by rw[bg];simp;omega) ?_;rintro A9 YG Tt ⟨WA,Zx⟩;refine ah 9 [.nw] [aI ((k_:Int)+1)] λ _=>?_;refine Tw (k_+1,A9,YG,Tt) [] [0] ?_
    try dsimp only
    exact⟨⟨by omega,by rw[ep];exact WA⟩,by omega⟩
   ·refine ae 6 (aab 3) λ _=>aC 41 (congrArg (λ v_=>(.agg #[vI ((ai (xs.getD k_ 0) 1000000) % 5),vI v_,vI (((ai (xs.getD k_ 0) 1000000) / 5) % 36)]:Value)) (show ((ai (xs.getD k_ 0) 1000000) / 180) % 3=(cX (ai (xs.getD k_ 0) 1000000)).bY from (if_neg h7).symm))<|ae 1 [] λ n14=>fG kl (aV xs k_) [cX (ai (xs.getD k_ 0) 1000000)] 0 0 (bg xs k_).symm IT (by rw[bg];simp;omega) ?_;rintro A15 c16 Us ⟨TT,YO⟩;refine ah 9 [.nw] [aI ((k_:Int)+1)] λ _=>?_;refine Tw (k_+1,A15,c16,Us) [] [0] ?_
    try dsimp only
    exact⟨⟨by omega,by rw[ep];exact TT⟩,by omega⟩
  ·refine ae 12 [] λ _=>aaq [] [] [0] (v:=.slice A_ k_ c_) (H':=(ap [] [T_])) ?_;obtain⟨XR,Un⟩:∃x,min n 14=x:=⟨_,rfl⟩;obtain rfl:k_=XR:=by omega
   exact⟨(k_,A_,c_,T_),rfl,Un.symm,rfl,IT⟩
 ·refine ae 17 [] λ _=>aaq [] [] [0] (v:=.slice A_ k_ c_) (H':=(ap [] [T_])) ?_;obtain⟨XR,Un⟩:∃x,min n 14=x:=⟨_,rfl⟩;obtain rfl:k_=XR:=by omega
  exact⟨(k_,A_,c_,T_),rfl,Un.symm,rfl,IT⟩
theorem ml{n:Int}(h:0 <= n /\ n<1000000):(0 <= (cX n).dO /\ (cX n).dO <= 4) /\ (-3 <= (cX n).bY /\ (cX n).bY <= 3) /\ (0 <= (cX n).nN /\ (cX n).nN <= 35):=by
 unfold cX;dsimp only;refine⟨by omega,?_,by omega⟩;split <;> omega
theorem iM{F:HL}{A:Option Addr}{n:Nat}{xs:List Int}(hl:ArgD F A n xs){k i:Nat}(hk:k <= n)(hi:i<k):(0 <= ((aV xs k).getD i bd.dflt).dO /\ ((aV xs k).getD i bd.dflt).dO <= 4) /\ (-3 <= ((aV xs k).getD i bd.dflt).bY /\ ((aV xs k).getD i bd.dflt).bY <= 3) /\ (0 <= ((aV xs k).getD i bd.dflt).nN /\ ((aV xs k).getD i bd.dflt).nN <= 35):=by
 obtain⟨F',hl⟩:=hl.ex;have e:(aV xs k).getD i bd.dflt=cX (ai (xs.getD i 0) 1000000):=by simp[aV,hi]
 rw[e];obtain⟨_,_,_,_,_,_,_,_,_,_,hr⟩:=hl.at (k:=i) (by omega);exact ml (aA hr 1000000 (by decide))
def sD(a:ActI)(w vl rl rb U4 WU Wp m2:Nat)(n e:Int):Prop :=
 (a.dO=0 /\ n=0 /\ U4=vl /\ WU=rl /\ Wp=rb) \/ ((a.dO=1 \/ a.dO=4) /\ n=0 /\ e=0 /\ U4=vl /\ WU=rl+1 /\ Wp=rb) \/ ((¬ a.dO=0 /\ ¬ a.dO=1 /\ ¬ a.dO=4) /\ gQ ((vl:Int)+a.bY) w vl rl rb U4 WU Wp m2 n e)
abbrev eD(S:Setup)(xs:List Int):Nat -> List Inp:=λ t=>rowL S.players xs ((t:Int) / 2) S.players.toNat
theorem eV{rs_:List Bx}{ds_:List Dr}{bp pp pl me w:Nat}{S:Setup}{J:Nat -> Nat × Int}{P:PS (List Inp)}{kv:List (Int × Value × Nat)}{c sn:Nat}{TR:Nat -> List Inp}{V:List (List Inp)}{m k:Nat}{G F:HL}(A:Option Addr)(n cap:Nat)(xs:List Int)(a:ActI)(h:PeerR rs_ ds_ bp pp pl me w S J P kv c sn none G)(hI:PeerI S J w TR P V m k)(K_:TR=eD S xs)(hT:∀t,RowOk S.players (TR t))(hV:SetV S)(S9:me<pl)(hw:1 <= w /\ w <= 12)(hk:k <= 36)(hc:c <= 50*k)(oR:∀i,i <= 50 -> (J i).1<5 /\ AtOk F bp (i:Int) (J i))(hE:bF F)(hl:ArgD F A n xs)(hn:n <= 9223372036854775807)(ha:(0 <= a.dO /\ a.dO <= 4) /\ (-3 <= a.bY /\ a.bY <= 3) /\ (0 <= a.nN /\ a.nN <= 35)):Sp Tryz.prog 23 #[vP pp 0,Setup.v S,.slice A n cap,.agg #[vI a.dO,vI a.bY,vI a.nN]] (ap [] [G]) F (λ u H'=>∃y:(Int × Int × PS (List Inp) × List (Int × Value × Nat) × Nat × List (List Inp) × Nat) × HL,H'=ap [] [y.2] /\ (u=.tuple #[vI y.1.1,vI y.1.2.1] /\ PeerR rs_ ds_ bp pp pl me w S J y.1.2.2.1 y.1.2.2.2.1 y.1.2.2.2.2.1 sn none y.2 /\ PeerI S J w TR y.1.2.2.1 y.1.2.2.2.2.2.1 y.1.2.2.2.2.2.2 (k+1) /\ y.1.2.2.2.2.1 <= 50*(k+1) /\ sD a w V.length P.rows.length P.rb y.1.2.2.2.2.2.1.length y.1.2.2.1.rows.length y.1.2.2.1.rb y.1.2.2.2.2.2.2 y.1.1 y.1.2.1)):=by
 have X5:=hI.lim;have XV:=hI.vlen;have ZS:=hV.pl;have S7:=hI.t0 hV (by omega);refine aav Tryz.func23 rfl mn (A:=[]) (Ts:=[G]) rfl λ w0=>?_;refine ae 22 [.own 0] λ n1=>aam (a.dO=0) 13 (λ h2=>?_) λ h2=>?_
 ·refine ae 2 [] λ _=>aal [9] []<|ag [] [0,1,3,6,4,7] (aab 2)<|aac [] 2 (λ X_=>(fm h (aE 0) S7))<|av [] [5] [.nw] [aI ((V.length:Int)+a.bY)]<|aac [] 8 (λ X_=>(lL a.nN _ (by unfold fH;omega)))<|aae 9 (aaf [] [] [0] (iL (t:=(V.length:Int)+a.bY) (xi:=(qD (ai a.nN 36))) h (om (by have h_:=aA (n:=a.nN) (by unfold fH;omega) 36 (by decide);omega))) ?_);rintro _ T5 ⟨⟨kv3,e4⟩,rfl,hs6⟩;refine ag [] [10,11] []<|aad<|ae 1 [] λ _=>aaq [] [] [0] (v:=.tuple #[vI 0,vI e4]) (H':=(ap [] [T5])) ?_;exact⟨((0,e4,P,kv3,c,V,m),T5),rfl,rfl,hs6,hI.more (Nat.le_succ _),by show c <= _;omega,.inl ⟨by omega,rfl,rfl,rfl,rfl⟩⟩
 ·refine ae 8 [] λ _=>aam (a.dO=1) 25 (λ h7=>?_) λ h7=>?_
  ·refine ae 7 [] λ _=>aai (cy h (ak 0))<|ae 10 (ow 1 16) λ _=>aaj (Hp:=[]) (Tp:=[]) [] [] (hl.up.use λ F_ h_=>dp S A n cap xs (P.rows.length:Int) F_ h_ hn (by omega) (by omega)) ?_;rintro _ ⟨A8,c9,UJ⟩ ⟨rfl,TF,WX⟩;dsimp only at TF WX;refine aaj [] [1] (jz (cc:=c9) h hI hT hV hk hc (TF.rowN (ak 0) (bV _ _ _ _)) (by rw[K_]) rfl) ?_;rintro _ TO ⟨rfl,Ug,Ym⟩;refine ae 4 [] λ _=>aaq [] [] [0] (v:=.tuple #[vI 0,vI 0]) (H':=(ap [] [TO])) ?_;exact⟨((0,0,dD P (TR P.rows.length),jy kv (P.rows.length:Int),c,V,m),TO),rfl,rfl,Ug,Ym,by show c <= _;omega,.inr (.inl ⟨by omega,rfl,rfl,rfl,by show (P.rows++[_]).length=_;simp,rfl⟩)⟩
  ·refine ae 6 [] λ _=>aam (a.dO=4) 25 (λ Uw=>?_) λ Uw=>?_
   ·refine ae 4 [] λ _=>aai (cy h (ak 0))<|ae 10 (ow 1 16) λ _=>aaj (Hp:=[]) (Tp:=[]) [] [] (hl.up.use λ F_ h_=>dp S A n cap xs (P.rows.length:Int) F_ h_ hn (by omega) (by omega)) ?_;rintro _ ⟨A17,Zf,XM⟩ ⟨rfl,UL,Wt⟩;dsimp only at UL Wt;refine aaj [] [1] (jz (cc:=Zf) h hI hT hV hk hc (UL.rowN (ak 0) (bV _ _ _ _)) (by rw[K_]) rfl) ?_;rintro _ VK ⟨rfl,Vo,Yk⟩;refine ae 4 [] λ _=>aaq [] [] [0] (v:=.tuple #[vI 0,vI 0]) (H':=(ap [] [VK])) ?_;exact⟨((0,0,dD P (TR P.rows.length),jy kv (P.rows.length:Int),c,V,m),VK),rfl,rfl,Vo,Yk,by show c <= _;omega,.inr (.inl ⟨by omega,rfl,rfl,rfl,by show (P.rows++[_]).length=_;simp,rfl⟩)⟩
   ·refine ae 5 [] λ _=>aal [6] []<|ag [] [0,1,3,4] [.own 0]<|aac [] 2 (λ X_=>(fm h (aE 0) S7))<|av [] [5] [.nw] [aI ((V.length:Int)+a.bY)]<|aae 6 (aaf [] [] [0] (oU (tt:=(V.length:Int)+a.bY) h hI hT hV S9 hw hk hc (λ i hi=>⟨(oR i hi).1,(oR i hi).2.mono λ x hx=>aq hx⟩) (aq hE)) ?_);rintro _ ⟨⟨Wi,e26,P27,XQ,c29,V30,m31⟩,Wn⟩ ⟨rfl,Vn,VD,Vz,VG⟩;dsimp only at Vn VD Vz VG;refine ag [] [7,8,9,10] []<|aad<|ae 1 [] λ _=>aaq [] [] [0] (v:=.tuple #[vI Wi,vI e26]) (H':=(ap [] [Wn])) ?_;exact⟨((Wi,e26,P27,XQ,c29,V30,m31),Wn),rfl,rfl,Vn,VD,Vz,.inr (.inr ⟨by omega,VG⟩)⟩
end Go.Proofs.YtdppjkjbghbnjaaGreatDoor
