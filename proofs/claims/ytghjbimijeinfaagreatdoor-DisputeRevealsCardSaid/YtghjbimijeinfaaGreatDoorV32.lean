import Derived.Test.YtghjbimijeinfaaGreatDoorV31
set_option maxHeartbeats 4000000
set_option maxRecDepth 100000
set_option linter.all false
namespace Go.Proofs.YtghjbimijeinfaaGreatDoor
open Go.RowKit
theorem DZ(S:Setup)(rs_:List Bx)(ds_:List Dr)(bp n cap jj:Nat)(A:Option Addr)(rs:List Rw)(xss:List (List Inp))(F:HL)(hS:SetIn F S)(hM:MapIn F S rs_ ds_)(hV:SetV S)(VV:S.rn <= 1000000)(V0:S.dn <= 1000000)(C_:(sizeOf S).toNat <= 1000000)(hv:lK S rs_ ds_=0)(hj:jj<5)(hA:∀t,0 <= t -> AtOk F bp t (jj,0))(hE:dp F)(hr:RowL jz 56 F A n rs)(hw:RwsIn F rs xss)(Tc:∀i,i<n -> lF S.players (xss.getD i []))(h9:n <= 9):Sp Tryz.prog 25 #[Setup.v S,vP bp 0,.slice A n cap] (ap [] []) F (λ u H'=>∃x:Nat × Setup × HL,H'=ap [] [x.2.2] /\ (u=.tuple #[.iface 164 (vP x.1 0),vI 0] /\ SetEq S x.2.1 /\ ExeH rs_ ds_ bp x.1 S x.2.1 (-1) 0 0 0 (XW S (λ _=>(jj,0)) xss (-1) 0 0 0) (XN S (λ _=>(jj,0)) xss (-1) 0 0 0) n xss x.2.2)):=by
 refine aas Tryz.func25 rfl mn (A:=[]) (Ts:=[]) rfl λ w0=>?_;refine ae 13 (ow 0 16) λ n1=>aai (Hp:=[]) (Tp:=[]) [] [] (Ps (cap:=cap) hS.up hM.up hV VV V0 C_ hv (j:=(jj,0)) hj (λ t ht=>(hA t ht).mono λ x hx=>aq hx) (aq hE) hr.up (hw.mono λ x hx=>aq hx) h9 Tc (tQ S)) ?_;rintro _ ⟨⟨q2,A3,c4⟩,E5⟩ ⟨hs6,rfl⟩;refine ae 24 (ow 1 16) λ _=>aai (Hp:=[]) (Tp:=[]) [] [] (J0 S rs_ ds_ bp n cap (λ _=>(jj,0)) A rs xss (-1) 0 0 0 (XW S (λ _=>(jj,0)) xss (-1) 0 0 0) (XN S (λ _=>(jj,0)) xss (-1) 0 0 0) _ hS.up.cl hM.up (by have h_:=hV.nb;omega) VV V0 C_ (aq hE) hr.up (hw.mono λ x hx=>aq hx) (λ k hk=>by have h_:=(Tc k hk).1;have Tu:=hV.pl;omega) (by omega) rfl (λ i hi=>⟨hj,(hA _ (by omega)).mono λ x hx=>aq hx⟩) (λ S3 h3 t ht=>NT (J:=(λ _=>(jj,0))) (ct:=(-1)) (tr:=0) (ix:=0) hV (show n <= 900 by omega) Tc 0 (.inl (by decide)) h3 ht)) ?_;rintro _ ⟨x7,S8,G9⟩ ⟨rfl,adP,ad6⟩;dsimp only at adP ad6;refine ae 5 [] λ _=>aap [] [] [0] (v:=.tuple #[.iface 164 (vP x7 0),vI 0]) (H':=(ap [] [G9])) ?_;exact⟨(x7,S8,G9),rfl,rfl,adP,ad6⟩
open Go.Shelf
theorem Cq(c0:Value)(F:HL):SpD Tryz.prog 76 #[c0] [] F (λ _ H'=>H'=[]):=by
 intro w hR;refine callsDIn_of_wpSIn (F:=Wr none) (n:=0) Tryz.func76 rfl trivial λ c₀ cs hu=>?_;have hrc:recoverD (c₀::cs)=none:=by simp[recoverD,hu]
 refine wpSIn_seq (wpSIn_region ?_);show wpOpsSIn _ _ _ _ _ [0,1] _ _ _;simp only[wpOpsSIn,List.getElem?_toArray,List.getElem?_cons_zero,List.getElem?_cons_succ];simp[wpOpsSIn,go_sem,hrc,Tryz.ntmps76,Exit.thenS];refine wpSIn_cond (t:=false) (by simp[Act.eval,Array.replicate]) ?_;refine wpSIn_of_wpIn rfl ?_;refine wpIn_skip ?_;simp[bodyPostS,results,Tryz.results76,hu];exact⟨.returning,by cases c₀;simp at hu;subst hu;rfl,hu ▸ rfl,hR,Below.refl _ _⟩
theorem wi(S:Setup)(bp fp n cap p0 p1:Nat)(A:Option Addr)(r:Int)(F:HL)(hR0:RootOk F p0 n r)(TT:RootOk F p1 n r):Sp Tryz.prog 118 #[vP fp 0,vI (n:Int)] (ap [(fp,.lit (Setup.l S++[vP bp 0,.slice A n cap,.iface 164 (vP p0 0),.iface 164 (vP p1 0),vI 0,vI 0,vI 0,vI 0]) 184 (0,0))] []) F (λ u H'=>∃_:Unit,H'=ap [(fp,.lit (Setup.l S++[vP bp 0,.slice A n cap,.iface 164 (vP p0 0),.iface 164 (vP p1 0),vI 0,vI 0,vI 0,vI 2]) 184 (0,0))] [] /\ u=.agg #[.int .u64 r,.int .u64 r]):=by
 refine aas Tryz.func118 rfl mn (A:=[(fp,.lit (Setup.l S++[vP bp 0,.slice A n cap,.iface 164 (vP p0 0),.iface 164 (vP p1 0),vI 0,vI 0,vI 0,vI 0]) 184 (0,0))]) (Ts:=[]) rfl λ w0=>?_;refine ae 21 [.own 2,.own 2] λ n1=>aaq 3<|ai 37 [.own 2,.nw,.own 2] [bm (0+1)] λ _=>aah (hR0 _ (λ x hx=>aq hx))<|ai 47 [.own 0,.own 2,.nw,.own 2] [bm ((0+1)+1)] λ _=>aah (TT _ (λ x hx=>aq hx))<|ae 28 [.own 0,.own 0,.own 0,.own 1,.own 1] λ _=>aap [.own 1,.own 1] [2] [] (v:=.agg #[.int .u64 r,.int .u64 r]) (H':=(ap [(fp,.lit (Setup.l S++[vP bp 0,.slice A n cap,.iface 164 (vP p0 0),.iface 164 (vP p1 0),vI 0,vI 0,vI 0,vI ((0+1)+1)]) 184 (0,0))] [])) ?_;exact⟨(),rfl,rfl⟩
theorem MX(F:HL):Sp Tryz.prog 119 #[.bool true,.bool true] [] F (λ u H'=>u=vI (-1) /\ H'=[]):=by
 refine aas Tryz.func119 rfl mn (A:=[]) (Ts:=[]) rfl λ w0=>?_;refine ae 37 [] λ _=>?_;exact aap [] [] [] ⟨rfl,rfl⟩
theorem MY(a b:Int)(F:HL):Sp Tryz.prog 120 #[.agg #[.int .u64 a,.int .u64 b]] [] F (λ u H'=>u=.bool (decide (a=b)) /\ H'=[]):=by
 refine aas Tryz.func120 rfl mn (A:=[]) (Ts:=[]) rfl λ w0=>?_;refine ae 16 (aab 2) λ n1=>?_;exact aap [] [] [] ⟨rfl,rfl⟩
theorem Kd{a b:Bool}(ha:a=true)(hb:b=true)(F:HL):Sp Tryz.prog 119 #[.bool a,.bool b] [] F (λ u H'=>u=vI (-1) /\ H'=[]):=by
 subst ha;subst hb;exact MX F
theorem D1(r:Int)(F:HL):Sp Tryz.prog 120 #[.agg #[.int .u64 r,.int .u64 r]] [] F (λ u H'=>u=.bool true /\ H'=[]):=by
 have h:=MY r r F;rwa [abA (rfl:r=r)] at h
theorem Cr(fp:Nat)(S:Setup)(bp n cap p0 p1:Nat)(A:Option Addr)(r:Int)(F:HL)(hS:SetCl F S)(Um:(bJ S S.nb).length <= 1000000)(hR0:RootOk F p0 n r)(TT:RootOk F p1 n r)(h0:n=0 -> r=gx (bJ S S.nb)):Sp Tryz.prog 77 #[vP fp 0] (ap [(fp,.lit (Setup.l S++[vP bp 0,.slice A n cap,.iface 164 (vP p0 0),.iface 164 (vP p1 0),vI 0,vI 0,vI 0,vI 0]) 184 (0,0))] []) F (λ u H'=>∃_:Unit,H'=ap [(fp,.lit (Setup.l S++[vP bp 0,.slice A n cap,.iface 164 (vP p0 0),.iface 164 (vP p1 0),vI 0,vI 0,vI 0,vI 2]) 184 (0,0))] [] /\ u=vI (-1)):=by
 refine aas Tryz.func77 rfl mn (A:=[(fp,.lit (Setup.l S++[vP bp 0,.slice A n cap,.iface 164 (vP p0 0),.iface 164 (vP p1 0),vI 0,vI 0,vI 0,vI 0]) 184 (0,0))]) (Ts:=[]) rfl λ w0=>?_;refine ae 12 ([.own 0]++ow 1 16) λ n1=>aai (Hp:=[]) (Tp:=[]) [] [] (DP hS.up rfl) ?_;rintro _ q2 rfl;refine aah (qp q2 (bJ S S.nb).length (bJ S S.nb) _ (au 0) (aaS _) Um)<|ae 4 [] λ _=>aak [6,8] []<|ag [] [0,1,2,3,4,5] [.own 1,.own 1,.own 2]<|fe 6 7 ?_ ?_
 ·refine aaf [] [2] [] (wi S bp fp n cap p0 p1 A r _ (hR0.mono λ x hx=>aq hx) (TT.mono λ x hx=>aq hx)) ?_;rintro _ _ rfl;refine aae 7 (aag [] [] λ n3=>?_);refine aae 8 (aag [] (aab 2) λ _=>?_);refine aad<|ae 12 [.own 3,.own 1] λ _=>aal ((n:Int)=0) 25 (λ h4=>?_) λ h4=>?_
  ·refine ae 11 (aab 2) λ _=>aah (Kd (abA (h0 (by omega))) (abA (h0 (by omega))) _)<|ae 3 [] λ _=>aap [] [1] [] (v:=vI (-1)) (H':=(ap [(fp,.lit (Setup.l S++[vP bp 0,.slice A n cap,.iface 164 (vP p0 0),.iface 164 (vP p1 0),vI 0,vI 0,vI 0,vI 2]) 184 (0,0))] [])) ?_;exact⟨(),rfl,rfl⟩
  ·refine ae 7 (aab 2) λ _=>aah (D1 r _)<|ae 8 [] λ _=>aap [] [1] [] (v:=vI (-1)) (H':=(ap [(fp,.lit (Setup.l S++[vP bp 0,.slice A n cap,.iface 164 (vP p0 0),.iface 164 (vP p1 0),vI 0,vI 0,vI 0,vI 2]) 184 (0,0))] [])) ?_;exact⟨(),rfl,rfl⟩
 ·refine aag [] [] λ n5=>aae 6 (aaf [] [3] [] (wi S bp fp n cap p0 p1 A r _ (hR0.mono λ x hx=>aq hx) (TT.mono λ x hx=>aq hx)) ?_);rintro _ _ rfl;refine aae 8 (aag [] [.own 1,.own 1] λ _=>?_);refine aad<|ae 12 [.own 3,.own 0] λ _=>aal ((n:Int)=0) 25 (λ h6=>?_) λ h6=>?_
  ·refine ae 11 [.own 1,.own 1] λ _=>aah (Kd (abA (h0 (by omega))) (abA (h0 (by omega))) _)<|ae 3 [] λ _=>aap [] [0] [] (v:=vI (-1)) (H':=(ap [(fp,.lit (Setup.l S++[vP bp 0,.slice A n cap,.iface 164 (vP p0 0),.iface 164 (vP p1 0),vI 0,vI 0,vI 0,vI 2]) 184 (0,0))] [])) ?_;exact⟨(),rfl,rfl⟩
  ·refine ae 7 [.own 1,.own 1] λ _=>aah (D1 r _)<|ae 8 [] λ _=>aap [] [0] [] (v:=vI (-1)) (H':=(ap [(fp,.lit (Setup.l S++[vP bp 0,.slice A n cap,.iface 164 (vP p0 0),.iface 164 (vP p1 0),vI 0,vI 0,vI 0,vI 2]) 184 (0,0))] [])) ?_;exact⟨(),rfl,rfl⟩
theorem Cs(c0:Value)(F:HL):SpD Tryz.prog 76 #[c0] (ap [] []) F (λ _ H'=>∃_:Unit,H'=ap [] [] /\ True):=by
 exact(Cq c0 F).mono λ u H' h=>⟨(),h,trivial⟩
theorem Ke(S:Setup)(bp n cap p0 p1:Nat)(A:Option Addr)(r:Int)(F:HL)(hS:SetCl F S)(Um:(bJ S S.nb).length <= 1000000)(hR0:RootOk F p0 n r)(TT:RootOk F p1 n r)(h0:n=0 -> r=gx (bJ S S.nb)):Sp Tryz.prog 33 #[Setup.v S,vP bp 0,.slice A n cap,.agg #[.iface 164 (vP p0 0),.iface 164 (vP p1 0)]] (ap [] []) F (λ u H'=>∃_:Unit,H'=ap [] [] /\ u=.agg #[vI (-1),vI 0,vI 0,vI 2]):=by
 refine Sp.runM Tryz.func33 rfl mn (A:=[]) (Ts:=[]) rfl λ w0=>?_;refine ae 10 [] λ n1=>NF (g:=76) (args:=#[]) (cap:=#[vP (n1+2) 0])<|ae 17 (ow 2 16++[.own 1,.own 1]) λ n2=>aai [0] [] (Cr (n2+0) S bp n cap p0 p1 A r _ hS.up Um (hR0.mono λ x hx=>aq hx) (TT.mono λ x hx=>aq hx) h0) ?_;rintro _ _ rfl;refine ae 15 (ow 0 5++[.own 1,.own 1,.own 1,.own 1]) λ _=>Jj ?_;refine NG (enters_of Tryz.func76 (by kernel_rfl) rfl) [] [] (Cs _ _) ?_;rintro _ _ _;refine LV.ret [.own 1,.own 1,.own 1,.own 1] [] [] (v:=.agg #[vI (-1),vI 0,vI 0,vI 2]) (H':=(ap [] [])) ?_;exact⟨(),rfl,rfl⟩
def jq(b:Nat):Setup:=⟨1,b,0,1,1,1,[⟨⟨5,[],none,0⟩,⟨0,0,0,0,0⟩,0,0⟩],⟨0,0,0,0⟩,none,0,0,none,0,0,0,⟨0,0⟩,0,0,0,1,0⟩
theorem Kf(b:Nat):lK (jq b) [] []=0:=by kernel_rfl
theorem PL(b:Nat):SetV (jq b):=⟨⟨show (1:Int) <= 1 by decide,show (1:Int) <= 3 by decide⟩,⟨show 1 <= 1 by decide,show 1 <= 5 by decide⟩,⟨show (1:Int) <= 1 by decide,show (1:Int) <= 3 by decide⟩,⟨show (0:Int) <= 0 by decide,show (0:Int) <= 60 by decide⟩⟩
theorem MZ{b:Nat}{F:HL}(hb:(b,.rows 9 1 (gz (jq b).bods) 106 (0,0))∈F):SetCl F (jq b):=⟨⟨⟨show (0:Int) <= 1 by decide,show (1:Int) <= 1000000 by decide⟩,show 1 <= 1000000 by decide⟩,hb,show 0+1 <= 1 by decide,λ k hk=>by
 obtain rfl:k=0:=by have:k<1:=hk;omega
 exact⟨⟨.zero _,aaU _⟩,.inl rfl⟩⟩
theorem Kg(b:Nat)(F:HL):MapIn F (jq b) [] []:=⟨.zero _,.zero _⟩
theorem mR(b:Nat):sizeOf (jq b)=60:=rfl
theorem M2{b:Nat}{F:HL}(hb:(b,.rows 9 1 (gz (jq b).bods) 106 (0,0))∈F):SetIn F (jq b):=⟨⟨⟨show (0:Int) <= 1 by decide,show (1:Int) <= 1000000 by decide⟩,show 1 <= 1000000 by decide⟩,hb,show 0+1 <= 1 by decide,λ k hk=>by
 obtain rfl:k=0:=by have:k<1:=hk;omega
 exact .circle 5 none 0⟩
theorem RA(F:HL)(hE:pk F):Sp Tryz.prog 35 #[.string ⟨#[]⟩] (ap [] []) F (λ u H'=>∃x:Nat × HL,H'=ap [] [x.2] /\ (u=.tuple #[vP x.1 0,vI 0] /\ Book1 0 x.1 x.2)):=zL 0 F (by decide) hE
theorem ri(F:HL)(YO:pk F)(XQ:dp F):Sp Tryz.prog 24 #[] [] F (λ u H'=>u=.bool true /\ H'=[]):=by
 refine aas Tryz.func24 rfl mn (A:=[]) (Ts:=[]) rfl λ w0=>?_;refine ae 16 (ow 0 16) λ n1=>aaj 1 (.rows 9 1 (gz (jq (n1+0)).bods) 106 (0,0))<|ae 1 [] λ _=>aai (Hp:=[]) (Tp:=[]) [] [] (RA _ (aq YO)) ?_;rintro _ ⟨b2,T3⟩ ⟨rfl,hB4⟩;dsimp only at hB4;refine ae 25 (ow 0 16) λ _=>aai (Hp:=[]) (Tp:=[]) [] [] (DZ (jq (n1+0)) [] [] b2 0 0 0 none [] [] _ (M2 (au 1)) (Kg _ _) (PL _) (show 0 <= 1000000 by decide) (show 0 <= 1000000 by decide) (by rw[mR];decide) (Kf _) (by decide) (λ t ht=>hB4.at (ay 0) (by decide) t ht) (aq XQ) (.zero _) ⟨rfl,λ k hk=>absurd hk (Nat.not_lt_zero _)⟩ (λ i hi=>absurd hi (Nat.not_lt_zero _)) (by decide)) ?_;rintro _ ⟨x5,S6,G7⟩ ⟨rfl,he8,hX9⟩;dsimp only at he8 hX9;refine ae 28 (ow 0 16) λ _=>aai (Hp:=[]) (Tp:=[]) [] [] (Ke (jq (n1+0)) b2 0 0 x5 x5 none (gx ((XW (jq (n1+0)) (λ _=>(0,0)) [] (-1) 0 0 0) 0)) _ (MZ (au 1)) (show (bJ (jq (n1+0)) 1).length <= 1000000 by rw[fU,mR];decide) (hX9.root (t:=0) (ay 0) (aaU _) (show (bJ (jq (n1+0)) 1).length <= 1000000 by rw[fU,mR];decide)) (hX9.root (t:=0) (ay 0) (aaU _) (show (bJ (jq (n1+0)) 1).length <= 1000000 by rw[fU,mR];decide)) (λ _=>rfl)) ?_;rintro _ _ rfl;refine ae 17 (ow 0 6) λ UF=>?_;exact aap [] [] [] ⟨rfl,rfl⟩
noncomputable section
def tV(ν:Nu)(H:AH)(w:World)(tabs:List PB)(n:Nat):HL :=
 ((List.range n).filter λ h=>(bE H h).isSome && !(tabs.any λ p=>p.1 == h)).map λ h=>(mK ν h,.obj ((w.heap[mK ν h]?).getD default))
structure HeapT(ν:Nu)(H:AH)(tabs:List PB)(G n:Nat)(T:HL):Prop where
 glb:Glb ν G
 new:∀h,n <= h -> ν h=none
 tab:∀p∈tabs,ν p.1=some (p.1,p.2.1.length)
 rel:∀F w,Rel (tabs.map gA++T++F) w -> HR ν H F w
section
variable {tabs:List PB} {G:Nat} {F:HL} {w:World}
theorem M3(ht:qZ G tabs=true)(Tl:(tabs.map (·.1)).Nodup):∀p∈tabs,ql tabs G p.1=some (p.1,p.2.1.length):=λ p hp=>by
 have g_:=(fK ht p hp).1;simp only[ql,if_pos g_];congr 2;cases hf:tabs.find? (λ q=>q.1 == p.1) with
 | none=>exact absurd (List.find?_eq_none.1 hf p hp) (by simp)
 | some q =>
  obtain⟨hq,S0⟩:=mL hf;have:q=p:=od Tl hp hq S0;simp[this]
theorem Ap{ν:Nu}{H:AH}{n:Nat}(hH:HR ν H F w)(hc:tz H tabs=true)(iS:∀p∈tabs,uj p.2.1=true)(hν:∀p∈tabs,ν p.1=some (p.1,p.2.1.length))(Tl:(tabs.map (·.1)).Nodup)(hF:(F.map (·.1)).Nodup) :
  Rel (tabs.map gA++tV ν H w tabs n++F) w:=by
 have Vt:∀p∈tabs,w.heap[p.1]?=some (gA p).2.den /\ ∃b,bE H p.1=some b:=λ p hp=>xe hH (mM hc p hp) (iS p hp) (hν p hp);have S7:∀h,(bE H h).isSome=true -> ∃K b o,ν h=some (mK ν h,K) /\ bE H h=some b /\ w.heap[mK ν h]?=some o:=λ h hh=>by
  obtain⟨b,hb⟩:=Option.isSome_iff_exists.1 hh;obtain⟨r,K,o,h1,h2,h3⟩:=hH.blk h b hb;have e:mK ν h=r:=by simp[mK,h1]
  exact⟨K,b,o,by rw[e];exact h1,hb,by rw[e];exact h2⟩
 refine⟨λ x hx=>?_,?_⟩
 ·rcases List.mem_append.1 hx with hx|hx
  ·rcases List.mem_append.1 hx with hx|hx
   ·obtain⟨p,hp,rfl⟩:=List.mem_map.1 hx;exact(Vt p hp).1
   ·obtain⟨h,hh,rfl⟩:=List.mem_map.1 hx;have h2:=(List.mem_filter.1 hh).2;rw[abe] at h2;obtain⟨K,b,o,_,_,e⟩:=S7 h h2.1;show w.heap[mK ν h]?=some ((w.heap[mK ν h]?).getD default);rw[e];rfl
  ·exact hH.frm x hx
 ·-- the afi
  have hs:∀h∈tabs.map (·.1)++(List.range n).filter (λ h=>(bE H h).isSome && !(tabs.any λ p=>p.1 == h)),(bE H h).isSome=true:=λ h hh=>by
   rcases List.mem_append.1 hh with hh|hh
   ·obtain⟨p,hp,rfl⟩:=List.mem_map.1 hh;obtain⟨_,b,hb⟩:=Vt p hp;rw[hb];rfl
   ·have h2:=(List.mem_filter.1 hh).2;rw[abe] at h2;exact h2.1
  have ag7:(tabs.map (·.1)++(List.range n).filter (λ h=>(bE H h).isSome && !(tabs.any λ p=>p.1 == h))).Nodup:=by
   refine List.nodup_append.2 ⟨Tl,(List.nodup_range).sublist List.filter_sublist,λ a ha b hb e=>?_⟩;subst e;have h2:=(List.mem_filter.1 hb).2;rw[abe] at h2;obtain⟨p,hp,e⟩:=List.mem_map.1 ha;have h3:(tabs.any λ p=>p.1 == a)=true:=List.any_eq_true.2 ⟨p,hp,by simp[e]⟩;rw[h3] at h2;exact absurd h2.2 (by decide)
  have e1:(tabs.map gA++tV ν H w tabs n).map (·.1)=(tabs.map (·.1)++(List.range n).filter (λ h=>(bE H h).isSome && !(tabs.any λ p=>p.1 == h))).map (mK ν):=by
   unfold tV;simp only[List.map_append,List.map_map];congr 1;apply List.map_congr_left;intro p hp;simp[gA,mK,hν p hp]
  rw[List.map_append,List.nodup_append,e1];refine⟨?_,hF,λ a ha b hb=>?_⟩
  ·rw[List.Nodup,List.pairwise_map];refine List.pairwise_iff_forall_sublist.2 λ {a b} hsb=>?_;obtain⟨K1,b1,_,x1,x2,_⟩:=S7 a (hs a (hsb.subset (by simp)));obtain⟨K2,b2,_,y1,y2,_⟩:=S7 b (hs b (hsb.subset (by simp)));intro e;have hab:a=b:=hH.inj _ _ _ _ _ _ _ x2 y2 x1 (by rw[e];exact y1);have:=ag7.sublist hsb;simp[hab] at this
  ·obtain⟨h,hh,rfl⟩:=List.mem_map.1 ha;obtain⟨x,hx,rfl⟩:=List.mem_map.1 hb;obtain⟨K,b,_,g1,g2,_⟩:=S7 h (hs h hh);exact(hH.apt _ _ _ _ g2 g1 x hx).symm
theorem PM{ν:Nu}{H:AH}{n:Nat}(hH:HR ν H F w)(hG:Glb ν G)(Yp:∀h,n <= h -> ν h=none)(hν:∀p∈tabs,ν p.1=some (p.1,p.2.1.length))(Vt:∀p∈tabs,w.heap[p.1]?=some (gA p).2.den):HeapT ν H tabs G n (tV ν H w tabs n):=by
 refine⟨hG,Yp,hν,λ F2 w2 hR=>?_⟩;have key:∀h b r K,bE H h=some b -> ν h=some (r,K) -> ∃x,x∈tabs.map gA++tV ν H w tabs n /\ x.1=r /\ w.heap[r]?=some x.2.den:=λ h b r K hb h1=>by
  obtain⟨r',K',o,h2,h3,_⟩:=hH.blk h b hb;rw[h1] at h2;cases h2
  by_cases ht:(tabs.any λ p=>p.1 == h)=true
  ·obtain⟨p,hp,e⟩:=List.any_eq_true.1 ht;have e:p.1=h:=by simpa using e
   subst e;have h4:=hν p hp;rw[h1] at h4;cases h4;exact⟨gA p,aav _ (List.mem_map.2 ⟨p,hp,rfl⟩),rfl,Vt p hp⟩
  ·have g_:h<n:=by
    rcases abd h n with h4|h4
    ·exact h4
    ·rw[Yp h h4] at h1;cases h1
   have en:mK ν h=r:=by simp[mK,h1]
   refine⟨(mK ν h,.obj ((w.heap[mK ν h]?).getD default)),aau _ (List.mem_map.2 ⟨h,List.mem_filter.2 ⟨List.mem_range.2 g_,?_⟩,rfl⟩),en,?_⟩
   ·rw[hb,Bool.eq_false_iff.2 ht];rfl
   ·show _=some ((w.heap[mK ν h]?).getD default);rw[en,h3];rfl
 refine⟨λ h b hb=>?_,hH.inj,λ x hx=>hR.holds x (aau _ hx),λ h b r K hb h1 x hx e=>?_⟩
 ·obtain⟨r,K,o,h1,h2,h3⟩:=hH.blk h b hb;obtain⟨x,hx,rfl,e⟩:=key h b r K hb h1;refine⟨_,K,o,h1,?_,h3⟩;rw[hR.holds x (aav _ hx),<- e,h2]
 ·obtain⟨y,hy,rfl,_⟩:=key h b r K hb h1;have hn:=hR.nodup;rw[List.map_append,List.nodup_append] at hn;exact hn.2.2 y.1 (List.mem_map.2 ⟨y,hy,rfl⟩) x.1 (List.mem_map.2 ⟨x,hx,rfl⟩) e.symm
end
def kM:Value -> Nat
 | .int .i64 _=>0
 | .string _=>1
 | .slice _ _ _=>2
 | _=>3
theorem Kh(ν:Nu)(v:Value):kM (lL ν v)=kM v:=by
 cases v with
 | pointer a=>cases a <;> rfl
 | slice a n c=>cases a <;> rfl
 | map r=>cases r <;> rfl
 | _=>rfl
def dT:List Value -> List Nat
 | []=>[]
 | v::l=>kM v::dT l
theorem qF(ν:Nu):∀l,dT (tu ν l)=dT l
 | []=>rfl
 | v::l=>by rw[tu,dT,dT,Kh,qF ν l]
def Ct:List Nat -> List Nat -> Bool
 | [],[]=>true
 | a::l,b::m=>match Nat.beq a b with
  | true=>Ct l m
  | false=>false
 | _,_=>false
theorem xw:∀ {l m:List Nat},Ct l m=true -> l=m
 | [],[],_=>rfl
 | a::l,b::m,h=>by
  rw[Ct] at h;split at h
  ·rename_i e;rw[abf e,xw h]
  ·cases h
 | [],_::_,h=>by simp[Ct] at h
 | _::_,[],h=>by simp[Ct] at h
theorem pF{v:Value}(h:kM v=0):∃a,v=vI a:=by
 cases v with
 | int k x =>
  cases k with
  | i64=>exact⟨x,rfl⟩
  | _=>simp[kM] at h
 | _=>simp[kM] at h
theorem Ki{v:Value}(h:kM v=1):∃a,v=.string a:=by
 cases v with
 | int k x=>cases k <;> simp[kM] at h
 | string s=>exact⟨s,rfl⟩
 | _=>simp[kM] at h
theorem D2{v:Value}(h:kM v=2):∃a n c,v=.slice a n c:=by
 cases v with
 | int k x=>cases k <;> simp[kM] at h
 | slice a n c=>exact⟨a,n,c,rfl⟩
 | _=>simp[kM] at h
theorem b9{l:List Value}{a:Nat}{m:List Nat}(h:dT l=a::m):∃v l',l=v::l' /\ kM v=a /\ dT l'=m:=by
 cases l with
 | nil=>simp[dT] at h
 | cons v l' =>
  rw[dT] at h;injection h with h1 h2;exact⟨v,l',rfl,h1,h2⟩
theorem wj{l:List Value}(h:dT l=[]):l=[]:=by
 cases l with
 | nil=>rfl
 | cons v l'=>simp[dT] at h
def Gh:Value -> Bool
 | .int .i64 x=>x == 0
 | _=>false
theorem xx{v:Value}(h:Gh v=true):v=.int .i64 0:=by
 cases v with
 | int k x =>
  cases k with
  | i64=>simp[Gh] at h;rw[h]
  | _=>simp[Gh] at h
 | _=>simp[Gh] at h
def parts:Value -> Option (List Value)
 | .tuple ⟨[.agg ⟨cs⟩,p,z]⟩=>match Gh z,FF cs,mh p with
  | true,true,true=>some cs
  | _,_,_=>none
 | _=>none
def Cu(tabs:List PB)(m:List Nat):Option Rs -> Bool
 | some (.fn (.tuple ⟨[.agg ⟨qs⟩,z]⟩) H _)=>match Gh z,FF qs,Ct (dT qs) m with
  | true,true,true=>tz H tabs
  | _,_,_=>false
 | _=>false
def tW(P:Program)(G k:Nat)(g:FuncId)(tabs:List PB)(l m:List Nat):Option Rs -> Bool
 | some (.fn v H n)=>match parts v with
  | some cs=>match tz H tabs,Ct (dT cs) l with
   | true,true=>Cu tabs m (rB P G k (.fn g [.agg ⟨cs⟩] H n))
   | _,_=>false
  | none=>false
 | _=>false
theorem Kj{v:Value}{cs:List Value}(h:parts v=some cs):∃p,v=.tuple ⟨[.agg ⟨cs⟩,p,.int .i64 0]⟩ /\ FF cs=true /\ mh p=true:=by
 unfold parts at h;split at h
 ·split at h
  ·rename_i h1 h2 h3;cases h;rw[xx h1];exact⟨_,rfl,h2,h3⟩
  ·cases h
 ·cases h
theorem Kk{ν:Nu}{c:Array Value}{v':Value}(h:VRi ν (.tuple c) v'):∃c':Array Value,v'=.tuple c' /\ c.size=c'.size /\ ∀ (i:Nat) (v w:Value),c[i]?=some v -> c'[i]?=some w -> VRi ν v w:=by
 cases h with
 | atom _ h=>simp[cC] at h
 | tuple e h=>exact⟨_,rfl,e,h⟩
theorem PN{ν:Nu}{c:Array Value}{v':Value}(h:VRi ν (.agg c) v'):∃c':Array Value,v'=.agg c' /\ c.size=c'.size /\ ∀ (i:Nat) (v w:Value),c[i]?=some v -> c'[i]?=some w -> VRi ν v w:=by
 cases h with
 | atom _ h=>simp[cC] at h
 | agg e h=>exact⟨_,rfl,e,h⟩
def SQ(P:Program)(G k:Nat)(f:FuncId)(tabs:List PB)(args:List Value)(n0:Nat)(cs':List Value)(T:HL):Prop :=
 ∃v H n ν cs,rB P G k (.fn f args (qk tabs) n0)=some (.fn v H n) /\ parts v=some cs /\ G <= n /\ HeapT ν H tabs G n T /\ LR ν cs cs'
section
variable {P:Program} {G k n0:Nat} {l m:List Nat} {f g:FuncId} {tabs:List PB} {args:List Value}
theorem Gi(hm:P.follows .mixedOrders=true)(hG:Nat.ble G n0=true)(ht:qZ G tabs=true)(ha:uj args=true)(Tl:(tabs.map (·.1)).Nodup)(bY:tW P G k g tabs l m (rB P G k (.fn f args (qk tabs) n0))=true){F:HL} :
  Sp P f ⟨args⟩ (tabs.map gA) F λ u H'=>∃cs T p,SQ P G k f tabs args n0 cs T /\ dT cs=l /\ u=.tuple ⟨[.agg ⟨cs⟩,p,.int .i64 0]⟩ /\ H'=tabs.map gA++T:=by
 intro w hR;have hG:=bK hG;cases L_:rB P G k (.fn f args (qk tabs) n0) with
 | none=>rw[L_] at bY;cases bY
 | some res=>cases res with
  | cd e s=>rw[L_] at bY;cases bY
  | fn v H n' =>
   have ade:=L_;rw[L_] at bY;simp only[tW] at bY;split at bY
   case h_2=>cases bY
   rename_i cs hp;split at bY
   case h_2=>cases bY
   rename_i q1 q2;obtain⟨p,Zj,dO,aaM⟩:=Kj hp;have q2:=xw q2;rw[rY] at L_;obtain⟨hn,SU⟩:=rV hm k _ _ L_;have g_:∀p∈tabs,p.1<G:=λ p hp=>(fK ht p hp).1;refine(SU (ql tabs G) F w args (λ k hk=>⟨_,if_pos hk⟩) (λ h h1 h2=>by simp only[ql];rw[if_neg (by omega)]) (Je ht hR) (LR.plain_refl ha)).mono ?_;rintro e w' ⟨ν,v',rfl,hv,VE,hH,Xn⟩;have Vp:∀p∈tabs,ν p.1=some (p.1,p.2.1.length):=λ p hp=>by
    rw[VE.out _ (.inl (by have:=g_ p hp;omega))];exact M3 ht Tl p hp
   have ahy:Glb ν G:=λ k hk=>by
    rw[VE.out _ (.inl (by omega))];exact⟨_,if_pos hk⟩
   have Yp:∀h,n' <= h -> ν h=none:=λ h hh=>by
    rw[VE.out _ (.inr hh)];simp only[ql];rw[if_neg (by omega)]
   have iS:∀p∈tabs,uj p.2.1=true:=λ p hp=>(fK ht p hp).2;have hF:(F.map (·.1)).Nodup:=by
    have:=hR.nodup;rw[List.map_append,List.nodup_append] at this;exact this.2.1
   have Yk:=Ap (n:=n') hH q1 iS Vp Tl hF;have hT:=PM hH ahy Yp Vp (λ p hp=>(xe hH (mM q1 p hp) (iS p hp) (Vp p hp)).1);have Zh:=rZ hv (by rw[Zj,mh,ND,FF,mh,ND,dO,FF,aaM];rfl);rw[Zj] at Zh;have Vg:LR ν cs (tu ν cs):=by
    rw[Zj] at hv;obtain⟨c1,e1,_,h1⟩:=Kk hv;rw[Zh] at e1;cases e1;obtain⟨c2,e2,e3,h2⟩:=PN (h1 0 _ _ rfl rfl);cases e2;exact LR.of_arr (c:=⟨cs⟩) (c':=⟨tu ν cs⟩) e3 h2
   refine⟨v',tabs.map gA++tV ν H w' tabs n',rfl,⟨tu ν cs,_,lL ν p,⟨v,H,n',ν,cs,ade,hp,by omega,hT,Vg⟩,?_,?_,rfl⟩,Yk,Xn⟩
   ·rw[qF];exact q2
   ·rw[Zh];rfl
theorem Gj(hm:P.follows .mixedOrders=true)(bY:tW P G k g tabs l m (rB P G k (.fn f args (qk tabs) n0))=true)(ht:qZ G tabs=true)(Tl:(tabs.map (·.1)).Nodup){cs':List Value}{T F:HL}(h:SQ P G k f tabs args n0 cs' T) :
  Sp P g ⟨[.agg ⟨cs'⟩]⟩ (tabs.map gA++T) F λ u H'=>∃qs,dT qs=m /\ u=.tuple ⟨[.agg ⟨qs⟩,.int .i64 0]⟩ /\ H'=tabs.map gA:=by
 intro w hR;obtain⟨v,H,n,ν,cs,L_,hp,hGn,hT,Vg⟩:=h;rw[L_] at bY;simp only[tW] at bY;rw[hp] at bY;simp only at bY;split at bY
 case h_2=>cases bY
 cases U7:rB P G k (.fn g [.agg ⟨cs⟩] H n) with
 | none=>rw[U7] at bY;cases bY
 | some res=>cases res with
  | cd e s=>rw[U7] at bY;simp[Cu] at bY
  | fn v2 H2 n2 =>
   rw[U7] at bY;unfold Cu at bY;split at bY
   case h_2=>cases bY
   rename_i qs z H3 n3 he;cases he;split at bY
   case h_2=>cases bY
   rename_i z1 z2 z3;have z3:=xw z3;rw[rY] at U7;obtain⟨hn,SU⟩:=rV hm k _ _ U7;have iS:∀p∈tabs,uj p.2.1=true:=λ p hp=>(fK ht p hp).2;have hF:(F.map (·.1)).Nodup:=by
    have:=hR.nodup;rw[List.map_append,List.nodup_append] at this;exact this.2.1
   have hl:=LR.arr Vg;refine(SU ν F w [.agg ⟨cs'⟩] hT.glb (λ h h1 h2=>hT.new h h1) (hT.rel F w hR) (.cons (.agg hl.1 hl.2) .nil)).mono ?_;rintro e w' ⟨ν2,v',rfl,hv,VE,hH,Xn⟩;have Vp:∀p∈tabs,ν2 p.1=some (p.1,p.2.1.length):=λ p hp=>by
    rw[VE.out _ (.inl (by have:=(fK ht p hp).1;omega))];exact hT.tab p hp
   have Yk:=Ap (n:=0) hH bY iS Vp Tl hF;have Zh:=rZ hv (by rw[mh,ND,FF,mh,ND,z2,xx z1];rfl);refine⟨v',tabs.map gA,rfl,⟨tu ν2 qs,?_,?_,rfl⟩,?_,Xn⟩
   ·rw[qF];exact z3
   ·rw[Zh,xx z1];rfl
   ·have e0:tV ν2 H2 w' tabs 0=[]:=rfl;rw[e0,List.append_nil] at Yk;exact Yk
end
theorem Gk{P:Program}{f:FuncId}{args:Array Value}{x:Nat × Blk}{T F:HL}{Q:Value -> HL -> Prop}(hx:x∈F)(h:∀F0,Sp P f args ([x]++T) F0 λ u H'=>∃Hp,Q u Hp /\ H'=[x]++Hp):Sp P f args T F Q:=by
 obtain⟨l1,l2,rfl⟩:=List.append_of_mem hx;have hp:∀H:HL,([x]++H++(l1++l2)).Perm (H++(l1++x::l2)):=λ H=>by
  refine List.Perm.trans ?_ (List.Perm.append_left H List.perm_middle.symm);show (x::(H++(l1++l2))).Perm (H++x::(l1++l2));exact List.perm_middle.symm
 intro w hR;have TT:Rel ([x]++T++(l1++l2)) w:=hR.perm (hp T);refine(h (l1++l2) w TT).mono ?_;rintro e w' ⟨v,H',he,⟨Hp,hq,rfl⟩,G_,hb⟩;exact⟨v,Hp,he,hq,G_.perm (hp Hp).symm,hb⟩
def qG(src:ByteArray):Bool:=tW Tryz.prog 3 100000 65 gZ [0,0,1,2,0,0,1,2,0,0,1,2] [2,0,0,0] (rB Tryz.prog 3 100000 (.fn 64 [.string src] (qk gZ) 3))
theorem Kl:qG "".toUTF8=true:=by kernel_rfl
end
theorem Km:qG Ph.toUTF8=true:=by kernel_rfl
theorem Kn:qG Pi.toUTF8=true:=by kernel_rfl
theorem Ko:qG Pj.toUTF8=true:=by kernel_rfl
theorem Kq:qG Pk.toUTF8=true:=by kernel_rfl
noncomputable section
theorem D3{j:Nat}(hj:j<5):qG (nv j)=true:=by
 match j,hj with
 | 0,_=>exact Kl
 | 1,_=>exact Km
 | 2,_=>exact Kn
 | 3,_=>exact Ko
 | 4,_=>exact Kq
def D4(j:Nat)(cs:List Value)(T:HL):Prop:=SQ Tryz.prog 3 100000 64 gZ [.string (nv j)] 3 cs T
theorem Kr{j:Nat}(hj:j<5){F:HL}(hF:(0,Blk.lit tC 302 (0,0))∈F):Sp Tryz.prog 64 #[.string (nv j)] [] F λ u H'=>∃cs p,D4 j cs H' /\ dT cs=[0,0,1,2,0,0,1,2,0,0,1,2] /\ u=.tuple ⟨[.agg ⟨cs⟩,p,.int .i64 0]⟩ :=
 zI hF λ F0=>(Gi (G:=3) (n0:=3) (tabs:=gZ) mixed rfl rfl rfl (by simp[gZ]) (D3 hj)).mono λ u H' ⟨cs,T,p,h1,h2,h3,h4⟩=>⟨T,⟨cs,p,h1,h2,h3⟩,h4⟩
theorem Cv{j:Nat}(hj:j<5){F T:HL}{cs:List Value}(h:D4 j cs T)(hF:(0,Blk.lit tC 302 (0,0))∈F):Sp Tryz.prog 65 #[.agg ⟨cs⟩] T F λ u H'=>∃qs,dT qs=[2,0,0,0] /\ u=.tuple ⟨[.agg ⟨qs⟩,.int .i64 0]⟩ /\ H'=[] :=
 Gk hF λ F0=>(Gj (tabs:=gZ) mixed (D3 hj) rfl (by simp[gZ]) h).mono λ u H' ⟨qs,h1,h2,h3⟩=>⟨[],⟨qs,h1,h2,rfl⟩,h3⟩
end
theorem Ks{j:Nat}(hj:j<5)(F:HL)(hE:pk F):Sp Tryz.prog 64 #[.string (nv j)] (ap [] []) F (λ u H'=>∃x:List Value × Value × HL,H'=ap [] [x.2.2] /\ (u=.tuple #[.agg ⟨x.1⟩,x.2.1,vI 0] /\ D4 j x.1 x.2.2 /\ dT x.1=[0,0,1,2,0,0,1,2,0,0,1,2])) :=
 (Kr hj hE).mono λ u H' ⟨cs,p,h1,h2,h3⟩=>⟨(cs,p,H'),(cN _).symm,h3,h1,h2⟩
theorem M4{j:Nat}(hj:j<5){T:HL}(F:HL){cs:List Value}(h:D4 j cs T)(hE:pk F):Sp Tryz.prog 65 #[.agg ⟨cs⟩] (ap [] [T]) F (λ u H'=>∃x:List Value,H'=ap [] [] /\ (u=.tuple #[.agg ⟨x⟩,vI 0] /\ dT x=[2,0,0,0])):=by
 rw[cN];exact(Cv hj h hE).mono λ u H' ⟨qs,h1,h2,h3⟩=>⟨qs,h3,h2,h1⟩
theorem Ku{l:List Value}(h:dT l=[0,0,1,2,0,0,1,2,0,0,1,2]):∃x:(Int × Int × ByteArray × Option Addr × Nat × Nat) × (Int × Int × ByteArray × Option Addr × Nat × Nat) × (Int × Int × ByteArray × Option Addr × Nat × Nat),l=[vI x.1.1,vI x.1.2.1,.string x.1.2.2.1,.slice x.1.2.2.2.1 x.1.2.2.2.2.1 x.1.2.2.2.2.2,vI x.2.1.1,vI x.2.1.2.1,.string x.2.1.2.2.1,.slice x.2.1.2.2.2.1 x.2.1.2.2.2.2.1 x.2.1.2.2.2.2.2,vI x.2.2.1,vI x.2.2.2.1,.string x.2.2.2.2.1,.slice x.2.2.2.2.2.1 x.2.2.2.2.2.2.1 x.2.2.2.2.2.2.2]:=by
 obtain⟨v1,_,rfl,k1,h⟩:=b9 h;obtain⟨v2,_,rfl,k2,h⟩:=b9 h;obtain⟨v3,_,rfl,k3,h⟩:=b9 h;obtain⟨v4,_,rfl,k4,h⟩:=b9 h;obtain⟨v5,_,rfl,k5,h⟩:=b9 h;obtain⟨v6,_,rfl,k6,h⟩:=b9 h;obtain⟨v7,_,rfl,k7,h⟩:=b9 h;obtain⟨v8,_,rfl,k8,h⟩:=b9 h;obtain⟨v9,_,rfl,k9,h⟩:=b9 h;obtain⟨v10,_,rfl,k10,h⟩:=b9 h;obtain⟨v11,_,rfl,k11,h⟩:=b9 h;obtain⟨v12,_,rfl,k12,h⟩:=b9 h;rw[wj h];obtain⟨a1,rfl⟩:=pF k1;obtain⟨a2,rfl⟩:=pF k2;obtain⟨a3,rfl⟩:=Ki k3;obtain⟨a4,b4,c4,rfl⟩:=D2 k4;obtain⟨a5,rfl⟩:=pF k5;obtain⟨a6,rfl⟩:=pF k6;obtain⟨a7,rfl⟩:=Ki k7;obtain⟨a8,b8,c8,rfl⟩:=D2 k8;obtain⟨a9,rfl⟩:=pF k9;obtain⟨a10,rfl⟩:=pF k10;obtain⟨a11,rfl⟩:=Ki k11;obtain⟨a12,b12,c12,rfl⟩:=D2 k12;exact⟨((a1,a2,a3,a4,b4,c4),(a5,a6,a7,a8,b8,c8),(a9,a10,a11,a12,b12,c12)),rfl⟩
theorem D5{l:List Value}(h:dT l=[2,0,0,0]):∃ (A:Option Addr) (n c:Nat) (a b d:Int),l=[.slice A n c,vI a,vI b,vI d]:=by
 obtain⟨v1,_,rfl,k1,h⟩:=b9 h;obtain⟨v2,_,rfl,k2,h⟩:=b9 h;obtain⟨v3,_,rfl,k3,h⟩:=b9 h;obtain⟨v4,_,rfl,k4,h⟩:=b9 h;rw[wj h];obtain⟨A,n,c,rfl⟩:=D2 k1;obtain⟨a,rfl⟩:=pF k2;obtain⟨b,rfl⟩:=pF k3;obtain⟨d,rfl⟩:=pF k4;exact⟨A,n,c,a,b,d,rfl⟩
def Setup.mt(S:Setup)(nn:Nat):Setup:={ S with nb:=nn,rounds:=1,fuel:=12 }
structure MtN(S:Setup)(nn:Nat):Prop where
 pl:1 <= S.players /\ S.players <= 3
 nb:S.players <= (nn:Int) /\ 1 <= nn /\ nn <= S.nb /\ S.nb <= 5
theorem NX{F:HL}{S:Setup}{nn:Nat}(h:MtN S nn)(hS:SetIn F S):SetIn F (S.mt nn):=⟨⟨hS.pl,by have h1:=h.nb;show nn <= 1000000;omega⟩,hS.blk,by have h1:=hS.room;have h2:=h.nb;show S.bo+nn <= S.bR;omega,λ k hk=>hS.shp k (by have h2:=h.nb;have h3:k<nn:=hk;omega)⟩
theorem ST{S:Setup}{nn:Nat}(h:MtN S nn):SetV (S.mt nn):=⟨h.pl,⟨h.nb.2.1,by have h1:=h.nb;show nn <= 5;omega⟩,⟨show (1:Int) <= 1 by decide,show (1:Int) <= 3 by decide⟩,⟨show (0:Int) <= 12 by decide,show (12:Int) <= 60 by decide⟩⟩
theorem PO{S:Setup}{nn:Nat}{rs:List Bx}{ds:List Dr}(h:MtN S nn)(hv:lK S rs ds=0):lK (S.mt nn) rs ds=0:=by
 have h2:=h.nb;unfold lK at hv ⊢;split at hv
 ·next c1 =>
  split at hv
  ·next c2 =>
   split at hv
   ·next c3 =>
    have d1:∀k,k<(S.mt nn).nb -> lJ ((S.mt nn).body k).sh:=λ k hk=>c1 k (by have h3:k<nn:=hk;omega);have d3:∀k,k<(S.mt nn).nb -> f8 ((S.mt nn).body k) (S.mt nn).box:=λ k hk=>c3 k (by have h3:k<nn:=hk;omega);rw[if_pos d1,if_pos,if_pos d3];obtain⟨⟨v1,v2,v3,v4,v5,v6,v7,v8⟩,c5,c6⟩:=c2;refine⟨⟨v1,?_,v3,v4,v5,v6,?_,?_⟩,c5,c6⟩
    ·simp only[kf,l8,and_true] at v2 ⊢;show S.players <= ((nn:Nat):Int) /\ ((nn:Nat):Int) <= 24;omega
    ·simp only[kf,l8,and_true];show (1:Int) <= 1 /\ (1:Int) <= 4;decide
    ·simp only[kf,l8,and_true];show (0:Int) <= 12 /\ (12:Int) <= 1000;decide
   ·cases hv
  ·cases hv
 ·cases hv
theorem PP{F:HL}{S:Setup}{nn:Nat}{rs:List Bx}{ds:List Dr}(hM:MapIn F S rs ds):MapIn F (S.mt nn) rs ds:=⟨hM.rooms,hM.doors⟩
theorem M5{S:Setup}{nn:Nat}(h:MtN S nn):48 <= sizeOf (S.mt nn) /\ sizeOf (S.mt nn) <= 100:=by
 have h1:=h.pl;have h2:=h.nb;show 48 <= 48+4*S.players+8*((nn:Nat):Int) /\ 48+4*S.players+8*((nn:Nat):Int) <= 100;omega
theorem PQ(A0 AI:Option Addr)(n0 c0 nI cI cnt:Nat)(xs xI:List Int)(i1 i3:Int)(F:HL)(YO:pk F)(UR:ArgD F A0 n0 xs)(VY:n0 <= 9223372036854775807)(Of:ArgD F AI nI xI)(hn2:nI <= 9223372036854775807)(Yw:rp i1)(aa9:aB i3 4=(cnt:Int))(BY:cnt <= 3):Sp Tryz.prog 23 #[.slice A0 n0 c0,vI i1,.slice AI nI cI,vI i3] (ap [] []) F (λ u H'=>∃x:(Setup × Nat) × (Nat × List Value × Option Addr × Nat × List Rw) × HL × HL × HL × HL,H'=ap [(x.1.1.bb,.rows 9 x.1.1.bR (gz x.1.1.bods) 106 (0,0))] [x.2.2.1,x.2.2.2.1,x.2.2.2.2.1,x.2.2.2.2.2] /\ (u=.tuple #[Setup.v (x.1.1.mt x.1.2),vP x.2.1.1 0,.agg ⟨x.2.1.2.1⟩,.slice x.2.1.2.2.1 cnt x.2.1.2.2.2.1,.bool true] /\ dT x.2.1.2.1=[2,0,0,0] /\ (SetG xs x.1.1 x.2.2.1 /\ MtN x.1.1 x.1.2 /\ Book1 (aB i1 5).toNat x.2.1.1 x.2.2.2.1 /\ SlIs jz 56 x.2.1.2.2.2.2 x.2.1.2.2.1 x.2.1.2.2.2.1 x.2.2.2.2.1 /\ x.2.1.2.2.2.2.length=cnt /\ RwsT x.2.1.2.2.2.2 (fX x.1.1.players xI cnt) x.2.2.2.2.2))):=by
 refine aas Tryz.func23 rfl mn (A:=[]) (Ts:=[]) rfl λ w0=>?_;refine ae 12 [] λ n1=>aai (Hp:=[]) (Tp:=[]) [] [] (UR.up.use λ F_ h_=>E9 A0 n0 c0 xs _ h_ VY) ?_;rintro _ ⟨S,TS⟩ ⟨rfl,hG⟩;dsimp only at hG;have hF:=Jw UR hG;have iS:=hF.pl;have W_:=hF.nb;have VV:=hF.rn;have V0:=hF.dn;have C_:=hF.sz;have Um:=fU S S.nb;have hV:SetV S:=UR.ex.elim λ _ h_=>setV h_ hG;refine ae 15 (ow 0 19) λ n2=>?_;have anx:=hG.cap;have amP:S.players <= (S.nb:Int):=UR.ex.elim λ _ h_=>by have ZM:=o7 h_;have Tu:=sF h_;have h3_:=hG.nb;have h4_:=hG.pl;omega
 obtain⟨nn,hnn,TO⟩:∃nn:Nat,(if (if 2>S.players then 2 else S.players)<(S.nb:Int) then (if 2>S.players then 2 else S.players) else (S.nb:Int))=(nn:Int) /\ MtN S nn:=by
  refine⟨(if (if 2>S.players then 2 else S.players)<(S.nb:Int) then (if 2>S.players then 2 else S.players) else (S.nb:Int)).toNat,?_,⟨iS,?_⟩⟩
  all_goals (repeat' split) <;> omega
 have amY:=TO.nb;refine ai 20 [.sl 0 nn false,.own 0,.own 0,.own 0] [0=0 /\ (if (if 2>S.players then 2 else S.players)<(S.nb:Int) then (if 2>S.players then 2 else S.players) else (S.nb:Int))=((nn:Nat):Int) /\ 0 <= nn /\ nn <= S.bc /\ S.bc≠0] λ _=>aah (BV i1 _ Yw) ?_;have hj:(aB i1 5).toNat<5:=by have h_:=eC (n:=i1) Yw 5 (by decide);omega
 refine ae 6 [] λ _=>aai (Hp:=[]) (Tp:=[]) [] [] (zL (aB i1 5).toNat _ hj (aq YO)) ?_;rintro _ ⟨b3,T4⟩ ⟨rfl,hB5⟩;dsimp only at hB5;refine ae 10 [] λ _=>aai (Hp:=[]) (Tp:=[]) [] [] (Ks hj _ (aq YO)) ?_;rintro _ ⟨cs_,po_,T6⟩ ⟨rfl,ht7,ZB⟩;dsimp only at ht7 ZB;obtain⟨⟨⟨af4,af1,afS,af7,afV,afY⟩,⟨af3,af0,afR,af6,afU,afX⟩,⟨af2,afZ,afQ,af5,afT,afW⟩⟩,rfl⟩:=Ku ZB;refine ae 13 (ow 0 24) λ n8=>aai [] [0] (M4 hj _ ht7 (aq YO)) ?_;rintro _ qs_ ⟨rfl,ahj⟩;obtain⟨X1,XV,XY,X0,XZ,XX,rfl⟩:=D5 ahj;refine ae 28 (aab 4) λ n9=>aak [9,11] []<|ag [] [0,1,3,4,5,8] (ow 2 32)<|aac [] 6 (λ X_=>(zU aa9 (by decide) _))<|fe 2 7 ?_ ?_
 ·refine aag [] (aab 4) λ _=>aae 7 (aaf [] (Hp:=[]) (Tp:=[]) [] [] (Of.up.use λ F_ h_=>zO (S.mt nn) AI nI cI xI (cnt:Int) cnt F_ h_ hn2 (by show 1 <= S.players /\ S.players <= 1000000;omega) rfl (by omega)) ?_);rintro _ ⟨⟨A10,c11,afJ⟩,E13,VP⟩ ⟨rfl,V8,adx,ad8⟩;dsimp only at V8 adx ad8;have hgr:∀i,i<cnt -> lF S.players ((fX S.players xI cnt).getD i []):=λ i hi=>Of.ex.elim λ _ h_=>tF h_ (by omega) cnt i hi;refine aae 9 (aag [] (ow 5 16) λ _=>?_);refine ag [] [10] []<|aae 11 (aag [] [.own 4,.own 4,.own 4,.own 4] λ _=>?_);refine ag [] [12,13] []<|aad<|ae 1 [] λ _=>aap (ow 5 16++[.own 4,.own 4,.own 4,.own 4]) [3] [3,2,0,1] (v:=.tuple #[.agg #[vI S.players,vS S.bb (S.bo*9+0*9) (nn-0) (S.bc-0),vI S.box.x0,vI S.box.y0,vI S.box.x1,vI S.box.y1,.slice S.rA S.rn S.rc,.slice S.dA S.dn S.dc,vI S.fog,vI S.g.x,vI S.g.y,vI S.push,vI S.drag,vI S.rest,vI 1,vI 12],vP b3 0,.agg #[.slice X1 XV XY,vI X0,vI XZ,vI XX],.slice A10 cnt c11,.bool true]) (H':=(ap [(S.bb,.rows 9 S.bR (gz S.bods) 106 (0,0))] [TS,T4,E13,VP])) ?_;exact⟨((S,nn),(b3,[.slice X1 XV XY,vI X0,vI XZ,vI XX],A10,c11,afJ),TS,T4,E13,VP),rfl,rfl,rfl,hG,TO,hB5,V8,adx,ad8⟩
 ·refine aaf [] (Hp:=[]) (Tp:=[]) [] [] (Of.up.use λ F_ h_=>zO (S.mt nn) AI nI cI xI (cnt:Int) cnt F_ h_ hn2 (by show 1 <= S.players /\ S.players <= 1000000;omega) rfl (by omega)) ?_;rintro _ ⟨⟨A18,c19,afI⟩,E21,UX⟩ ⟨rfl,U6,adw,ad7⟩;dsimp only at U6 adw ad7;have hgr:∀i,i<cnt -> lF S.players ((fX S.players xI cnt).getD i []):=λ i hi=>Of.ex.elim λ _ h_=>tF h_ (by omega) cnt i hi;refine i6 (σ:=Unit) (λ _=>⟨[(8,vP (n1+0) 0),(9,vP b3 0),(10,vP (n1+1) 0),(11,.slice A18 cnt c19),(12,.bool true)],[((n9+0),.lit [.slice X1 XV XY,vI X0,vI XZ,vI XX] 47 (0,0)),((n8+0),.lit [vI af4,vI af1,.string afS,.slice af7 afV afY,vI af3,vI af0,.string afR,.slice af6 afU afX,vI af2,vI afZ,.string afQ,.slice af5 afT afW] 157 (0,0)),((n2+0),.lit [vI S.players,vS S.bb (S.bo*9+0*9) (nn-0) (S.bc-0),vI S.box.x0,vI S.box.y0,vI S.box.x1,vI S.box.y1,.slice S.rA S.rn S.rc,.slice S.dA S.dn S.dc,vI S.fog,vI S.g.x,vI S.g.y,vI S.push,vI S.drag,vI S.rest,vI 1,vI 12] 31 (0,0)),(S.bb,.rows 9 S.bR (gz S.bods) 106 (0,0)),((n1+1),.lit [.slice X1 XV XY,vI X0,vI XZ,vI XX] 47 (0,0)),((n1+0),.lit [vI S.players,vS S.bb (S.bo*9+0*9) (nn-0) (S.bc-0),vI S.box.x0,vI S.box.y0,vI S.box.x1,vI S.box.y1,.slice S.rA S.rn S.rc,.slice S.dA S.dn S.dc,vI S.fog,vI S.g.x,vI S.g.y,vI S.push,vI S.drag,vI S.rest,vI 1,vI 12] 31 (0,0))],[E21,UX,T4,TS],True,0⟩) ?_ ?_
  ·rintro⟨⟩;refine ae 1 [] λ _=>aap (ow 5 16++[.own 4,.own 4,.own 4,.own 4]) [3] [3,2,0,1] (v:=.tuple #[.agg #[vI S.players,vS S.bb (S.bo*9+0*9) (nn-0) (S.bc-0),vI S.box.x0,vI S.box.y0,vI S.box.x1,vI S.box.y1,.slice S.rA S.rn S.rc,.slice S.dA S.dn S.dc,vI S.fog,vI S.g.x,vI S.g.y,vI S.push,vI S.drag,vI S.rest,vI 1,vI 12],vP b3 0,.agg #[.slice X1 XV XY,vI X0,vI XZ,vI XX],.slice A18 cnt c19,.bool true]) (H':=(ap [(S.bb,.rows 9 S.bR (gz S.bods) 106 (0,0))] [TS,T4,E21,UX])) ?_;exact⟨((S,nn),(b3,[.slice X1 XV XY,vI X0,vI XZ,vI XX],A18,c19,afI),TS,T4,E21,UX),rfl,rfl,rfl,hG,TO,hB5,U6,adw,ad7⟩
  ·intro WK;refine fe 2 9 ?_ ?_
   ·refine aag [] (aab 4) λ _=>aae 9 (aag [] (ow 5 16) λ _=>?_);refine aae 10 (aag [] [] λ _=>?_);refine aae 11 (aag [] [.own 4,.own 4,.own 4,.own 4] λ _=>?_);refine aae 12 (aag [] [] λ _=>?_);refine aae 13 (aag [] [] λ _=>?_);exact WK () [0,1,2,3,4,5] [0,1,2,3]
   ·refine aag [] (ow 5 16) λ _=>fe 2 10 ?_ ?_
    ·refine aag [] (aab 4) λ _=>aae 10 (aag [] [] λ _=>?_);refine aae 11 (aag [] [.own 4,.own 4,.own 4,.own 4] λ _=>?_);refine aae 12 (aag [] [] λ _=>?_);refine aae 13 (aag [] [] λ _=>?_);exact WK () [0,1,2,3,4,5] [0,1,2,3]
    ·refine aag [] [] λ _=>aae 2 (aag [] (aab 4) λ _=>?_);refine aae 11 (aag [] [.own 4,.own 4,.own 4,.own 4] λ _=>?_);refine aae 12 (aag [] [] λ _=>?_);refine aae 13 (aag [] [] λ _=>?_);exact WK () [0,1,2,3,4,5] [0,1,2,3]
structure HonT(F:HL)(S3:Setup)(xp t m:Nat)(N:Nat -> MemS):Prop where
 len:∀F':HL,(∀x∈F,x∈F') -> Sp Tryz.prog 343 #[vP xp 0,vI (t:Int)] [] F' (λ u H'=>u=vI ((m+1:Nat):Int) /\ H'=[])
 inn:∀κ:Nat,κ <= m+1 -> ∀F':HL,(∀x∈F,x∈F') -> Sp Tryz.prog 342 #[vP xp 0,vI (t:Int),vI (κ:Int)] [] F' (λ u H'=>u=.int .u64 (gx (N κ).cs) /\ H'=[])
 rev:∀κ:Nat,κ <= m+1 -> ∀F':HL,(∀x∈F,x∈F') -> Sp Tryz.prog 344 #[vP xp 0,vI (t:Int),vI (κ:Int)] (ap [] []) F' (λ u H'=>∃x:(Option Addr × Nat × List Lf) × HL × HL,H'=ap [] [x.2.1,x.2.2] /\ (u=.slice x.1.1 (cW S3 (N κ)).length x.1.2.1 /\ SlIs Cf 81 x.1.2.2 x.1.1 x.1.2.1 x.2.1 /\ x.1.2.2.length=(cW S3 (N κ)).length /\ PoolOk x.2.2 (N κ).cs x.1.2.2 (jB S3 (N κ))))
theorem ExeH.hon{rs_:List Bx}{ds_:List Dr}{bp xp n:Nat}{S S3:Setup}{ct tr ix vv:Int}{W:Nat -> List Int}{Ln:Nat -> Nat}{pre:List (List Inp)}{G0 F:HL}(h:ExeH rs_ ds_ bp xp S S3 ct tr ix vv W Ln n pre G0)(hct:ct<0)(hF:∀x∈G0,x∈F)(hV:SetV S3){t:Nat}(ht:t<n)(hn:n <= 900){j:Nat × Int}(hj:j.1<5)(hA:AtOk F bp (t:Int) j)(hE:dp F)(hx:XTk S (eU S3 j (pre.getD t [])) t ct tr ix vv W Ln)(Tc:(pre.getD t []).length <= 1000000)(C_:sizeOf S <= 1000000)(h3s:sizeOf S3=sizeOf S) :
  HonT F S3 xp t (Ln t) (λ κ=>eI (eU S3 j (pre.getD t [])) κ ⟨W t,[],0⟩):=by
 cases h with
 | mk h3 hU hr hrl hrr hs hsl hst hle =>
  rename_i rc sc lc rA sA lA rl sl U Er Rr Es Ss El;have hm:∀ {F':HL} {Th:∀x∈F,x∈F'} {T:HL},T∈[U,Er,Rr,Es,Ss,El] -> ∀x∈T,x∈F':=λ {F'} {Th} {T} hT x hx=>Th x (hF x (aau _ (List.mem_flatten.2 ⟨_,hT,hx⟩)));have VD:decide ((t:Int)=ct)=false:=abz (by omega);have Xj:∀ {κ:Nat} (M:MemS),m8 (decide ((t:Int)=ct)) tr ix vv κ M=M:=λ M=>by rw[VD];rfl
  have YF:∀κ,nD (eU S3 j (pre.getD t [])) (m8 (decide ((t:Int)=ct)) tr ix vv) κ 0 ⟨W t,[],0⟩=eI (eU S3 j (pre.getD t [])) κ ⟨W t,[],0⟩:=λ κ=>by rw[VD,DM]
  have hgd:cH (eU S3 j (pre.getD t [])) (Ln t+1) ⟨W t,[],0⟩:=by
   have h_:ut (eU S3 j (pre.getD t [])) (m8 (decide ((t:Int)=ct)) tr ix vv) (Ln t+1) 0 ⟨W t,[],0⟩:=hx.gd;rw[VD] at h_;exact(xq _ _ _ _ _ _ _).1 h_
  have hWl:(W t).length <= 1000000:=by have:=hx.len.1;omega
  have ZH:∀κ,κ <= Ln t+1 -> (eI (eU S3 j (pre.getD t [])) κ ⟨W t,[],0⟩).cs.length <= 1000000:=λ κ hκ=>by rw[pE (g:=(eU S3 j (pre.getD t []))) hV hgd κ hκ];exact hWl
  have Z6:∀ {F':HL},(∀x∈F,x∈F') -> _:=λ {F'} Th=>Th _ (hF _ (show (xp,_)∈_ from aav _ (List.mem_singleton.2 rfl)));refine⟨λ F' Th=>?_,λ κ hκ F' Th=>?_,λ κ hκ F' Th=>?_⟩
  ·have hm:=@hm F' Th;have h_:=Kb S3 bp xp n (n+1) n rc sc lc rA sA lA ct tr ix vv t (kJ n Ln) F' (Z6 Th) (hle.rowN (hm (by simp)) (kK n Ln)) ht;rw[qz ht] at h_;exact h_
  ·have hm:=@hm F' Th;have hxp:=Z6 Th;obtain⟨q,e,hq⟩:=hst F' (hm (by simp)) t (by omega);obtain⟨b,o,Nn,f,c,e2,hI,hi,UG,hc⟩:=(hrr F' (hm (by simp))).get (k:=t) (by omega);exact MU S3 bp xp n (n+1) n rc sc lc q b o Nn c (Ln t) 0 rA sA lA ct tr ix vv κ t j rl sl f (pre.getD t []) (W t) F' hxp (hU F' (hm (by simp))).1 (Th _ hE) hj (hA.mono Th) (hs.rowN (hm (by simp)) hsl) (by omega) e hq (hr.rowN (hm (by simp)) hrl) ht e2 hI hi Tc UG hWl hx.gd (by have:=hx.le;omega) (by decide) (by omega) (eI (eU S3 j (pre.getD t [])) κ ⟨W t,[],0⟩) hκ (YF κ) Xj (kJ n Ln) (hle.rowN (hm (by simp)) (kK n Ln)) ht (by rw[qz ht];omega) (ZH κ hκ)
  ·have hm:=@hm F' Th;have hxp:=Z6 Th;obtain⟨q,e,hq⟩:=hst F' (hm (by simp)) t (by omega);obtain⟨b,o,Nn,f,c,e2,hI,hi,UG,hc⟩:=(hrr F' (hm (by simp))).get (k:=t) (by omega);exact MW S3 bp xp n (n+1) n rc sc lc q b o Nn c (Ln t) 0 rA sA lA ct tr ix vv κ t j rl sl f (pre.getD t []) (W t) F' hxp (hU F' (hm (by simp))).1 (Th _ hE) hj (hA.mono Th) (hs.rowN (hm (by simp)) hsl) (by omega) e hq (hr.rowN (hm (by simp)) hrl) ht e2 hI hi Tc UG hWl hx.gd (by have:=hx.le;omega) (by decide) (by omega) (eI (eU S3 j (pre.getD t [])) κ ⟨W t,[],0⟩) hκ (YF κ) Xj (kJ n Ln) (hle.rowN (hm (by simp)) (kK n Ln)) ht (by rw[qz ht];omega) (ZH κ hκ) hV (by rw[pE (g:=(eU S3 j (pre.getD t []))) hV hgd κ hκ,h3s];exact hx.len.1)
theorem PS{rs_:List Bx}{ds_:List Dr}{bp xp n jj:Nat}{S S3:Setup}{xss:List (List Inp)}{G0 TB:HL}(hX:ExeH rs_ ds_ bp xp S S3 (-1) 0 0 0 (XW S (λ _=>(jj,0)) xss (-1) 0 0 0) (XN S (λ _=>(jj,0)) xss (-1) 0 0 0) n xss G0)(he:SetEq S S3)(hV:SetV S)(C_:sizeOf S <= 100)(hn:n <= 3)(hr:∀i,i<n -> lF S.players (xss.getD i [])){t:Nat}(ht:t<n)(hj:jj<5)(hB:Book1 jj bp TB) :
  ∃ (m:Nat) (N:Nat -> MemS),(∀F:HL,(∀x∈G0,x∈F) -> (∀x∈TB,x∈F) -> dp F -> HonT F S3 xp t m N) /\ m <= 649 /\ (∀κ,κ <= m -> mX (N κ) /\ N (κ+1)=eR (eU S3 (jj,0) (xss.getD t [])) (N κ)) /\ ∀κ,κ <= m+1 -> ((N κ).cs.length:Int)=sizeOf S:=by
 have hx:=NT (J:=λ _=>(jj,0)) (ct:=-1) (tr:=0) (ix:=0) hV (show n <= 900 by omega) hr 0 (.inl (by decide)) he ht;have hV3:=he.setV hV;have hgd:cH (eU S3 (jj,0) (xss.getD t [])) (XN S (λ _=>(jj,0)) xss (-1) 0 0 0 t+1) ⟨XW S (λ _=>(jj,0)) xss (-1) 0 0 0 t,[],0⟩:=by
  have h_:ut (eU S3 (jj,0) (xss.getD t [])) (m8 (decide ((t:Int)=-1)) 0 0 0) (XN S (λ _=>(jj,0)) xss (-1) 0 0 0 t+1) 0 ⟨XW S (λ _=>(jj,0)) xss (-1) 0 0 0 t,[],0⟩:=hx.gd;rw[abz (by omega)] at h_;exact(xq _ _ _ _ _ _ _).1 h_
 have Tc:(xss.getD t []).length <= 1000000:=by have h1:=(hr t ht).1;have h2:=hV.pl;omega
 refine⟨_,λ κ=>eI (eU S3 (jj,0) (xss.getD t [])) κ ⟨XW S (λ _=>(jj,0)) xss (-1) 0 0 0 t,[],0⟩,λ F h1 h2 h3=>hX.hon (by decide) h1 hV3 ht (by omega) hj (hB.at h2 hj _ (by omega)) h3 hx Tc (by omega) he.size,hx.le,λ κ hκ=>⟨xv κ _ _ hgd hκ,qE _ _ _⟩,λ κ hκ=>?_⟩;have:=pE (g:=eU S3 (jj,0) (xss.getD t [])) hV3 hgd κ hκ;rw[this];exact hx.len.1
theorem PT{S S3:Setup}(he:SetEq S S3)(j:Nat × Int)(xs:List Inp)(A:MemS):eR (eU S3 j xs) A=eR (eU S j xs) A:=by
 have eg:GEq (eU S j xs).cut (eU S3 j xs):=DF ((tQ S).nm2 he) j xs.length xs;unfold eR;rw[<- nP eg,MR]
end Go.Proofs.YtghjbimijeinfaaGreatDoor
