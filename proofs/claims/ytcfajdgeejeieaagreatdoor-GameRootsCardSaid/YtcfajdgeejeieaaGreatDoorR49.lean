import Derived.Test.YtcfajdgeejeieaaGreatDoorR47
import Derived.Test.YtcfajdgeejeieaaGreatDoorR48
import Derived.Test.YtcfajdgeejeieaaGreatDoorRows
import Derived.Test.YtcfajdgeejeieaaGreatDoorChecked
import Derived.Test.YtcfajdgeejeieaaGreatDoorR24
import Derived.ProofKit
import Derived.OpenShut
import Derived.Carry
import Derived.Lay
import Derived.LaidHandle
import Derived.ChangeSlices
import Derived.Test.YtcfajdgeejeieaaGreatDoorR43
import Derived.Lib.LaidTab
import Derived.MakeChecks
set_option maxHeartbeats 4000000
set_option maxRecDepth 100000
set_option linter.unusedSimpArgs false
set_option linter.unusedVariables false
namespace Go.Proofs.YtcfajdgeejeieaaGreatDoor
open Go.RowKit
def J2 (tk:Int) (j1 j2 i:Nat):Nat × Int:=if tk > (i:Int) then (j1,0) else (j2,1)
theorem at_j2 {tk:Int} {j1 j2 bp:Nat} {TB F:HL} (hB:Book2 tk j1 j2 bp TB) (hT:∀ x ∈ TB,x ∈ F) (hj1:j1 < 5) (hj2:j2 < 5) {t:Nat} {v:Int} (e:v=(t:Int)):(J2 tk j1 j2 t).1 < 5 /\ AtOk F bp v (J2 tk j1 j2 t):=by
  subst e
  refine ⟨?_,hB.at hT hj1 hj2 _ (by omega)⟩
  unfold J2
  split
  · exact hj1
  · exact hj2
theorem pl_okT {S1:Setup} (hV:SetV S1) {t:Nat} {M0:MemS} (hT:TE2 S1 (t:Int) M0) {xss:List (List Inp)} (J:Nat -> Nat × Int) (n:Nat) (hn:t+n <= 50) (hr:∀ i,i < n -> RowOk S1.players (xss.getD i [])):∀ i,i <= n -> TE2 S1 ((t+i:Nat):Int) (plM (rG S1 J xss) M0 i)
  | 0,_=>hT
  | i+1,h=>by
    have ih:=pl_okT hV hT J n hn hr i (by omega)
    have:=(tk_ok1 hV (t:=((t+i:Nat):Int)) (by omega) ih (hr i (by omega)).1 (hr i (by omega)).2 (J i)).2
    rw [plM]
    exact_mod_cast this
theorem pl_tkT {S1:Setup} (hV:SetV S1) {t:Nat} {M0:MemS} (hT:TE2 S1 (t:Int) M0) {xss:List (List Inp)} (J:Nat -> Nat × Int) (n:Nat) (hn:t+n <= 50) (hr:∀ i,i < n -> RowOk S1.players (xss.getD i [])) (i:Nat) (hi:i < n):TkOk S1 (J i) (xss.getD i []) (plM (rG S1 J xss) M0 i) :=
  (tk_ok1 hV (t:=((t+i:Nat):Int)) (by omega) (pl_okT hV hT J n hn hr i (by omega)) (hr i hi).1 (hr i hi).2 (J i)).1
abbrev J2t (tk:Int) (j1 j2 t:Nat):Nat -> Nat × Int:=λ i=>J2 tk j1 j2 (t+i)
section
variable {tk:Int} {S S1 S2:Setup} {rs_:List Bx} {ds_:List Dr} {bp gb n cap k t j1 j2:Nat} {A:Option Addr} {rs:List Rw} {xss:List (List Inp)} {M R:MemS} {G0 F TB:HL}
end
theorem lsize_b {S:Setup} (hS:SetN S) {e:Int} (he:sizeOf S=e) (F:HL):Sp Tryz.prog 21 #[Setup.v S] [] F (λ u H'=>u=vI e /\ H'=[]):=he ▸ lsize_any S F hS
theorem get0_cs {M:MemS} (h:0 < M.cs.length):M.cs.getD 0 0=M.get 0:=by
 unfold MemS.get
 rw [if_pos (by omega)]
 rfl
section
variable {tk:Int} {S S1:Setup} {rs_:List Bx} {ds_:List Dr} {bp gb b o N c k n i j1 j2:Nat} {full:List Inp} {xss:List (List Inp)} {M0:MemS} {G0 F TB:HL}
theorem tick_j2 (hV:SetV S) (h1:SetEq S S1) (hG:GameH rs_ ds_ bp gb S1 (plM (rG S1 (J2t tk j1 j2 0) xss) M0 i) (k+20000) G0) (hE:EffIn F) (hI:(b,.rows 3 N (inrow full) 122 (0,0)) ∈ F) (hir:o+(xss.getD i []).length <= N) (hx:∀ k,k < (xss.getD i []).length -> full.getD (o+k) dI=(xss.getD i []).getD k dI) (hrow:∀ i,i < n -> RowOk S.players (xss.getD i [])) (hn:n <= 50) (hi:i < n) (hT:TE2 S1 ((0:Nat):Int) M0) (hB:Book2 tk j1 j2 bp TB) (hTB:∀ x ∈ TB,x ∈ F) (hj1:j1 < 5) (hj2:j2 < 5) :
  Sp Tryz.prog 11 #[vP gb 0,vS b (o * 3) (xss.getD i []).length c] (ap [] [G0]) F (λ u H'=>∃ x:(MemS × Value × Value) × HL × HL,H'=ap [] [x.2.1,x.2.2] /\
   (GameH rs_ ds_ bp gb S1 x.1.1 k x.2.1 /\ x.1.1=plM (rG S1 (J2t tk j1 j2 0) xss) M0 (i+1) /\ TE2 S1 ((i+1:Nat):Int) x.1.1 /\ u=.tuple #[x.1.2.1,x.1.2.2,vI 0])):=by
 have hV1:=h1.setV hV
 have hp:=hV.pl
 have hrow1:∀ i,i < n -> RowOk S1.players (xss.getD i []):=λ i hi=>by rw [h1.pl];exact hrow i hi
 have hok:=pl_okT hV1 hT (J2t tk j1 j2 0) n (by omega) hrow1
 have hat:=at_j2 hB hTB hj1 hj2 (hok i (by omega)).t0
 refine (tick_tk (c:=c) (k:=k) hG hat.1 hat.2 hE hI hir (by have:=(hrow i hi).1;omega) hx (pl_tkT hV1 hT (J2t tk j1 j2 0) n (by omega) hrow1 i hi)).mono λ u H' h=>?_
 obtain ⟨⟨⟨A,cc,m⟩,G2,E2⟩,rfl,h3,h4,h5⟩:=h
 have hk:=hok (i+1) (by omega)
 rw [Nat.zero_add] at hk
 exact ⟨((_,_,_),G2,E2),rfl,h3,rfl,hk,h5⟩
end
theorem roots_any (A0 AI:Option Addr) (n0 c0 nI cI:Nat) (xs xI:List Int) (i1 i3:Int) (F:HL) (hE0:TabIn F) (hE1:EffIn F) (hl0:ArgD F A0 n0 xs) (hn0:n0 <= 9223372036854775807) (hl2:ArgD F AI nI xI) (hn2:nI <= 9223372036854775807) (hi1:i64r i1) (hi3:i64r i3):Sp Tryz.prog 3 #[.slice A0 n0 c0,vI i1,.slice AI nI cI,vI i3] [] F (λ u H'=>u=.bool true /\ H'=[]):=by
 refine Sp.run Tryz.func3 rfl mn (A:=[]) (Ts:=[]) rfl λ w0=>?_
 refine RN.go 8 [] λ _=>RN.ct (Hp:=[]) (Tp:=[]) [] [] (hl0.up.use λ F_ h_=>setup_ap A0 n0 c0 xs _ h_ hn0) ?_
 rintro _ ⟨S,TS⟩ ⟨rfl,hG⟩
 dsimp only at hG
 have hF:=gfacts hl0 hG
 have hpl:=hF.pl
 have hnb:=hF.nb
 have hrn:=hF.rn
 have hdn:=hF.dn
 have hsz:=hF.sz
 have hil:=iniL_len S S.nb
 have hV:SetV S:=hl0.ex.elim λ _ h_=>setV h_ hG
 refine RN.go 5 (ow 0 16) λ n1=>RN.draw [] []<|RD.go [] [0,1] (ow 0 16)<|RD.one 2 (RDO.ct [] (Hp:=[]) (Tp:=[]) [] [] (book2_any i1 4 _ hi1 (by unfold i64r;omega) (by decide) (ro_ap hE0)) ?_)
 rintro _ ⟨b2,T3⟩ ⟨rfl,hB4⟩
 dsimp only at hB4
 have hj1:(around i1 5).toNat < 5:=by have:=around_bd (n:=i1) hi1 5 (by decide);omega
 have hj2:(around 4 5).toNat < 5:=by decide
 refine RD.one 3 (RDO.ct [] (Hp:=[]) (Tp:=[]) [] [] (started_any S genR (genD (kv xs 3 % 3).toNat) b2 _ (hG.sin _ (in_ap 1) (sub_ap 1)).cl (hG.maps.2 _ (sub_ap 1)) (by omega) (by omega) (by omega) (by omega) hF.val 1000000 (by decide)) ?_)
 rintro _ ⟨g5,S6,T7⟩ ⟨rfl,he8,hg9⟩
 dsimp only at he8 hg9
 refine RD.go [] [4] []<|RD.fin<|RN.go 12 [] λ _=>RN.draw [] []<|RD.go [] [0,1,2] (ow 0 16)<|RD.cp [] 3 (λ X_=>(around_any i3 7 (by decide) _)) ?_
 have hA10:=around_bd (n:=i3) hi3 7 (by decide)
 obtain ⟨cnt,hcnt,hcl⟩:∃ cnt:Nat,around i3 7=(cnt:Int) /\ cnt <= 6:=⟨(around i3 7).toNat,by omega,by omega⟩
 refine RD.one 4 (RDO.ct [] (Hp:=[]) (Tp:=[]) [] [] (hl2.up.use λ F_ h_=>rows_ap S AI nI cI xI (around i3 7) cnt F_ h_ hn2 (by omega) hcnt (by omega)) ?_)
 rintro _ ⟨⟨A11,c12,rs13⟩,E14,T15⟩ ⟨rfl,hs16,hl17,hT18⟩
 dsimp only at hs16 hl17 hT18
 have hgr:∀ i,i < cnt -> RowOk S.players ((rowsG S.players xI cnt).getD i []):=λ i hi=>hl2.ex.elim λ _ h_=>gen_rows h_ (by omega) cnt i hi
 refine RD.go [] [5] []<|RD.fin<|RN.go 8 [] λ _=>RN.loop (σ:=Nat × HL) (λ ⟨i_,G_⟩=>⟨[(9,vP (n1+0) 0),(10,vP g5 0),(11,.slice A11 cnt c12),(12,vI (i_:Int))],[((n1+0),.lit (Setup.l S) 31 (0,0)),(S.bb,.rows 9 S.bR (brow S.bods) 87 (0,0))],[E14,T15,G_,T3,TS],i_ <= cnt /\ GameH genR (genD (kv xs 3 % 3).toNat) b2 g5 S6 (plM (rG S6 (J2t 2 (around i1 5).toNat (around 4 5).toNat 0) (rowsG S.players xI cnt)) ⟨iniL S S.nb,[],0⟩ i_) (500000+20000 * (cnt - i_)) G_,cnt - i_⟩) (0,T7) [0,1] [0,1,2,3,4] (⟨Nat.zero_le _,hg9.weak (by omega)⟩) ?_
 rintro ⟨i_,G_⟩ ⟨hi_,hg_⟩ mt20
 refine RN.go 9 [] λ _=>RN.em ((i_:Int) < (cnt:Int)) 34 (λ h21=>?_) λ h21=>?_
 ·refine RN.go 6 [] λ _=>?_
  obtain ⟨bR,oR,fR,rfl,rfl,hfl,hrc,hfd⟩:=hs16.resolve_left (λ h_=>by have h1_:=h_.2.2.1;subst h1_;simp at hl17;omega)
  refine RN.ot 0 (x:=(bR,.rows 1 (oR+c12) (rowE rwE fR) 44 (0,0))) ?_
  obtain ⟨bk,ok,Nk,fk,ck,ek,hIk,hik,hxk,hck⟩:=(hT18 T15 (λ x hx=>hx)).get (k:=i_) (by omega)
  have hgk_:fR.getD (oR+i_) rwE.dflt=rs13.getD i_ rwE.dflt:=take_drop_get hfd (by omega) _
  refine RN.goP 6 [.ix i_,.row 0 (oR+i_) 0] [(oR * 1+i_ * 1)=(oR+i_) * 1+0 /\ (oR+i_) < (oR+c12),(i_:Int)=((i_:Nat):Int) /\ i_ < cnt] λ _=>RN.sv 42 (congrArg (λ v_:Rw=>Value.slice v_.A v_.n v_.c) (hgk_.trans ek))<|RN.ct [] [1] (tick_j2 (tk:=2) (c:=ck) (k:=(500000+20000 * (cnt - (i_+1)))) (n:=cnt) hV he8 (hg_.weak (by omega)) (ro_ap hE1) ((sub_ap 0) _ hIk) hik hxk hgr (by omega) (by omega) (ini_eq hV he8) hB4 (sub_ap 1) hj1 hj2) ?_
  rintro _ ⟨⟨M22,u23,v24⟩,T25,E26⟩ ⟨hg27,he28,ht29,rfl⟩
  dsimp only at hg27 he28 ht29
  have hlM22:=ht29.len
  rw [he8.size] at hlM22
  have h0M22:M22.cs.getD 0 0=(i_:Int)+1:=by rw [get0_cs (by omega),ht29.t0];omega
  have hpo_:0 < hgtN M22.cs.length:=(pow_lt (n:=M22.cs.length) (i:=0) (by omega)).1 (by simp;omega)
  refine RN.go 12 [] λ _=>?_
  obtain ⟨m30,Tm30,Mm30,Sm30,sm30⟩:=gmem_of hg27
  refine RN.cp (sm30 _ (sub_ap 0))<|RN.ct (Hp:=[]) (Tp:=[]) [] [] (cells_ap m30 M22 (500000+20000 * (cnt - (i_+1))) Tm30 _ Mm30 (λ x hx=>(sub_ap 0) x (Sm30 x hx))) ?_
  rintro _ q31 rfl
  refine RN.ct (Hp:=[]) (Tp:=[]) [] [] (mnew_ap q31 M22.cs.length M22.cs _ (in_ap 0) (Nat.le_refl _) (by omega)) ?_
  rintro _ ⟨t32,c33,n34⟩ rfl
  refine RN.go 14 [] λ _=>RN.cp (grootH hg27 (sub_ap 0))<|RN.go 1 [] λ _=>?_
  obtain ⟨m35,Tm35,Mm35,Sm35,sm35⟩:=gmem_of hg27
  refine RN.cp (sm35 _ (sub_ap 0))<|RN.ct (Hp:=[]) (Tp:=[]) [] [] (cells_ap m35 M22 (500000+20000 * (cnt - (i_+1))) Tm35 _ Mm35 (λ x hx=>(sub_ap 0) x (Sm35 x hx))) ?_
  rintro _ q36 rfl
  refine RN.cp (mroot_any q36 M22.cs.length M22.cs _ (in_ap 0) (Nat.le_refl _) (by omega))<|RN.go 4 [] λ _=>RN.fx 65 (nt (decide_eq_true (rfl:rootF M22.cs=_)))<|RN.go 7 [] λ _=>RN.cp (troot_any t32 c33 n34 M22.cs.length (2 * szN M22.cs.length) (hgtN M22.cs.length) (inF M22.cs (szN M22.cs.length) (szN M22.cs.length - 1)) _ (in_ap 1) (in_ap 3) (by have:=(hgt_bd (n:=M22.cs.length) (by omega)).2.2.1;omega))<|RN.go 1 [] λ _=>RN.cp (grootH hg27 (sub_ap 0))<|RN.go 2 [] λ _=>RN.fx 71 (nt (decide_eq_true (rfl:rootF M22.cs=_)))<|RN.go 1 [] λ _=>?_
  obtain ⟨m37,Tm37,Mm37,Sm37,sm37⟩:=gmem_of hg27
  refine RN.cp (sm37 _ (sub_ap 0))<|RN.ct (Hp:=[]) (Tp:=[]) [] [] (cells_ap m37 M22 (500000+20000 * (cnt - (i_+1))) Tm37 _ Mm37 (λ x hx=>(sub_ap 0) x (Sm37 x hx))) ?_
  rintro _ q38 rfl
  refine RN.cp (rroot_any q38 M22.cs.length M22.cs _ (in_ap 0) (Nat.le_refl _) (by omega))<|RN.go 1 [] λ _=>RN.cp (grootH hg27 (sub_ap 0))<|RN.go 4 [] λ _=>RN.fx 79 (nt (decide_eq_true (rfl:rootF M22.cs=_)))<|RN.go 6 [] λ _=>RN.ct (Hp:=[]) (Tp:=[]) [] [] (prove_any t32 c33 n34 M22.cs _ (in_ap 2) (in_ap 3) (in_ap 4) (by omega) (by omega)) ?_
  rintro _ ⟨A39,c40,T41⟩ ⟨rfl,hs42⟩
  dsimp only at hs42
  refine RN.go 5 [.own 0,.own 0,.own 0] λ n43=>?_
  obtain ⟨pb,po,fp,rfl,rfl,hpf,hpc,hpg⟩:=hs42.open (by rw [proofL_len];exact hpo_)
  rw [proofL_len] at hpc hpg
  refine RN.ot 0 (x:=(pb,.rows 1 (po+c40) (rowE u64E fp) 50 (0,0)))<|RN.draw [] []<|RD.goP [] [0,2,1,3,4,5] [.own 1,.nw] [I64 ((i_:Int)+1)]<|RD.fx 87 (nt (decide_eq_true h0M22))<|RD.go [] [6,8,10] (ow 9 16++[.own 1,.own 1,.own 1])<|RD.cp [] 7 (λ X_=>(grootH hg27 (sub_apX 0)))<|RD.cp [] 9 (λ X_=>(lsize_b hF.setN (show sizeOf S=(M22.cs.length:Int) by omega) _))<|RD.cp [] 11 (λ X_=>(verify_any (rootF M22.cs) (M22.cs.getD 0 0) M22.cs.length pb po (po+c40) c40 fp (proofL M22.cs) _ (by omega) (by omega) (in_apX 0) (by omega) hpg))<|RD.go [] [12,13] []<|RD.fin<|RN.go 1 [] λ _=>RN.fx 95 (nt (decide_eq_true (vup_root (xs:=M22.cs) (by omega) (by omega))))<|RN.go 4 [] λ _=>?_
  refine RN.bt 8<|RN.goP 5 [.nw] [I64 ((i_:Int)+1)] λ _=>?_
  refine mt20 (i_+1,T25) [8,9] [0,3,1,4,5] ?_
  try dsimp only
  exact ⟨⟨by omega,by rw [<- he28];exact hg27⟩,by omega⟩
 ·refine RN.go 8 [] λ _=>RN.cp (lives_in (ro_ap hE0))<|RN.go 3 [] λ _=>?_
  exact RN.ret [] [] [] ⟨rfl,rfl⟩
open Go.ChangeShapes Go.WideShapes Go.ChangeAt
theorem own_knob:ownKnob Tryz.prog.godebug=none:=by kernel_rfl
theorem laid_out:laidOutB Tryz.prog=true:=by kernel_rfl
theorem int_range {n:Int} (h:(Lit.int .i64 n).wf=true):-9223372036854775808 <= n /\ n <= 9223372036854775807:=bounds_i64 h
section
variable {H:Type} {enc:TypeId × Value -> H} {P:Program} {W W':World}
theorem trodAll_below (hl:laidOutB P=true) (hb:Below W.heap.size W W'):∀ {ts:List TypeId} {vs:List Value} {ds:List (DataW H)} {ps:List MemPlace},(∀ t ∈ ts,P.readableRec t=true /\ t < P.types.size) ->
    DataW.TrodAll enc P W 0 (λ _=>true) true ts vs ds ps -> (∀ x ∈ ps,x.block < W.heap.size) -> DataW.TrodAll enc P W' 0 (λ b=>decide (b < W.heap.size)) true ts vs ds ps
  | [],_,_,_,_,h,_=>by
    obtain ⟨rfl,rfl,rfl⟩:=trodAll_nil h
    exact trodAll_mk0
  | t :: ts,_,_,_,ht,h,hlt=>by
    obtain ⟨v,vs1,d,ds1,a,b,rfl,rfl,rfl,h1,h2⟩:=trodAll_cons h
    have h3:=ht t (by simp)
    exact trodAll_cons_mk (Below.trod hl h3.1 h3.2 h1 hb (λ x hx=>hlt x (by simp [hx]))) (trodAll_below hl hb (λ t h=>ht t (List.mem_cons_of_mem _ h)) h2 (λ x hx=>hlt x (by simp [hx])))
theorem post_law {f:Func} {s:ChangeSpec} {apart fresh handsOn:Bool} {args:Array Value} {v:Value} {ds:List (DataW H)} {before:List MemPlace} (hl:laidOutB P=true)
    (hts:∀ t ∈ f.params.toList,P.readableRec t=true /\ t < P.types.size)
    (hW:DataW.Whole enc P f.params.toList s.vars apart W args.toList ds [] before) (hs:s.vars=[])
    (hA:DataW.TrodAll enc P W 0 (λ _=>true) true f.params.toList args.toList ds before)
    (hres:∀ (b:Nat) (sp:Nat -> Bool) (hd:Bool),DataW.TrodAll enc P W' b sp hd f.resultTypes.toList (v.resultList f.resultTypes.size) (s.fn H (ds++[])).results [])
    (hargs:(s.fn H (ds++[])).args=ds) (hvars:∀ sp,DataW.TrodVars enc P W' sp s.vars (s.fn H (ds++[])).vars []) (hb:Below W.heap.size W W') :
    s.post enc P f apart fresh handsOn false W args v W':=by
  refine ⟨ds,[],before,[],before,[],hW,hres _ _ _,?_,hvars _,hb.frame _,λ h=>by cases h⟩
  rw [hargs]
  exact trodAll_below hl hb hts hA (λ x hx=>hW.lt x hx)
end
def blkOf:Obj -> Blk
  | .cells cs ty fz=>.rows 1 cs.size (λ i _=>cs.getD i default) ty fz
  | o=>.obj o
theorem blkOf_den (o:Obj):(blkOf o).den=o:=by
  cases o with
  | cells cs ty fz =>
    show Obj.cells ⟨rowsOf 1 (λ i _=>cs.getD i default) cs.size⟩ ty fz=_
    congr 1
    have e:rowsOf 1 (λ i _=>cs.getD i default) cs.size=cs.toList:=by
      refine rowsOf_ext (by simp) ?_
      intro i k hi hk
      obtain rfl:k=0:=by omega
      simp [Array.getD,hi]
    rw [e]
  | _=>rfl
def worldF (w:World):HL:=List.ofFn (λ k:Fin w.heap.size=>(k.1,blkOf w.heap[k.1]))
theorem worldF_mem {w:World} {k:Nat} {o:Obj} (h:w.heap[k]?=some o):(k,blkOf o) ∈ worldF w:=by
  obtain ⟨hk,he⟩:=Array.getElem?_eq_some_iff.1 h
  exact List.mem_ofFn.2 ⟨⟨k,hk⟩,by simp [he]⟩
theorem worldF_rel (w:World):Rel (worldF w) w:=by
  refine ⟨λ x hx=>?_,?_⟩
  · obtain ⟨k,rfl⟩:=List.mem_ofFn.1 hx
    simp [blkOf_den]
  · unfold worldF
    rw [List.map_ofFn]
    have e:List.ofFn ((λ x:Nat × Blk=>x.1) ∘ λ k:Fin w.heap.size=>(k.1,blkOf w.heap[k.1]))=List.range w.heap.size:=by
      apply List.ext_getElem
      · simp
      · intro i h1 h2;simp
    rw [e]
    exact List.nodup_range
theorem Sp.callsW {P:Program} {f:FuncId} {args:Array Value} {v:Value} (w:World) (h:Sp P f args [] (worldF w) (λ u H'=>u=v /\ H'=[])):Calls P f args w λ e w'=>e=.returned v /\ Below w.heap.size w w':=by
  refine (h w (worldF_rel w)).mono ?_
  rintro e w' ⟨u,H',rfl,⟨rfl,rfl⟩,hR',hB⟩
  refine ⟨rfl,hB.os,hB.tape,hB.output,hB.size,λ k hk=>?_⟩
  have:=hR'.holds (k,blkOf w.heap[k]) (by rw [List.nil_append];exact worldF_mem (by simp [hk]))
  rw [this]
  simp [blkOf_den,hk]
theorem open_arg {H:Type} {enc:TypeId × Value -> H} {w:World} {r:Reach} {b0:Nat} {v:Value} {d:DataW H} {ps:List MemPlace} (hval:Value.okWide Tryz.prog w r b0 22 v) (hd:DataW.Trod enc Tryz.prog w 0 (λ _=>true) true 22 v d ps) :
    ∃ (A:Option Addr) (n cap:Nat) (xs:List Int),v=.slice A n cap /\ n <= 9223372036854775807 /\ ArgL (worldF w) A n xs /\ n <= cap:=by
  obtain ⟨a0,len,cap,rfl⟩:=okWide_slice Tryz.underlying22 hval
  obtain ⟨fuel,hf⟩:=hd
  rcases open_ints Tryz.underlying22 Tryz.underlying3 (by kernel_rfl) hf with ⟨hcs,hx⟩ | ⟨a,len',cap',zs,hcs,_,hl,hm,hz,hx,hcell,hwz⟩
  · simp [Value.cells] at hcs
    obtain ⟨rfl,rfl,rfl⟩:=hcs
    exact ⟨none,0,0,[],rfl,by omega,.zero _,Nat.le_refl _⟩
  · simp [Value.cells] at hcs
    obtain ⟨rfl,rfl,rfl⟩:=hcs
    unfold maxLen at hm
    simp at hz
    rcases Nat.eq_zero_or_pos len with h0 | hpos
    · subst h0
      exact ⟨some a,0,_,[],rfl,by omega,.zero _,Nat.zero_le _⟩
    · have hlz:len <= zs.length:=by omega
      obtain ⟨b,off,spot⟩:=a
      have c0:=hcell 0 (by omega)
      have hsp:spot=none:=by
        cases spot with
        | none=>rfl
        | some s=>simp [Addr.add,World.cell?] at c0;split at c0 <;> simp at c0
      subst hsp
      have hc:∀ i,i < zs.length -> w.cell? ⟨b,off+i,none⟩=some (.int .i64 (zs.getD i 0)):=λ i hi=>by
        have:=hcell i hi
        unfold Addr.add at this
        by_cases h:i=0
        · subst h;simpa using this
        · rw [if_neg h] at this;exact this
      have h0:=hc 0 (by omega)
      unfold World.cell? at h0
      split at h0
      case h_2=>cases h0
      rename_i cs ty fz hb
      refine ⟨some ⟨b,off,none⟩,len,cap,zs.take len,rfl,by omega,?_,hl⟩
      have hlen:(zs.take len).length=len:=by rw [List.length_take];omega
      have hcs:∀ k,k < len -> cs[off+k]?=some (vI ((zs.take len).getD k 0)):=λ k hk=>by
        have h1:=hc k (by omega)
        unfold World.cell? at h1
        rw [show w.heap[(⟨b,off+k,none⟩:Addr).block]?=some (.cells cs ty fz) from hb] at h1
        have h2:cs[off+k]?=some (.int .i64 (zs.getD k 0)):=by simpa using h1
        rw [h2]
        simp [List.getD_eq_getElem?_getD,List.getElem?_take,hk]
      have hmem:=worldF_mem hb
      have hle:off+len <= cs.size:=by
        have h1:=hcs (len - 1) (by omega)
        have h2:=(Array.getElem?_eq_some_iff.1 h1).1
        omega
      have:=ArgL.cells (F:=worldF w) b off cs.size (λ i _=>cs.getD i default) ty fz (zs.take len) hmem (by rw [hlen];exact hle) (λ k hk=>by
        rw [hlen] at hk
        have h1:=hcs k hk
        simp only [Array.getD_eq_getD_getElem?]
        rw [h1];rfl) (λ k hk=>by
        rw [hlen] at hk
        have:(zs.take len).getD k 0 ∈ zs:=by
          rw [List.getD_eq_getElem?_getD,List.getElem?_eq_getElem (by omega)]
          exact List.mem_of_mem_take (List.getElem_mem _)
        exact int_range (hwz _ this))
      rw [hlen] at this
      exact this
theorem cells_of_tabS {H:Type} {enc:TypeId × Value -> H} {P:Program} {w:World} {base:Nat} {sp:Nat -> Bool} {held:Bool} {fuel:Nat} {t e:TypeId} {n m:Nat} {k:IntKind} {fs:Array Field} {cs:List Value} {zs:List (List Int)} {p:List MemPlace}
    (ht:P.underlying t=some (.array n e)) (he:P.underlying e=some (.struct fs)) (hce:P.cellsOf e=m) (hct:P.cellsOf t=n * m) (hm:0 < m) (hfl:fs.toList.length=m)
    (hf:∀ (j:Nat) f,fs.toList[j]?=some f -> P.underlying f.type=some (.int k) /\ P.cellsOf f.type=1 /\ f.offset=j) (hz:∀ z ∈ zs,z.length=m)
    (h:DataW.trod enc P w base sp held fuel t cs=some (.agg (zs.map λ z=>.agg (z.map λ x=>.lit (.int k x))),p)) :
    cs.length=n * m /\ zs.length=n /\ ∀ i j,i < n -> j < m -> cs[i * m+j]?=some (.int k ((zs.getD i []).getD j 0)):=by
  cases fuel with
  | zero=>simp [DataW.trod] at h
  | succ fuel =>
    simp only [DataW.trod,ht,hce,hct] at h
    split at h
    case isFalse=>cases h
    rename_i hl
    obtain ⟨xs,hmm,hx⟩:=Option.map_eq_some_iff.1 h
    have hxs:xs.map (·.1)=zs.map λ z=>(DataW.agg (z.map λ x=>.lit (.int k x)):DataW H):=by
      have:=congrArg Prod.fst hx
      simpa using this
    have hxl:xs.length=n:=by simpa using Lib.mapM_length hmm
    have hzl:zs.length=n:=by
      have:=congrArg List.length hxs
      simp at this
      omega
    refine ⟨hl,hzl,λ i j hi hj=>?_⟩
    obtain ⟨b,hb,hfb⟩:=Lib.mapM_at hmm i i (by simp [hi])
    have hbz:b.1=.agg ((zs.getD i []).map λ x=>.lit (.int k x)):=by
      have h2:(xs.map (·.1))[i]?=some b.1:=by simp [hb]
      rw [hxs,List.getElem?_map,List.getElem?_eq_getElem (by omega)] at h2
      simp only [Option.map_some,Option.some.injEq] at h2
      rw [<- h2,List.getD_eq_getElem?_getD,List.getElem?_eq_getElem (by omega)]
      rfl
    have hzi:(zs.getD i []).length=m:=by
      rw [List.getD_eq_getElem?_getD,List.getElem?_eq_getElem (by omega)]
      exact hz _ (List.getElem_mem _)
    cases fuel with
    | zero=>simp [DataW.trod] at hfb
    | succ fuel =>
      have hfb':=hfb
      simp only [DataW.trod,he,hce] at hfb'
      split at hfb'
      case isFalse=>cases hfb'
      rename_i hcl
      obtain ⟨ys,hym,hy⟩:=Option.map_eq_some_iff.1 hfb'
      have hys:ys.map (·.1)=(zs.getD i []).map λ x=>(DataW.lit (.int k x):DataW H):=by
        have:=congrArg Prod.fst hy
        rw [hbz] at this
        simpa using this
      have hfj:fs.toList[j]?=some (fs.toList[j]'(by omega)):=List.getElem?_eq_getElem (by omega)
      obtain ⟨c,hc,hfc⟩:=Lib.mapM_at hym j _ hfj
      obtain ⟨f1,f2,f3⟩:=hf j _ hfj
      rw [f2,f3] at hfc
      obtain ⟨x,hcx,hcd,_⟩:=DataW.trod_int f1 hfc
      have h1:(((cs.drop (i * m)).take m).drop j).take 1=[.int k x]:=hcx
      have h2:cs[i * m+j]?=some (.int k x):=by
        have:=congrArg (·[0]?) h1
        simpa [List.getElem?_take,List.getElem?_drop,hj] using this
      have h3:(ys.map (·.1))[j]?=some (DataW.lit (.int k x):DataW H):=by simp [hc,hcd]
      rw [hys,List.getElem?_map,List.getElem?_eq_getElem (by omega)] at h3
      simp only [Option.map_some,Option.some.injEq,DataW.lit.injEq,Lit.int.injEq,true_and] at h3
      have h4:∀ l:List Int,(hl:j < l.length) -> l[j]=l.getD j 0:=λ l hl=>by simp [List.getD_eq_getElem?_getD,hl]
      rw [h2,<- h3,h4 _ (by omega)]
theorem returnsInHanded_shaped {H:Type} {enc:TypeId × Value -> H} {a:Assume} {C:Checked} {os:Os} {f:FuncId} {fn:Func} {s:ChangeSpec} {conds:List PathCond} {apart fresh handsOn again:Bool} {X:World -> Array Value -> Prop}
    (hX:∀ (w w':World) (args:Array Value),w.heap=w'.heap -> X w args -> X w' args)
    (own:ownKnob C.prog.godebug=none) (started:os.Started) (noInit:C.prog.inits.idxOf? f=none) (hfn:C.prog.funcs[f]?=some fn)
    (witness:∃ (w:World) (tape:Tape) (i:Input),w.os=os /\ (w.forCall tape i).Shaped C.prog /\ i.vars=[] /\ Input.okWide C.prog (w.forCall tape i) .any w.heap.size f i /\
      ((s.pre enc C.prog fn conds apart (w.forCall tape i).memory i.args /\ X (w.forCall tape i).memory i.args) /\ sizedMet enc C.prog fn (OpenSpec.ofChange s) apart (w.forCall tape i).memory i.args) /\ a.holds C.prog (lone (Frame.enter C.prog f i.args .normal) [] (w.forCall tape i)))
    (contract:∀ (W:World) (base:Nat) (args:Array Value) (ds gs:List (DataW H)) (before:List MemPlace),W.ShapedOpen C.prog ->
      (∀ (j:Nat) t v,fn.params[j]?=some t -> args[j]?=some v -> Value.okWide C.prog W .any base t v) ->
      DataW.Whole enc C.prog fn.params.toList s.vars apart W args.toList ds gs before -> X W args ->
      Calls C.prog f args W λ e W'=>∃ v,e=.returned v /\ s.post enc C.prog fn apart fresh handsOn again W args v W') :
    ReturnsInHanded a C os f .any (λ w args=>(s.pre enc C.prog fn conds apart w args /\ X w args) /\ sizedMet enc C.prog fn (OpenSpec.ofChange s) apart w args) (s.post enc C.prog fn apart fresh handsOn again):=by
  refine returnsInHanded_of_calls own started noInit witness ?_
  intro w tape i _ hsh _ hok hpre hholds
  obtain ⟨_,_,_,fn',hfn',_,_,_,_,hval⟩:=hok
  have e:fn'=fn:=Option.some.inj (hfn'.symm.trans hfn)
  subst e
  obtain ⟨⟨⟨ds,gs,before,hw,hc⟩,hx⟩,hz⟩:=hpre
  have hw':=DataW.Whole.of_heap (w':=w.forCall tape i) (by rfl) hw
  refine (contract (w.forCall tape i) w.heap.size i.args ds gs before hsh hval hw' (hX _ _ _ (by rfl) hx)).mono λ e W' ⟨v,he,hp⟩=>?_
  subst he
  exact ChangeSpec.post_blind hp
def ceZ:List (List Int):=[[0,0],[0,1],[0,1],[1,0],[1,1],[2,0],[0,1],[0,1],[0,1],[2,1],[2,1],[2,1],[2,1],[1,1],[2,1],[2,1],[2,1],[1,1],[0,0],[1,0],[2,0],[0,0]]
def ceffrow:Nat -> Nat -> Value:=λ i j=>.int .i64 ((ceZ.getD i []).getD j 0)
theorem ceff_den:(Blk.rows 2 22 ceffrow 293 (0,0)).den=(Blk.lit cefV 293 (0,0)).den:=by kernel_rfl
def efZ:List (List Int):=effT.map λ z=>[z.1,z.2.1,z.2.2]
theorem glob_row (g:Nat) (t:TypeId) (hg:g < Tryz.prog.globals.size) (h0:(((begin Tryz.prog (λ _ _=>0) default).world.heap[g]?).bind Obj.row?).map (·.2)=some t) {W:World} (hs:W.ShapedOpen Tryz.prog):∃ cs,W.heap[g]?=some (.cells cs t (0,0)):=by
  cases h:((begin Tryz.prog (λ _ _=>0) default).world.heap[g]?).bind Obj.row? with
  | none=>rw [h] at h0;cases h0
  | some x =>
    obtain ⟨z,t'⟩:=x
    rw [h] at h0
    simp only [Option.map_some,Option.some.injEq] at h0
    subst h0
    obtain ⟨cs,h1,_⟩:=hs.1 g z t' hg h
    exact ⟨cs,h1⟩
def recOk (P:Program) (e:TypeId) (m:Nat):Bool :=
  match P.underlying e with
  | some (.struct fs)=>decide (fs.toList.length=m) && (List.range m).all λ j =>
    match fs.toList[j]? with
    | some f=>(match P.underlying f.type with | some (.int .i64)=>true | _=>false) && decide (P.cellsOf f.type=1) && decide (f.offset=j)
    | none=>false
  | _=>false
theorem recOk_use {P:Program} {e:TypeId} {m:Nat} (h:recOk P e m=true):∃ fs:Array Field,P.underlying e=some (.struct fs) /\ fs.toList.length=m /\
    ∀ (j:Nat) f,fs.toList[j]?=some f -> P.underlying f.type=some (.int .i64) /\ P.cellsOf f.type=1 /\ f.offset=j:=by
  unfold recOk at h
  split at h
  case h_2=>cases h
  rename_i fs hfs
  rw [Bool.and_eq_true] at h
  have hm:fs.toList.length=m:=of_decide_eq_true h.1
  refine ⟨fs,hfs,hm,λ j f hj=>?_⟩
  have hjm:j < m:=by rw [<- hm];exact (List.getElem?_eq_some_iff.1 hj).1
  have h2:=List.all_eq_true.1 h.2 j (List.mem_range.2 hjm)
  rw [hj] at h2
  simp only [Bool.and_eq_true,decide_eq_true_eq] at h2
  refine ⟨?_,h2.1.2,h2.2⟩
  have h3:=h2.1.1
  split at h3
  · assumption
  · cases h3
theorem tab_blk {P:Program} {W:World} {name:String} {g n m:Nat} {t e:TypeId} {zs:List (List Int)} {rest:List (String × DataW Unit)} {ps:List MemPlace} {row:Nat -> Nat -> Value} {cs0:Array Value}
    (hb:W.heap[g]?=some (.cells cs0 t (0,0)))
    (hg:P.globalNamed name=some g) (hty:(P.globals[g]?).map (·.type)=some t) (ht:P.underlying t=some (.array n e)) (hE:recOk P e m=true) (hce:P.cellsOf e=m) (hct:P.cellsOf t=n * m) (hm:0 < m) (hz:∀ z ∈ zs,z.length=m)
    (hrow:∀ i j,i < n -> j < m -> row i j=.int .i64 ((zs.getD i []).getD j 0))
    (h:DataW.LaidVars P W ((name,.agg (zs.map λ z=>.agg (z.map λ x=>.lit (.int .i64 x)))) :: rest) ps):W.heap[g]?=some (Blk.rows m n row t (0,0)).den /\ ∃ q,DataW.LaidVars P W rest q:=by
  obtain ⟨fs,he,hfl,hf⟩:=recOk_use hE
  obtain ⟨g',t',cs,fuel,p,q,hg',ht',hvar,hd,hr,_⟩:=h
  obtain rfl:=Option.some.inj (hg.symm.trans hg')
  obtain rfl:=Option.some.inj (hty.symm.trans ht')
  have hv:W.var? P name=some cs0:=by
    unfold World.var?
    rw [hg]
    simp only [Option.bind_some,hb]
  obtain rfl:=Option.some.inj (hv.symm.trans hvar)
  obtain ⟨h1,h2,h3⟩:=cells_of_tabS ht he hce hct hm hfl hf hz hd
  refine ⟨?_,q,hr⟩
  rw [hb]
  show some (Obj.cells cs0 t (0,0))=some (Obj.cells ⟨rowsOf m row n⟩ t (0,0))
  congr 2
  obtain ⟨l⟩:=cs0
  congr 1
  symm
  exact rowsOf_ext (w:=m) h1 λ i j hi hj=>by rw [hrow i j hi hj];exact h3 i j hi hj
theorem glob_of {W:World} (hs:W.ShapedOpen Tryz.prog) (hL:laidMetH Tryz.prog [("arenanet/compile.effects",Rows.laid_arenanet_compile_effects),("arenanet/vm.effects",Rows.laid_arenanet_vm_effects)] W):W.heap[0]?=some (Blk.lit cefV 293 (0,0)).den /\ W.heap[1]?=some (Blk.rows 3 22 effrow 331 (0,0)).den:=by
  rw [MakeChecks.laidMetH_plain _ _ _ (by kernel_rfl)] at hL
  obtain ⟨ps,hv,_,_⟩:=hL
  obtain ⟨cs0,hb0⟩:=glob_row 0 293 (of_decide_eq_true (by kernel_rfl)) (by kernel_rfl) hs
  obtain ⟨cs1,hb1⟩:=glob_row 1 331 (of_decide_eq_true (by kernel_rfl)) (by kernel_rfl) hs
  have hv0:DataW.LaidVars Tryz.prog W (("arenanet/compile.effects",.agg (ceZ.map λ z=>.agg (z.map λ x=>.lit (.int .i64 x)))) :: [("arenanet/vm.effects",.agg (efZ.map λ z=>.agg (z.map λ x=>.lit (.int .i64 x))))]) ps:=hv
  obtain ⟨h0,q,hq⟩:=tab_blk (n:=22) (m:=2) (e:=292) (row:=ceffrow) hb0 (by kernel_rfl) (by kernel_rfl) (by kernel_rfl) (by kernel_rfl) (by kernel_rfl) (by kernel_rfl) (by decide) (by decide) (λ i j hi hj=>rfl) hv0
  obtain ⟨h1,_⟩:=tab_blk (n:=22) (m:=3) (e:=330) (row:=effrow) hb1 (by kernel_rfl) (by kernel_rfl) (by kernel_rfl) (by kernel_rfl) (by kernel_rfl) (by kernel_rfl) (by decide) (by decide) (λ i j hi hj=>by
    have key:∀ i:Fin 22,∀ j:Fin 3,(if j.1=0 then (effT.getD i.1 (0,0,0)).1 else if j.1=1 then (effT.getD i.1 (0,0,0)).2.1 else (effT.getD i.1 (0,0,0)).2.2)=(efZ.getD i.1 []).getD j.1 0:=by decide
    have:=key ⟨i,hi⟩ ⟨j,hj⟩
    rcases j with _ | _ | _ | j
    · exact congrArg (Value.int .i64) this
    · exact congrArg (Value.int .i64) this
    · exact congrArg (Value.int .i64) this
    · omega) hq
  exact ⟨h0.trans (congrArg some ceff_den),h1⟩
def worldE (W:World):HL:=List.ofFn (λ k:Fin W.heap.size=>(k.1,if k.1=0 then Blk.lit cefV 293 (0,0) else if k.1=1 then Blk.rows 3 22 effrow 331 (0,0) else blkOf W.heap[k.1]))
theorem worldE_den {W:World} (h0:W.heap[0]?=some (Blk.lit cefV 293 (0,0)).den) (h1:W.heap[1]?=some (Blk.rows 3 22 effrow 331 (0,0)).den):denL (worldF W)=denL (worldE W):=by
  unfold denL worldF worldE
  rw [List.map_ofFn,List.map_ofFn]
  congr 1
  funext k
  show (k.1,(blkOf W.heap[k.1]).den)=(k.1,Blk.den (if k.1=0 then _ else if k.1=1 then _ else _))
  rw [blkOf_den]
  congr 1
  by_cases e0:k.1=0
  · rw [if_pos e0]
    have h2:W.heap[k.1]?=some (Blk.lit cefV 293 (0,0)).den:=by rw [show W.heap[k.1]?=W.heap[0]? by rw [e0]];exact h0
    rw [Array.getElem?_eq_getElem k.2] at h2
    exact Option.some.inj h2
  · rw [if_neg e0]
    by_cases e1:k.1=1
    · rw [if_pos e1]
      have h2:W.heap[k.1]?=some (Blk.rows 3 22 effrow 331 (0,0)).den:=by rw [show W.heap[k.1]?=W.heap[1]? by rw [e1]];exact h1
      rw [Array.getElem?_eq_getElem k.2] at h2
      exact Option.some.inj h2
    · rw [if_neg e1,blkOf_den]
theorem worldE_c {W:World} (h0:W.heap[0]?=some (Blk.lit cefV 293 (0,0)).den):TabIn (worldE W) :=
  List.mem_ofFn.2 ⟨⟨0,(Array.getElem?_eq_some_iff.1 h0).1⟩,rfl⟩
theorem worldE_e {W:World} (h1:W.heap[1]?=some (Blk.rows 3 22 effrow 331 (0,0)).den):EffIn (worldE W) :=
  List.mem_ofFn.2 ⟨⟨1,(Array.getElem?_eq_some_iff.1 h1).1⟩,rfl⟩
end Go.Proofs.YtcfajdgeejeieaaGreatDoor
