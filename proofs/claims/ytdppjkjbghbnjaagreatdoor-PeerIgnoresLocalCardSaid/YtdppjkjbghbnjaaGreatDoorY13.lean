import Derived.Test.YtdppjkjbghbnjaaGreatDoorRows
import Derived.Test.YtdppjkjbghbnjaaGreatDoorChecked
import Derived.ProofKit
import Derived.OpenShut
import Derived.Carry
import Derived.Lay
import Derived.LaidHandle
import Derived.ChangeSlices
import Derived.Lib.LaidTab
import Derived.MakeChecks
import Derived.SevenTiedAt
import Derived.Test.YtdppjkjbghbnjaaGreatDoorY12
set_option maxHeartbeats 4000000
set_option maxRecDepth 100000
set_option linter.all false
namespace Go.Proofs.YtdppjkjbghbnjaaGreatDoor
open IntKind
open Go.RowKit
theorem yB(l:List Inp){n k:Nat}(h:k<l.length)(x:Inp):∀i j,i<n -> j<3 -> dG (dG (dG (aL cS l) k 0 (vI x.dx)) k 1 (vI x.dy)) k 2 (vI x.act) i j=aL cS (l.set k x) i j:=λ i j _ hj=>by
 unfold dG aL
 by_cases e:i=k
 ·subst e;rw[gy h];rcases j with _|_|_|j
  ·simp;rfl
  ·simp;rfl
  ·simp;rfl
  ·omega
 ·rw[ga (λ e2=>e e2.symm)];simp[e]
theorem Hv(n:Nat):∀i j,i<n -> j<3 -> sm [vI 0,vI 0,vI 0] i j=aL cS (List.replicate n dI) i j:=λ i j _ hj=>by
 unfold sm aL;have e:(List.replicate n dI).getD i cS.dflt=dI:=by
  rw[List.getD_eq_getElem?_getD,List.getElem?_replicate];split <;> rfl
 rw[e];rcases j with _|_|_|j
 ·rfl
 ·rfl
 ·rfl
 ·omega
theorem Lw{pl:Nat}{rows:List (List Inp)}(h:rows=[]):yz pl rows=List.replicate pl dI:=by subst h;rfl
theorem Hw{pl:Nat}{rows:List (List Inp)}{last l:List Inp}(h1:1 <= rows.length)(hse_:rows.getD (rows.length-1) []=last)(hse3_:l.length=last.length)(h4:∀i,i<last.length -> l.getD i dI=lI (last.getD i dI)):yz pl rows=l:=by
 unfold yz;have e:rows.getLast?=some last:=by
  rw[List.getLast?_eq_getElem?,<- hse_,List.getD_eq_getElem?_getD,List.getElem?_eq_getElem (by omega)];rfl
 rw[e];show last.map lI=l;refine Br (d:=dI) (by rw[List.length_map,hse3_]) λ i hi=>?_;rw[List.length_map] at hi;rw[h4 i hi,List.getD_eq_getElem?_getD,List.getElem?_map,List.getD_eq_getElem?_getD,List.getElem?_eq_getElem hi];rfl
theorem yC{F:HL}{q pl:Nat}{l:List Inp}(h:l.length=pl)(hq:(q,.rows 3 pl (aL cS l) 40 (0,0))∈F):RwIn F l ⟨some ⟨q,0,none⟩,pl,pl⟩:=by
 subst h;have:=RwIn.mk (F:=F) (xs:=l) q 0 l.length l l.length hq (by omega) (λ k hk=>by rw[Nat.zero_add]) (Nat.le_refl _);rwa [Nat.zero_mul] at this
theorem Ly(pp gb rb lb sg pl me w rn rc ck un uc en ec rbk:Nat)(rA uA eA:Option Addr)(cl t:Nat)(kv:List (Int × Value × Nat))(rows:List (List Inp))(rl:List Rw)(Tp F:HL)(hp:(pp,.lit [vI (pl:Int),vI (me:Int),vI (w:Int),vP gb 0,vP rb 0,.map (some lb),.slice rA rn rc,vI (ck:Int),.slice uA un uc,.slice eA en ec,vI (rbk:Int),vP sg 0] 102 (0,0))∈F)(hkv:LocIn kv)(hr:RowL jO 38 F rA rn rl)(hT:RwsT rl rows Tp)(hTF:∀x∈Tp,x∈F)(o_:∀r∈rows,RowOk (pl:Int) r)(TW:rn <= 1000000)(ht8:t <= 1000000)(hpl:1 <= pl /\ pl <= 1000)(S9:me<pl):Sp Tryz.prog 49 #[vP pp 0,vI (t:Int)] [(lb,.obj (bj kv cl))] F (λ u H'=>∃x:Rw × HL,H'=ap [(lb,.obj (bj kv cl))] [x.2] /\ (u=.slice x.1.A x.1.n x.1.c /\ ∀F2,(∀y∈Tp++x.2,y∈F2) -> RwIn F2 (hO pl me rows (jj kv) t) x.1)):=by
 have hw:=hT F hTF;refine aav Tryz.func49 rfl (mc hp mn) (A:=[(lb,.obj (bj kv cl))]) (Ts:=[]) rfl λ w0=>?_;refine ae 17 [.ro 0] λ _=>aam ((t:Int)<(rn:Int)) 17 (λ h1=>?_) λ h1=>?_
 ·have ht_:t<rn:=by omega
  refine ae 8 [.ro 0] λ _=>?_;obtain⟨qx2,ox2,Nx2,fx2,atl,amX,alg,arO,al0⟩:=hr.at (k:=t) (by omega);refine aC 21 (congrArg (λ v_=>(.slice v_ rn rc:Value)) amX)<|aar (λ _=>(mc hp (mc alg mn)))<|ah 2 [.ix t,.rorow 1 (ox2+t) 0] [(ox2*1+t*1)=(ox2+t)*1+0 /\ (ox2+t)<Nx2,(t:Int)=((t:Nat):Int) /\ t<rn] λ _=>aC 24 (congrArg (λ v_=>(.slice v_.A v_.n v_.c:Value)) al0)<|ae 3 [] λ _=>aaq [] [0] [] (v:=.slice ((rl.getD t jO.dflt).A) ((rl.getD t jO.dflt).n) ((rl.getD t jO.dflt).c)) (H':=(ap [(lb,.obj (bj kv cl))] [])) ?_;refine⟨(⟨(rl.getD t jO.dflt).A,((rl.getD t jO.dflt).n),((rl.getD t jO.dflt).c)⟩,[]),by simp[ap],rfl,λ F2 hF=>?_⟩;rw[hO,if_pos (by rw[<- hw.len,hr.len];exact ht_)];exact(hT F2 λ x hx=>hF x (by simpa using hx)).row t (by rw[hr.len];exact ht_)
 ·refine ah 15 [.ro 0,.mk pl pl] [(pl:Int)=((pl:Nat):Int) /\ (pl:Int)=((pl:Nat):Int) /\ pl <= pl /\ 24*pl <= 140737488355328 /\ 3=3 /\ pl <= 9223372036854775807] λ n3=>Fa 0 (.rows 3 pl (sm [vI 0,vI 0,vI 0]) 40 (0,0)) (.rows 3 pl (aL cS (List.replicate pl dI)) 40 (0,0)) (qB (Hv pl))<|ae 15 [.ro 0] λ _=>aam ((rn:Int)>0) 36 (λ h4=>?_) λ h4=>?_
  ·have ak9:1 <= rn:=by omega
   refine ah 9 [.ro 0,.nw] [aI ((rn:Int)-1)] λ _=>?_;obtain⟨qx5,r_,UZ,fx5,Xx,TH,TK,W_,Ub⟩:=hr.at (k:=(rn-1)) (by omega);refine aC 40 (congrArg (λ v_=>(.slice v_ rn rc:Value)) TH)<|aar (λ _=>(mc hp (mc TK mn)))<|ah 2 [.ix (rn-1),.rorow 1 (r_+(rn-1)) 0] [(r_*1+(rn-1)*1)=(r_+(rn-1))*1+0 /\ (r_+(rn-1))<UZ,(rn:Int)-1=(((rn-1):Nat):Int) /\ (rn-1)<rn] λ _=>aC 44 (congrArg (λ v_=>(.slice v_.A v_.n v_.c:Value)) Ub) ?_;obtain⟨bk,ok,Nk,fk,ck2,ek,hIk,hik,hxk,YB⟩:=hw.get (k:=rn-1) (by rw[hr.len];omega);obtain⟨last,Tl⟩:∃r,rows.getD (rn-1) []=r:=⟨_,rfl⟩;rw[Tl] at ek hik hxk YB;have arY:(last.length:Int)=(pl:Int):=by rw[<- Tl];exact(o_ _ (gY (by rw[<- hw.len,hr.len];omega) _)).1
   refine aC 44 (congrArg (λ v_:Rw=>Value.slice v_.A v_.n v_.c) ek)<|aar (λ _=>(mc hp (mc TK (mc hIk mn))))<|ae 5 [] λ _=>aao (σ:=Nat × List Inp) (λ ⟨k_,l_⟩=>⟨[(0,vP pp 0),(1,vI (t:Int)),(5,vS (n3+0) 0 pl pl),(44,vS bk (ok*3) last.length ck2),(45,vI (last.length:Int)),(46,vI (k_:Int))],[((n3+0),.rows 3 pl (aL cS l_) 40 (0,0)),(lb,.obj (bj kv cl))],[],k_ <= pl /\ l_.length=pl /\ ∀i,i<k_ -> l_.getD i dI=lI (last.getD i dI),pl-k_⟩) (0,List.replicate pl dI) [0,1] [] (⟨Nat.zero_le _,List.length_replicate,λ i hi=>absurd hi (Nat.not_lt_zero _)⟩) ?_;rintro⟨k_,l_⟩ ⟨X8,YA,hp_⟩ mt7;refine ae 6 [] λ _=>aam ((k_:Int)<(last.length:Int)) 47 (λ h8=>?_) λ h8=>?_
   ·refine ah 11 [.ix k_,.rorow 2 (ok+k_) 0,.rorow 2 (ok+k_) 1,.rorow 2 (ok+k_) 2] [((ok*3+k_*3)+2)=(ok+k_)*3+2 /\ (ok+k_)<Nk,((ok*3+k_*3)+1)=(ok+k_)*3+1 /\ (ok+k_)<Nk,(ok*3+k_*3)=(ok+k_)*3+0 /\ (ok+k_)<Nk,(k_:Int)=((k_:Nat):Int) /\ k_<last.length] λ n9=>aC 50 (congrArg (λ v_=>(.agg #[vI v_.dx,vI v_.dy,vI v_.act]:Value)) (hxk k_ (by omega)))<|ae 8 (ow 0 6) λ _=>aai (Lb (last.getD k_ dI) _)<|ah 9 [.ix k_,.row 1 k_ 0,.row 1 k_ 1,.row 1 k_ 2,.nw] [aI ((k_:Int)+1),((0+k_*3)+2)=k_*3+2 /\ k_<pl,((0+k_*3)+1)=k_*3+1 /\ k_<pl,(0+k_*3)=k_*3+0 /\ k_<pl,(k_:Int)=((k_:Nat):Int) /\ k_<pl] λ _=>Fa 1 (.rows 3 pl (dG (dG (dG (aL cS l_) k_ 0 (vI ((lI (last.getD k_ dI)).dx))) k_ 1 (vI ((lI (last.getD k_ dI)).dy))) k_ 2 (vI ((lI (last.getD k_ dI)).act))) 40 (0,0)) (.rows 3 pl (aL cS (l_.set k_ (lI (last.getD k_ dI)))) 40 (0,0)) (qB (yB l_ (by omega) _)) ?_;refine mt7 (k_+1,(l_.set k_ (lI (last.getD k_ dI)))) [1,2] [] ?_
    try dsimp only
    refine⟨⟨by omega,by rw[List.length_set];exact YA,λ i hi=>?_⟩,by omega⟩
    by_cases ei:k_=i
    ·subst ei;rw[gy (by omega)]
    ·rw[ga ei];exact hp_ i (by omega)
   ·refine ae 8 [] λ _=>?_;have hB_:yz pl rows=l_:=by
     obtain rfl:k_=last.length:=by omega
     exact Hw (by rw[<- hw.len,hr.len];exact ak9) (by rw[<- hw.len,hr.len];exact Tl) (by omega) hp_
    refine ae 6 [.ro 0] λ _=>?_;rcases hkv.get (t:Int) with ⟨Vu,Vt⟩|⟨xl,ahG,Vu,Vt⟩
    ·refine rD 1 (kv:=kv) (cl:=cl) (k:=(t:Int)) (ok:=true) (z:=.agg #[vI 0,vI 0,vI 0]) (v:=.tuple #[.agg #[vI 0,vI 0,vI 0],.bool false]) (by simp only[HN,Vu];rfl)<|ae 17 (aab 3) λ VW=>ae 5 [] λ _=>aaq [] [2,1] [] (v:=vS (n3+0) 0 pl pl) (H':=(ap [(lb,.obj (bj kv cl)),((n3+0),.rows 3 pl (aL cS l_) 40 (0,0))] [])) ?_;have Vq:hO pl me rows (jj kv) t=l_:=by rw[hO,if_neg (by rw[<- hw.len,hr.len];omega),Vt];show _=_;rw[hB_]
     have X4:l_.length=pl:=by first|exact YA|exact List.length_replicate|(rw[List.length_set];first|exact YA|exact List.length_replicate)
     refine⟨(⟨some ⟨(n3+0),0,none⟩,pl,pl⟩,[((n3+0),.rows 3 pl (aL cS l_) 40 (0,0))]),by simp[ap],rfl,λ F2 hF=>?_⟩;rw[Vq];exact yC X4 (hF _ (List.mem_append_right _ (List.mem_singleton.2 rfl)))
    ·refine rD 1 (kv:=kv) (cl:=cl) (k:=(t:Int)) (ok:=true) (z:=.agg #[vI 0,vI 0,vI 0]) (v:=.tuple #[.agg #[vI xl.dx,vI xl.dy,vI xl.act],.bool true]) (by simp only[HN,Vu];rfl)<|ae 14 (aab 3) λ n11=>aal [7] []<|av [] [0,1,5,2,3,4,6] [.own 0,.own 0,.own 0,.ro 0,.ix me] [(me:Int)=((me:Nat):Int) /\ me<pl]<|aae 7 (gS [] [.row 1 me 0,.row 1 me 1,.row 1 me 2] [((0+me*3)+2)=me*3+2 /\ me<pl,((0+me*3)+1)=me*3+1 /\ me<pl,(0+me*3)=me*3+0 /\ me<pl] λ _=>?_);refine aad<|ae 2 [] λ _=>?_;have alI:l_.length=pl:=by first|exact YA|exact List.length_replicate
     refine Fa 1 (.rows 3 pl (dG (dG (dG (aL cS l_) me 0 (vI xl.dx)) me 1 (vI xl.dy)) me 2 (vI xl.act)) 40 (0,0)) (.rows 3 pl (aL cS (l_.set me xl)) 40 (0,0)) (qB (yB l_ (by omega) xl))<|ae 5 [] λ _=>aaq [] [2,1] [] (v:=vS (n3+0) 0 pl pl) (H':=(ap [(lb,.obj (bj kv cl)),((n3+0),.rows 3 pl (aL cS (l_.set me xl)) 40 (0,0))] [])) ?_;have Vq:hO pl me rows (jj kv) t=(l_.set me xl):=by rw[hO,if_neg (by rw[<- hw.len,hr.len];omega),Vt];show _=_;rw[hB_]
     have X4:(l_.set me xl).length=pl:=by first|exact YA|exact List.length_replicate|(rw[List.length_set];first|exact YA|exact List.length_replicate)
     refine⟨(⟨some ⟨(n3+0),0,none⟩,pl,pl⟩,[((n3+0),.rows 3 pl (aL cS (l_.set me xl)) 40 (0,0))]),by simp[ap],rfl,λ F2 hF=>?_⟩;rw[Vq];exact yC X4 (hF _ (List.mem_append_right _ (List.mem_singleton.2 rfl)))
  ·refine ae 5 [] λ _=>?_;have hB_:yz pl rows=List.replicate pl dI:=Lw (by have h_:=hw.len;rw[hr.len] at h_;exact List.eq_nil_of_length_eq_zero (by omega));refine ae 6 [.ro 0] λ _=>?_;rcases hkv.get (t:Int) with ⟨Vu,Vt⟩|⟨xl,ahG,Vu,Vt⟩
   ·refine rD 1 (kv:=kv) (cl:=cl) (k:=(t:Int)) (ok:=true) (z:=.agg #[vI 0,vI 0,vI 0]) (v:=.tuple #[.agg #[vI 0,vI 0,vI 0],.bool false]) (by simp only[HN,Vu];rfl)<|ae 17 (aab 3) λ n12=>ae 5 [] λ _=>aaq [] [2,1] [] (v:=vS (n3+0) 0 pl pl) (H':=(ap [(lb,.obj (bj kv cl)),((n3+0),.rows 3 pl (aL cS (List.replicate pl dI)) 40 (0,0))] [])) ?_;have Vq:hO pl me rows (jj kv) t=(List.replicate pl dI):=by rw[hO,if_neg (by rw[<- hw.len,hr.len];omega),Vt];show _=_;rw[hB_]
    have X4:(List.replicate pl dI).length=pl:=by first|exact YA|exact List.length_replicate|(rw[List.length_set];first|exact YA|exact List.length_replicate)
    refine⟨(⟨some ⟨(n3+0),0,none⟩,pl,pl⟩,[((n3+0),.rows 3 pl (aL cS (List.replicate pl dI)) 40 (0,0))]),by simp[ap],rfl,λ F2 hF=>?_⟩;rw[Vq];exact yC X4 (hF _ (List.mem_append_right _ (List.mem_singleton.2 rfl)))
   ·refine rD 1 (kv:=kv) (cl:=cl) (k:=(t:Int)) (ok:=true) (z:=.agg #[vI 0,vI 0,vI 0]) (v:=.tuple #[.agg #[vI xl.dx,vI xl.dy,vI xl.act],.bool true]) (by simp only[HN,Vu];rfl)<|ae 14 (aab 3) λ n13=>aal [7] []<|av [] [0,1,5,2,3,4,6] [.own 0,.own 0,.own 0,.ro 0,.ix me] [(me:Int)=((me:Nat):Int) /\ me<pl]<|aae 7 (gS [] [.row 1 me 0,.row 1 me 1,.row 1 me 2] [((0+me*3)+2)=me*3+2 /\ me<pl,((0+me*3)+1)=me*3+1 /\ me<pl,(0+me*3)=me*3+0 /\ me<pl] λ _=>?_);refine aad<|ae 2 [] λ _=>?_;have alI:(List.replicate pl dI).length=pl:=by first|exact YA|exact List.length_replicate
    refine Fa 1 (.rows 3 pl (dG (dG (dG (aL cS (List.replicate pl dI)) me 0 (vI xl.dx)) me 1 (vI xl.dy)) me 2 (vI xl.act)) 40 (0,0)) (.rows 3 pl (aL cS ((List.replicate pl dI).set me xl)) 40 (0,0)) (qB (yB (List.replicate pl dI) (by omega) xl))<|ae 5 [] λ _=>aaq [] [2,1] [] (v:=vS (n3+0) 0 pl pl) (H':=(ap [(lb,.obj (bj kv cl)),((n3+0),.rows 3 pl (aL cS ((List.replicate pl dI).set me xl)) 40 (0,0))] [])) ?_;have Vq:hO pl me rows (jj kv) t=((List.replicate pl dI).set me xl):=by rw[hO,if_neg (by rw[<- hw.len,hr.len];omega),Vt];show _=_;rw[hB_]
    have X4:((List.replicate pl dI).set me xl).length=pl:=by first|exact YA|exact List.length_replicate|(rw[List.length_set];first|exact YA|exact List.length_replicate)
    refine⟨(⟨some ⟨(n3+0),0,none⟩,pl,pl⟩,[((n3+0),.rows 3 pl (aL cS ((List.replicate pl dI).set me xl)) 40 (0,0))]),by simp[ap],rfl,λ F2 hF=>?_⟩;rw[Vq];exact yC X4 (hF _ (List.mem_append_right _ (List.mem_singleton.2 rfl)))
theorem Lz{rs_:List Bx}{ds_:List Dr}{bp pp pl me w:Nat}{S:Setup}{J:Nat -> Nat × Int}{P:PS (List Inp)}{kv:List (Int × Value × Nat)}{c sn:Nat}{X:Option (Rw × List Inp)}{G F:HL}(h:PeerR rs_ ds_ bp pp pl me w S J P kv c sn X G){t:Nat}(o_:∀r∈P.rows,RowOk (pl:Int) r)(TW:P.rows.length <= 1000000)(ht8:t <= 1000000)(aho:1 <= pl /\ pl <= 1000)(S9:me<pl):Sp Tryz.prog 49 #[vP pp 0,vI (t:Int)] (ap [] [G]) F (λ u H'=>∃x:Rw × HL,H'=ap [] [x.2] /\ (u=.slice x.1.A x.1.n x.1.c /\ PeerR rs_ ds_ bp pp pl me w S J P kv c sn (some (x.1,hO pl me P.rows (jj kv) t)) x.2)):=by
 cases h with
 | @mk gb mb rb lb cl rn rc ck un uc en ec rbk sg smb S2 S3 rA uA eA rl ul el N Tg Tn Tr Tu Te Tp Tq Ts q1_ q2_ q3_ q4_ q5_ hse_ hg hb hn hkv hr hrl hrr hu hul huu he hel hee hse3_ hs hsc hsn hsb hpl hX =>
  have hm:∀x∈[Tg,Tn,Tr,Tu,Te,Tp,Tq,Ts].flatten,x∈((pp,.lit [vI (pl:Int),vI (me:Int),vI (w:Int),vP gb 0,vP rb 0,.map (some lb),.slice rA rn rc,vI (ck:Int),.slice uA un uc,.slice eA en ec,vI (rbk:Int),vP sg 0] 102 (0,0))::[Tg,Tn,Tr,Tu,Te,Tp,Tq,Ts].flatten)++F:=λ x hx=>List.mem_append_left _ (List.mem_cons_of_mem _ hx);have key:=Ly pp gb rb lb sg pl me w rn rc ck un uc en ec rbk rA uA eA cl t kv P.rows rl Tp (((pp,.lit [vI (pl:Int),vI (me:Int),vI (w:Int),vP gb 0,vP rb 0,.map (some lb),.slice rA rn rc,vI (ck:Int),.slice uA un uc,.slice eA en ec,vI (rbk:Int),vP sg 0] 102 (0,0))::[Tg,Tn,Tr,Tu,Te,Tp,Tq,Ts].flatten)++F) (List.mem_append_left _ List.mem_cons_self) hkv (by have h_:=hr.toRowL λ x hx=>hm x (by simp[hx]);rwa [hrl] at h_) hrr (λ x hx=>hm x (by simp[hx])) o_ (by omega) ht8 aho S9;refine Sp.fr (X:=(pp,.lit [vI (pl:Int),vI (me:Int),vI (w:Int),vP gb 0,vP rb 0,.map (some lb),.slice rA rn rc,vI (ck:Int),.slice uA un uc,.slice eA en ec,vI (rbk:Int),vP sg 0] 102 (0,0))::[Tg,Tn,Tr,Tu,Te,Tp,Tq,Ts].flatten) ?_ (F:=F) key ?_
  ·simp only[ap,List.flatten_cons,List.flatten_nil,List.append_nil,List.nil_append,List.cons_append,List.append_assoc];exact List.Perm.swap _ _ _
  ·rintro u Y ⟨⟨q,Tx⟩,rfl,h4,h5⟩;refine⟨_,⟨(q,ap [(pp,.lit [vI (pl:Int),vI (me:Int),vI (w:Int),vP gb 0,vP rb 0,.map (some lb),.slice rA rn rc,vI (ck:Int),.slice uA un uc,.slice eA en ec,vI (rbk:Int),vP sg 0] 102 (0,0)),(lb,.obj (bj kv cl))] [Tg,Tn,Tr,Tu,Te,Tp++Tx,Tq,Ts]),(aP _).symm,h4,PeerR.mk q1_ q2_ q3_ q4_ q5_ hse_ hg hb hn hkv hr hrl (hrr.more _) hu hul (huu.more _) he hel hee hse3_ hs hsc hsn hsb hpl (λ p_ xs_ h_ F2 hF=>by cases h_;exact h5 F2 hF)⟩,?_⟩;simp only[ap,List.flatten_cons,List.flatten_nil,List.append_nil,List.nil_append,List.cons_append,List.append_assoc];refine(List.Perm.swap _ _ _).trans (List.Perm.cons _ ?_);exact Ht _ _ _ _ _ _ _ _ _ _
theorem Fb{F:HL}{b o N:Nat}{full xs:List Inp}(hI:(b,.rows 3 N (ll full) 40 (0,0))∈F)(hi:o+xs.length <= N)(hx:∀k,k<xs.length -> full.getD (o+k) dI=xs.getD k dI){X:HL}:RowL cS 40 (X++F) (some ⟨b,o*3,none⟩) xs.length xs:=.rows b o N full (0,0) _ xs (List.mem_append_right _ hI) hi rfl hx
theorem RI{rows used:List (List Inp)}{ck k:Nat}(h1:k<used.length)(hse_:ck+k<rows.length)(hse3_:∀i,i<k -> used.getD i []=rows.getD (ck+i) [])(h4:¬ used.getD k []=rows.getD (ck+k) []):wr rows ck used=some (ck+k):=by
 induction used generalizing ck k with
 | nil=>simp at h1
 | cons u l ih =>
  rw[wr,List.getElem?_eq_getElem (show ck<rows.length by omega)];have e0:rows.getD ck []=rows[ck]'(by omega):=by rw[List.getD_eq_getElem?_getD,List.getElem?_eq_getElem (show ck<rows.length by omega)];rfl
  cases k with
  | zero =>
   simp only[Nat.add_zero] at h4;rw[e0] at h4;simp only[List.getD_cons_zero] at h4;simp only[if_neg h4,Nat.add_zero]
  | succ k =>
   have h5:=hse3_ 0 (by omega);rw[Nat.add_zero,e0] at h5;simp only[List.getD_cons_zero] at h5;simp only[if_pos h5];rw[ih (ck:=ck+1) (k:=k) (by simpa using h1) (by omega) (λ i hi=>by have:=hse3_ (i+1) (by omega);rw[List.getD_cons_succ] at this;rw[this];congr 1;omega) (by rw[List.getD_cons_succ] at h4;rwa [show ck+1+k=ck+(k+1) by omega])];congr 1;omega
theorem Fc{rows used:List (List Inp)}{ck k:Nat}(hse3_:∀i,i<k -> used.getD i []=rows.getD (ck+i) [])(h4:used.length <= k \/ rows.length <= ck+k):wr rows ck used=none:=by
 induction used generalizing ck k with
 | nil=>rfl
 | cons u l ih =>
  rw[wr];cases e:rows[ck]? with
  | none=>rfl
  | some r =>
   have hc:ck<rows.length:=(List.getElem?_eq_some_iff.1 e).1;cases k with
   | zero=>simp only[List.length_cons] at h4;omega
   | succ k =>
    have h6:u=r:=by
     have h5:=hse3_ 0 (by omega);rw[Nat.add_zero] at h5;simp only[List.getD_cons_zero] at h5;rw[h5,List.getD_eq_getElem?_getD,e];rfl
    simp only[if_pos h6];exact ih (k:=k) (λ i hi=>by have:=hse3_ (i+1) (by omega);rw[List.getD_cons_succ] at this;rw[this];congr 1;omega) (by simp only[List.length_cons] at h4;omega)
theorem Dv(pp gb rb lb sg pl me w rn rc ck un uc en ec rbk:Nat)(rA uA eA:Option Addr)(rows used:List (List Inp))(rl ul:List Rw)(F:HL)(hp:(pp,.lit [vI (pl:Int),vI (me:Int),vI (w:Int),vP gb 0,vP rb 0,.map (some lb),.slice rA rn rc,vI (ck:Int),.slice uA un uc,.slice eA en ec,vI (rbk:Int),vP sg 0] 102 (0,0))∈F)(hr:RowL jO 38 F rA rn rl)(XU:RwsIn F rl rows)(hu:RowL jO 38 F uA un ul)(hwu:RwsIn F ul used)(hln:∀k,k<un -> (used.getD k []).length <= 1000000)(TW:rn <= 1000000)(YB:ck <= 1000000)(hun:un <= 1000000):Sp Tryz.prog 47 #[vP pp 0] [] F (λ u H'=>u=.tuple #[vI (((wr rows ck used).getD 0:Nat):Int),.bool (wr rows ck used).isSome] /\ H'=[]):=by
 have W8:=hr.len;have agV:=hu.len;have aon:=XU.len;have aol:=hwu.len;refine aav Tryz.func47 rfl (mc hp mn) (A:=[]) (Ts:=[]) rfl λ w0=>?_;refine ae 18 [.ro 0] λ _=>aao (σ:=Nat) (λ k_=>⟨[(0,vP pp 0),(10,.slice uA un uc),(11,vI (un:Int)),(12,vI (k_:Int))],[],[],k_ <= un /\ ∀i,i<k_ -> ck+i<rn /\ used.getD i []=rows.getD (ck+i) [],un-k_⟩) 0 [] [] (⟨Nat.zero_le _,λ i hi=>absurd hi (Nat.not_lt_zero _)⟩) ?_;rintro k_ ⟨X8,Ua⟩ Tw;refine ae 6 [] λ _=>aam ((k_:Int)<(un:Int)) 13 (λ h3=>?_) λ h3=>?_
 ·refine ae 8 [] λ _=>?_;obtain⟨qx4,DO,Wo,fx4,YY,UH,Uh,YR,UP⟩:=hu.at (k:=k_) (by omega);refine aC 10 (congrArg (λ v_=>(.slice v_ un uc:Value)) UH)<|aar (λ _=>(mc hp (mc Uh mn)))<|ah 2 [.ix k_,.rorow 1 (DO+k_) 0] [(DO*1+k_*1)=(DO+k_)*1+0 /\ (DO+k_)<Wo,(k_:Int)=((k_:Nat):Int) /\ k_<un] λ _=>aC 16 (congrArg (λ v_=>(.slice v_.A v_.n v_.c:Value)) UP) ?_;obtain⟨bu,ou,Nu,fu,cu,eu,hIu,hiu,hxu,hcu⟩:=hwu.get (k:=k_) (by rw[hu.len];omega);refine aC 16 (congrArg (λ v_:Rw=>Value.slice v_.A v_.n v_.c) eu)<|ah 27 [.ro 0,.nw,.ro 0] [aI ((ck:Int)+(k_:Int))] λ _=>aam ((ck:Int)+(k_:Int) >= (rn:Int)) 29 (λ h5=>?_) λ h5=>?_
  ·refine ae 14 [] λ _=>aaq [] [] [] (v:=.tuple #[vI 0,.bool false]) (H':=[]) ?_;exact⟨by rw[Fc (k:=k_) (λ i hi=>(Ua i hi).2) (by omega)];rfl,rfl⟩
  ·refine ae 11 [.ro 0] λ _=>?_;obtain⟨qx6,Yt,Nx6,fx6,aiM,aba,ZQ,ahq,Z2⟩:=hr.at (k:=(ck+k_)) (by omega);refine aC 34 (congrArg (λ v_=>(.slice v_ rn rc:Value)) aba)<|aar (λ _=>(mc hp (mc Uh (mc ZQ mn))))<|ah 2 [.ix (ck+k_),.rorow 2 (Yt+(ck+k_)) 0] [(Yt*1+(ck+k_)*1)=(Yt+(ck+k_))*1+0 /\ (Yt+(ck+k_))<Nx6,(ck:Int)+(k_:Int)=(((ck+k_):Nat):Int) /\ (ck+k_)<rn] λ _=>aC 37 (congrArg (λ v_=>(.slice v_.A v_.n v_.c:Value)) Z2) ?_;obtain⟨bv,ov,Nv,fv,cv,ev,hIv,hiv,hxv,hcv⟩:=XU.get (k:=(ck+k_)) (by rw[hr.len];omega);refine aC 37 (congrArg (λ v_:Rw=>Value.slice v_.A v_.n v_.c) ev)<|aai (K9 (some ⟨bu,ou*3,none⟩) (some ⟨bv,ov*3,none⟩) (used.getD k_ []).length cu (rows.getD (ck+k_) []).length cv (used.getD k_ []) (rows.getD (ck+k_) []) _ (Fb hIu hiu hxu) (Fb hIv hiv hxv) (by have h_:=hln k_ (by omega);omega))<|ae 3 [] λ _=>tp ((decide ((used.getD k_ [])=(rows.getD (ck+k_) [])))) 39 (λ h7=>?_) λ h7=>?_
   ·refine ah 8 [.nw] [aI ((k_:Int)+1)] λ _=>aC 10 (congrArg (λ v_=>(.slice v_ un uc:Value)) UH.symm) ?_;refine Tw (k_+1) [] [] ?_
    try dsimp only
    refine⟨⟨by omega,λ i hi=>?_⟩,by omega⟩
    by_cases ei:i=k_
    ·subst ei;exact⟨by omega,of_decide_eq_true h7⟩
    ·exact Ua i (by omega)
   ·refine ae 8 [] λ _=>aaq [] [] [] (v:=.tuple #[vI ((ck:Int)+(k_:Int)),.bool true]) (H':=[]) ?_;exact⟨by rw[RI (k:=k_) (by omega) (by omega) (λ i hi=>(Ua i hi).2) (λ e_=>h7 (decide_eq_true e_))];show _=Value.tuple #[vI ((ck+k_:Nat):Int),.bool true];rfl,rfl⟩
 ·refine ae 12 [] λ _=>aaq [] [] [] (v:=.tuple #[vI 0,.bool false]) (H':=[]) ?_;exact⟨by rw[Fc (k:=k_) (λ i hi=>(Ua i hi).2) (by omega)];rfl,rfl⟩
section
variable {rs_:List Bx} {ds_:List Dr} {bp gb mb:Nat} {S:Setup} {M:MemS} {k:Nat} {G0:HL}
theorem SY{rb w a x:Nat}{ms:List Int}{G F:HL}(hX:GameX rs_ ds_ bp gb mb S M k G0)(hG:RingH rb mb w a ms G)(hx:a <= x /\ x<a+ms.length)(hx8:x <= 1000000)(hl:ms.length <= 100000000)(hr:M.base <= ms.getD (x-a) 0 /\ ms.getD (x-a) 0 <= M.base+(M.lg.length:Int))(Up:∀e∈M.lg.drop (ms.getD (x-a) 0-M.base).toNat,0 <= e.1 /\ e.1<(M.cs.length:Int))(hb:0 <= M.base /\ M.base <= 1000000000):Sp Tryz.prog 74 #[vP rb 0,vI (x:Int)] (ap [] [G,G0]) F (λ u H'=>∃y:HL × HL,H'=ap [] [y.1,y.2] /\ (u=vI 0 /\ RingH rb mb w a (ms.take (x-a+1)) y.1 /\ GameX rs_ ds_ bp gb mb S (nh M (ms.getD (x-a) 0-M.base).toNat) k y.2)):=by
 have h:=xn (F:=F) (G:=G) (R:=λ u A _=>u=vI 0 /\ RingH rb mb w a (ms.take (x-a+1)) A) (M2:=nh M (ms.getD (x-a) 0-M.base).toNat) (k2:=k) (f:=74) (args:=#[vP rb 0,vI (x:Int)]) hX λ T X hM=>(Nr (X++F) hG hx hx8 hl hr Up hM hb (Nat.le_refl _)).mono λ u H' h=>by
  obtain⟨y,h1,hse_,hse3_,h4⟩:=h;exact⟨y,h1,⟨hse_,hse3_⟩,h4⟩
 exact h.mono λ u H' h=>by
  obtain⟨y,h1,⟨hse_,hse3_⟩,h4⟩:=h;exact⟨y,h1,hse_,hse3_,h4⟩
theorem RJ{rb w a t:Nat}{ms:List Int}{G F:HL}(hX:GameX rs_ ds_ bp gb mb S M k G0)(hG:RingH rb mb w a ms G)(ht:ms≠[] -> t=a+ms.length)(hr:∀k∈ms,M.base <= k /\ k <= M.base+(M.lg.length:Int))(hb:0 <= M.base /\ M.base <= 1000000000)(hw:1 <= w /\ w <= 13)(ZE:t <= 1000000)(hl:ms.length <= 100000000):Sp Tryz.prog 77 #[vP rb 0,vI (t:Int)] (ap [] [G,G0]) F (λ u H'=>∃y:HL × HL,H'=ap [] [y.1,y.2] /\ (u=vI 0 /\ RingH rb mb w (fl w M a ms t).2.1 (fl w M a ms t).2.2 y.1 /\ GameX rs_ ds_ bp gb mb S (fl w M a ms t).1 k y.2)):=by
 have h:=xn (F:=F) (G:=G) (R:=λ u A _=>u=vI 0 /\ RingH rb mb w (fl w M a ms t).2.1 (fl w M a ms t).2.2 A) (M2:=(fl w M a ms t).1) (k2:=k) (f:=77) (args:=#[vP rb 0,vI (t:Int)]) hX λ T X hM=>(K8 (X++F) hG ht hr hM hb hw (Nat.le_refl _) ZE hl).mono λ u H' h=>by
  obtain⟨y,h1,hse_,hse3_,h4⟩:=h;exact⟨y,h1,⟨hse_,hse3_⟩,h4⟩
 exact h.mono λ u H' h=>by
  obtain⟨y,h1,⟨hse_,hse3_⟩,h4⟩:=h;exact⟨y,h1,hse_,hse3_,h4⟩
end
theorem Dw{rs_:List Bx}{ds_:List Dr}{bp pp pl me w:Nat}{S:Setup}{J:Nat -> Nat × Int}{P:PS (List Inp)}{kv:List (Int × Value × Nat)}{c sn:Nat}{X:Option (Rw × List Inp)}{gb mb rb lb cl rn rc ck un uc en ec rbk sg smb:Nat}{S2 S3:Setup}{rA uA eA:Option Addr}{rl ul el:List Rw}{N:MemS}{Tg Tn Tr Tu Te Tp Tq Ts F:HL}(q1_:P.rows.length=rn)(q2_:P.ck=ck)(q3_:P.used.length=un)(q4_:P.effs.length=en)(q5_:P.rb=rbk)(hse_:SetEq S S2)(hg:GameX rs_ ds_ bp gb mb S2 P.M 0 Tg)(hb:0 <= P.M.base /\ P.M.base+(P.M.lg.length:Int) <= 20000*(c:Int))(hn:RingH rb mb w P.a P.ms Tn)(hkv:LocIn kv)(hr:SlIs jO 38 rl rA rc Tr)(hrl:rl.length=rn)(hrr:RwsT rl P.rows Tp)(hu:SlX jO 38 ul uA uc Tu)(hul:ul.length=un)(huu:RwsT ul P.used Tp)(he:SlIs gO 58 el eA ec Te)(hel:el.length=en)(hee:EfsT el P.effs Tq)(hse3_:SetEq S S3)(hs:GameX rs_ ds_ bp sg smb S3 N 99020000 Ts)(hsc:N.cs=WS S J P.rows sn)(hsn:sn <= rn)(hsb:0 <= N.base /\ N.base <= 1000000*(sn:Int))(hpl:S.players=(pl:Int))(hX:∀p xs,X=some (p,xs) -> ∀F:HL,(∀y∈Tp,y∈F) -> RwIn F xs p)(x:Nat)(hx:P.a <= x /\ x<P.a+P.ms.length)(hx8:x <= 1000000)(hl:P.ms.length <= 100000000)(XC:P.M.base <= (P.ms.getD (x-P.a) 0) /\ (P.ms.getD (x-P.a) 0) <= P.M.base+(P.M.lg.length:Int))(Up:∀e∈P.M.lg.drop ((P.ms.getD (x-P.a) 0)-P.M.base).toNat,0 <= e.1 /\ e.1<(P.M.cs.length:Int))(Z9:c <= 4000)(YB:ck <= x)(hu1:x-ck <= un)(he1:x <= en)(ZO:rbk <= 1000000):Sp Tryz.prog 48 #[vP pp 0,vI (x:Int)] (ap [(pp,.lit [vI (pl:Int),vI (me:Int),vI (w:Int),vP gb 0,vP rb 0,.map (some lb),.slice rA rn rc,vI (ck:Int),.slice uA un uc,.slice eA en ec,vI (rbk:Int),vP sg 0] 102 (0,0)),(lb,.obj (bj kv cl))] [Tg,Tn,Tr,Tu,Te,Tp,Tq,Ts]) F (λ u H'=>u=vI 0 /\ PeerR rs_ ds_ bp pp pl me w S J (Bp P x) kv c sn none H'):=by
 have aef:=hu.len;have al9:=he.capLe;rw[hul] at aef;rw[hel] at al9;refine aav Tryz.func48 rfl mn (A:=[(pp,.lit [vI (pl:Int),vI (me:Int),vI (w:Int),vP gb 0,vP rb 0,.map (some lb),.slice rA rn rc,vI (ck:Int),.slice uA un uc,.slice eA en ec,vI (rbk:Int),vP sg 0] 102 (0,0)),(lb,.obj (bj kv cl))]) (Ts:=[Tg,Tn,Tr,Tu,Te,Tp,Tq,Ts]) rfl λ w0=>?_;refine ae 13 [.own 0] λ _=>aaj [] [1,0] (SY hg hn hx hx8 hl XC Up (by omega)) ?_;rintro _ ⟨T1,T2⟩ ⟨rfl,hn3,hg4⟩;dsimp only at hn3 hg4;refine ah 24 [.own 0,.nw] [aI ((x:Int)-(ck:Int))] λ _=>aC 6 (congrArg (λ v_=>(vI v_:Value)) (show (x:Int)-(ck:Int)=((x-ck:Nat):Int) by omega))<|ae 8 [.own 0] λ _=>Cn (A:=uA) (n:=un) (cap:=uc) (l:=0) (h:=x-ck) (m:=x-ck) (sz:=1) (li:=none) (hi:=some ((x-ck:Nat):Int)) (mi:=some ((x-ck:Nat):Int)) rfl rfl rfl (by omega) (by omega) (by omega)<|ae 13 (aab 2) λ _=>Cn (A:=eA) (n:=en) (cap:=ec) (l:=0) (h:=x) (m:=ec) (sz:=1) (li:=none) (hi:=some (x:Int)) (mi:=none) rfl rfl rfl (by omega) (by omega) (by omega)<|ah 12 [.own 0,.own 0,.nw] [aI ((rbk:Int)+1)] λ _=>aC 45 (congrArg (λ v_=>(vI v_:Value)) (show (rbk:Int)+1=((rbk+1:Nat):Int) by omega))<|ae 10 [.own 0] λ _=>aaq [] [0,1] [1,0,2,3,4,5,6,7] (v:=vI 0) (H':=(ap [(pp,.lit [vI (pl:Int),vI (me:Int),vI (w:Int),vP gb 0,vP rb 0,.map (some lb),.slice rA rn rc,vI (ck:Int),.slice (Cm uA 0 1 (x-ck)) (x-ck-0) (x-ck-0),.slice (Cm eA 0 1 ec) (x-0) (ec-0),vI ((rbk+1:Nat):Int),vP sg 0] 102 (0,0)),(lb,.obj (bj kv cl))] [T2,T1,Tr,Tu,Te,Tp,Tq,Ts])) ?_;exact⟨rfl,PeerR.mk q1_ q2_ (show (P.used.take (x-P.ck)).length=x-ck-0 by rw[List.length_take,q3_,q2_];omega) (show (P.effs.take x).length=x-0 by rw[List.length_take,q4_];omega) (show P.rb+1=rbk+1 by rw[q5_]) hse_ hg4 ⟨hb.1,by show P.M.base+((P.M.lg.take _).length:Int) <= _;rw[List.length_take];omega⟩ hn3 hkv hr hrl hrr (hu.cut (k:=0) (h:=x-ck) (m:=x-ck) (Nat.zero_le _) (by rw[hul];omega) (Nat.le_refl _) (by omega)) (by rw[List.length_drop,List.length_take,hul];omega) (by show RwsT (ul.take (x-ck)) (P.used.take (x-P.ck)) _;rw[q2_];exact huu.take _) ((he.take x).dropI (k:=0) (.inl rfl)) (by rw[List.length_drop,List.length_take,hel];omega) (hee.take x) hse3_ hs hsc hsn hsb hpl (λ _ _ h_=>by cases h_)⟩
theorem Dx{rs_:List Bx}{ds_:List Dr}{bp pp pl me w:Nat}{S:Setup}{J:Nat -> Nat × Int}{P:PS (List Inp)}{kv:List (Int × Value × Nat)}{c sn:Nat}{X:Option (Rw × List Inp)}{G F:HL}(h:PeerR rs_ ds_ bp pp pl me w S J P kv c sn X G){x:Nat}(hx:P.a <= x /\ x<P.a+P.ms.length)(hx8:x <= 1000000)(hl:P.ms.length <= 100000000)(XC:P.M.base <= (P.ms.getD (x-P.a) 0) /\ (P.ms.getD (x-P.a) 0) <= P.M.base+(P.M.lg.length:Int))(Up:∀e∈P.M.lg.drop ((P.ms.getD (x-P.a) 0)-P.M.base).toNat,0 <= e.1 /\ e.1<(P.M.cs.length:Int))(Z9:c <= 4000)(YB:P.ck <= x)(hu1:x-P.ck <= P.used.length)(he1:x <= P.effs.length)(ZO:P.rb <= 1000000):Sp Tryz.prog 48 #[vP pp 0,vI (x:Int)] (ap [] [G]) F (λ u H'=>∃T9,H'=ap [] [T9] /\ ((λ u H'=>u=vI 0 /\ PeerR rs_ ds_ bp pp pl me w S J (Bp P x) kv c sn none H') u T9)):=by
 rw[aP];cases h with
 | mk q1_ q2_ q3_ q4_ q5_ hse_ hg hb hn hkv hr hrl hrr hu hul huu he hel hee hse3_ hs hsc hsn hsb hpl hX =>
  exact(Dw q1_ q2_ q3_ q4_ q5_ hse_ hg hb hn hkv hr hrl hrr hu hul huu he hel hee hse3_ hs hsc hsn hsb hpl hX x hx hx8 hl XC Up Z9 (by omega) (by omega) (by omega) (by omega)).tl
theorem BE{rs_:List Bx}{ds_:List Dr}{bp pp pl me w:Nat}{S:Setup}{J:Nat -> Nat × Int}{P:PS (List Inp)}{kv:List (Int × Value × Nat)}{c sn:Nat}{X:Option (Rw × List Inp)}{gb mb rb lb cl rn rc ck un uc en ec rbk sg smb:Nat}{S2 S3:Setup}{rA uA eA:Option Addr}{rl ul el:List Rw}{N:MemS}{Tg Tn Tr Tu Te Tp Tq Ts F:HL}(q1_:P.rows.length=rn)(q2_:P.ck=ck)(q3_:P.used.length=un)(q4_:P.effs.length=en)(q5_:P.rb=rbk)(hse_:SetEq S S2)(hg:GameX rs_ ds_ bp gb mb S2 P.M 0 Tg)(hb:0 <= P.M.base /\ P.M.base+(P.M.lg.length:Int) <= 20000*(c:Int))(hn:RingH rb mb w P.a P.ms Tn)(hkv:LocIn kv)(hr:SlIs jO 38 rl rA rc Tr)(hrl:rl.length=rn)(hrr:RwsT rl P.rows Tp)(hu:SlX jO 38 ul uA uc Tu)(hul:ul.length=un)(huu:RwsT ul P.used Tp)(he:SlIs gO 58 el eA ec Te)(hel:el.length=en)(hee:EfsT el P.effs Tq)(hse3_:SetEq S S3)(hs:GameX rs_ ds_ bp sg smb S3 N 99020000 Ts)(hsc:N.cs=WS S J P.rows sn)(hsn:sn <= rn)(hsb:0 <= N.base /\ N.base <= 1000000*(sn:Int))(hpl:S.players=(pl:Int))(hX:∀p xs,X=some (p,xs) -> ∀F:HL,(∀y∈Tp,y∈F) -> RwIn F xs p)(now:Nat)(h0:P.M.get 0=(now:Int))(YB:ck <= min now rn)(hu1:min now rn-ck <= un)(TW:rn <= 1000000)(TG:now <= 1000000):Sp Tryz.prog 51 #[vP pp 0] (ap [(pp,.lit [vI (pl:Int),vI (me:Int),vI (w:Int),vP gb 0,vP rb 0,.map (some lb),.slice rA rn rc,vI (ck:Int),.slice uA un uc,.slice eA en ec,vI (rbk:Int),vP sg 0] 102 (0,0)),(lb,.obj (bj kv cl))] [Tg,Tn,Tr,Tu,Te,Tp,Tq,Ts]) F (λ u H'=>u=.tuple #[] /\ PeerR rs_ ds_ bp pp pl me w S J (Nn P now) kv c sn none H'):=by
 have aef:=hu.len;rw[hul] at aef;refine aav Tryz.func51 rfl mn (A:=[(pp,.lit [vI (pl:Int),vI (me:Int),vI (w:Int),vP gb 0,vP rb 0,.map (some lb),.slice rA rn rc,vI (ck:Int),.slice uA un uc,.slice eA en ec,vI (rbk:Int),vP sg 0] 102 (0,0)),(lb,.obj (bj kv cl))]) (Ts:=[Tg,Tn,Tr,Tu,Te,Tp,Tq,Ts]) rfl λ w0=>?_;refine ae 3 [] λ _=>aai (gA pp gb rb lb sg pl me w rn rc ck un uc en ec rbk rA uA eA (now:Int) _ (az 0) hg (ak 0) h0)<|ae 1 [] λ _=>aai (eI pp gb rb lb sg pl me w rn rc ck un uc en ec rbk rA uA eA _ (az 0))<|ae 5 [] λ _=>aC 2 (congrArg (λ v_=>(vI v_:Value)) (show (if (rn:Int)<(now:Int) then (rn:Int) else (now:Int))=((min now rn:Nat):Int) by split <;> omega))<|aal [14] []<|av [] [0,1,5,6,2,7,3,8,4,9,10] [.own 0,.own 0,.nw] [aI (((min now rn:Nat):Int)-(ck:Int))]<|aae 11 (RDO.slA (A:=uA) (n:=un) (cap:=uc) (l:=min now rn-ck) (sz:=1) (show ((min now rn:Nat):Int)-(ck:Int)=((min now rn-ck:Nat):Int) by omega) (by omega) (by omega) ?_);refine ag [] [12,13] []<|aae 14 (aag [] [.own 0] λ _=>?_);refine aad<|ae 8 [.own 0] λ _=>aaq [] [0,1] [0,1,2,3,4,5,6,7] (v:=.tuple #[]) (H':=(ap [(pp,.lit [vI (pl:Int),vI (me:Int),vI (w:Int),vP gb 0,vP rb 0,.map (some lb),.slice rA rn rc,vI ((min now rn:Nat):Int),.slice (slA uA (min now rn-ck) 1 uc) (un-(min now rn-ck)) (uc-(min now rn-ck)),.slice eA en ec,vI (rbk:Int),vP sg 0] 102 (0,0)),(lb,.obj (bj kv cl))] [Tg,Tn,Tr,Tu,Te,Tp,Tq,Ts])) ?_;exact⟨rfl,PeerR.mk q1_ (show min now P.rows.length=min now rn by rw[q1_]) (show (P.used.drop (min now P.rows.length-P.ck)).length=un-(min now rn-ck) by rw[List.length_drop,q3_,q1_,q2_]) q4_ q5_ hse_ hg hb hn hkv hr hrl hrr (by have h_:=hu.cut (k:=min now rn-ck) (h:=ul.length) (m:=uc) (by rw[hul];omega) (Nat.le_refl _) hu.len (Nat.le_refl _);rw[List.take_length] at h_;exact h_) (by rw[List.length_drop,hul]) (by show RwsT _ (P.used.drop (min now P.rows.length-P.ck)) _;rw[q1_,q2_];exact huu.drop _) he hel hee hse3_ hs hsc hsn hsb hpl (λ _ _ h_=>by cases h_)⟩
theorem BF{rs_:List Bx}{ds_:List Dr}{bp pp pl me w:Nat}{S:Setup}{J:Nat -> Nat × Int}{P:PS (List Inp)}{kv:List (Int × Value × Nat)}{c sn:Nat}{X:Option (Rw × List Inp)}{G F:HL}(h:PeerR rs_ ds_ bp pp pl me w S J P kv c sn X G){now:Nat}(h0:P.M.get 0=(now:Int))(YB:P.ck <= min now P.rows.length)(hu1:min now P.rows.length-P.ck <= P.used.length)(TW:P.rows.length <= 1000000)(TG:now <= 1000000):Sp Tryz.prog 51 #[vP pp 0] (ap [] [G]) F (λ u H'=>∃T9,H'=ap [] [T9] /\ ((λ u H'=>u=.tuple #[] /\ PeerR rs_ ds_ bp pp pl me w S J (Nn P now) kv c sn none H') u T9)):=by
 rw[aP];cases h with
 | mk q1_ q2_ q3_ q4_ q5_ hse_ hg hb hn hkv hr hrl hrr hu hul huu he hel hee hse3_ hs hsc hsn hsb hpl hX =>
  exact(BE q1_ q2_ q3_ q4_ q5_ hse_ hg hb hn hkv hr hrl hrr hu hul huu he hel hee hse3_ hs hsc hsn hsb hpl hX now h0 (by omega) (by omega) (by omega) TG).tl
open Go.Shelf
section
variable {r:Option Nat} {P:Program} {N:Nat} {D:List Deferred} {F:HL} {w0:World} {R:HL} {s:Cfg} {Q:Exit -> Act -> World -> Prop}
def SZ(K:Act -> World -> Prop)(s:Cfg):Cfg:=match s with
 | ⟨.code c,k,L,A,Ts⟩=>⟨.code c,.met K::k,L,A,Ts⟩
 | s=>s
def LA(s:Cfg):Bool:=match s.c with
 | .code _=>true
 | _=>false
def S0(V:Inv)(s:Cfg):Cfg:=⟨.ex .normal,s.k,V.L,V.A,V.Ts⟩
theorem RN.cut{σ:Type}(V:σ -> Inv)
  (first:(∀ {s':Cfg} {R':HL} (x':σ) (ip jp:List Nat),(V x').I -> (hm:Ft s'=some (MV N D F w0 V (λ x'=>(V x').I)):=by kernel_rfl) -> (h:xy (V x') ip jp s'=pQ (V x'):=by kernel_rfl) -> (hp:cB ip jp s'=true:=by kernel_rfl) -> RN r P N D F w0 R' s' Q) ->
   RN r P N D F w0 R (SZ (MV N D F w0 V (λ x'=>(V x').I)) s) Q)
  (rest:∀x,(V x).I -> RN r P N D F w0 R (S0 (V x) s) Q) (hc:LA s=true:=by kernel_rfl):RN r P N D F w0 R s Q:=by
 refine⟨λ hR a w h1 h2 h3=>?_⟩;have h4:=(first (λ x' ip jp hi hm h hp=>sR x' ip jp hi hm h hp)).h hR;obtain⟨c,k,L,A,Ts⟩:=s;unfold LA at hc;split at hc
 case h_2=>cases hc
 rename_i c' e1;simp only at e1;subst e1;refine wpIn_mono (h4 a w h1 h2 h3) λ e a w q=>?_;cases e with
 | normal =>
  obtain⟨x,hI,m1,m2,m3⟩:=q;exact(rest x hI).h hR a w m1 m2 m3
 | exit id=>exact q
 | goto l=>exact q
 | ret=>exact q
 | panic ch=>exact q
 | outgrown=>exact q
end
def vG(w:Nat)(M:MemS)(a:Nat)(ms:List Int)(now:Nat):MemS × Nat × List Int:=if D3 a ms=(now:Int) then (M,a,ms) else fl w M a ms now
theorem LB{ρ:Type}{w now:Nat}{P:PS ρ}:vG w P.M P.a P.ms now=((fc w P now).M,(fc w P now).a,(fc w P now).ms):=by
 unfold vG
 by_cases h:D3 P.a P.ms=(now:Int)
 ·rw[if_pos h];have hse_:=yu.1 h;unfold fc;rw[if_pos hse_]
 ·rw[if_neg h];exact(Ns λ hse_=>h (yu.2 hse_)).symm
theorem NI{w now a:Nat}{M:MemS}{ms:List Int}(h:D3 a ms=(now:Int)):vG w M a ms now=(M,a,ms):=if_pos h
theorem PW{w now a:Nat}{M:MemS}{ms:List Int}(h:¬ D3 a ms=(now:Int)):vG w M a ms now=fl w M a ms now:=if_neg h
theorem LC{w now a:Nat}{M:MemS}{ms:List Int}(hw:1 <= w)(hr:∀k∈ms,M.base <= k /\ k <= M.base+(M.lg.length:Int)):M.base <= (vG w M a ms now).1.base /\ (vG w M a ms now).1.base+((vG w M a ms now).1.lg.length:Int)=M.base+(M.lg.length:Int):=by
 unfold vG;split
 ·exact⟨Int.le_refl _,rfl⟩
 ·unfold fl;dsimp only;split
  ·next h =>
   have hse_:=xf hr (i:=1) (by omega);generalize (ms++[M.base+(M.lg.length:Int)]).getD 1 0=v at hse_ ⊢;show M.base <= M.base+(((v-M.base).toNat:Nat):Int) /\ M.base+(((v-M.base).toNat:Nat):Int)+((M.lg.drop (v-M.base).toNat).length:Int)=_;rw[List.length_drop];omega
  ·exact⟨Int.le_refl _,rfl⟩
theorem LD{S S2:Setup}{J:Nat -> Nat × Int}{w now:Nat}{P:PS (List Inp)}{xs:List Inp}{j:Nat × Int}(h:j=J now)(hse_:SetEq S S2):(nj (gP S J) w P now xs).M=fw (gt S2 j xs) (vG w P.M P.a P.ms now).1:=by
 subst h;rw[NE hse_,LB];rfl
theorem PX{S S2:Setup}{J:Nat -> Nat × Int}{w now:Nat}{P:PS (List Inp)}{xs:List Inp}{j:Nat × Int}(h:j=J now)(hse_:SetEq S S2):lq (gP S J now xs) (fc w P now).M=lq (gt S2 j xs) (vG w P.M P.a P.ms now).1:=by
 subst h;rw[NF hse_,LB]
theorem Hy{g:Nat -> List Inp -> Gm}{w now:Nat}{P:PS (List Inp)}{xs:List Inp}{rb mb w2:Nat}:RingH rb mb w2 (nj g w P now xs).a (nj g w P now xs).ms=RingH rb mb w2 (vG w P.M P.a P.ms now).2.1 (vG w P.M P.a P.ms now).2.2:=by
 rw[LB];rfl
theorem LE{rs_:List Bx}{ds_:List Dr}{bp pp pl me w:Nat}{S:Setup}{J:Nat -> Nat × Int}{P:PS (List Inp)}{kv:List (Int × Value × Nat)}{c sn:Nat}{X:Option (Rw × List Inp)}{gb mb rb lb cl rn rc ck un uc en ec rbk sg smb:Nat}{S2 S3:Setup}{rA uA eA:Option Addr}{rl ul el:List Rw}{N:MemS}{Tg Tn Tr Tu Te Tp Tq Ts F:HL}(q1_:P.rows.length=rn)(q2_:P.ck=ck)(q3_:P.used.length=un)(q4_:P.effs.length=en)(q5_:P.rb=rbk)(hse_:SetEq S S2)(hg:GameX rs_ ds_ bp gb mb S2 P.M 0 Tg)(hb:0 <= P.M.base /\ P.M.base+(P.M.lg.length:Int) <= 20000*(c:Int))(hn:RingH rb mb w P.a P.ms Tn)(hkv:LocIn kv)(hr:SlIs jO 38 rl rA rc Tr)(hrl:rl.length=rn)(hrr:RwsT rl P.rows Tp)(hu:SlX jO 38 ul uA uc Tu)(hul:ul.length=un)(huu:RwsT ul P.used Tp)(he:SlIs gO 58 el eA ec Te)(hel:el.length=en)(hee:EfsT el P.effs Tq)(hse3_:SetEq S S3)(hs:GameX rs_ ds_ bp sg smb S3 N 99020000 Ts)(hsc:N.cs=WS S J P.rows sn)(hsn:sn <= rn)(hsb:0 <= N.base /\ N.base <= 1000000*(sn:Int))(hpl:S.players=(pl:Int))(hX:∀p xs,X=some (p,xs) -> ∀F:HL,(∀y∈Tp,y∈F) -> RwIn F xs p)(now b o N1 cc:Nat)(j:Nat × Int)(full xs:List Inp)(hjj:j=J now)(hI:(b,.rows 3 N1 (ll full) 40 (0,0))∈Tp)(hir:o+xs.length <= N1)(U1:xs.length <= 1000000)(hx:∀k,k<xs.length -> full.getD (o+k) dI=xs.getD k dI)(hp:∀F2:HL,(∀y∈Tp,y∈F2) -> RwIn F2 xs ⟨some ⟨b,o*3,none⟩,xs.length,cc⟩)(h0:P.M.get 0=(now:Int))(hml:P.ms.length <= 100000000)(hrg:P.ms≠[] -> now=P.a+P.ms.length \/ now+1=P.a+P.ms.length)(hmr:∀k∈P.ms,P.M.base <= k /\ k <= P.M.base+(P.M.lg.length:Int))(hw:1 <= w /\ w <= 13)(TG:now <= 1000000)(Z9:c <= 4000)(hj:j.1<5)(hA:AtOk F bp ((vG w P.M P.a P.ms now).1.get 0) j)(hE:bF F)(hk:TkOk S2 j xs (vG w P.M P.a P.ms now).1)(hun:un <= 1000000)(hen:en <= 1000000):Sp Tryz.prog 50 #[vP pp 0,vS b (o*3) xs.length cc] (ap [(pp,.lit [vI (pl:Int),vI (me:Int),vI (w:Int),vP gb 0,vP rb 0,.map (some lb),.slice rA rn rc,vI (ck:Int),.slice uA un uc,.slice eA en ec,vI (rbk:Int),vP sg 0] 102 (0,0)),(lb,.obj (bj kv cl))] [Tg,Tn,Tr,Tu,Te,Tp,Tq,Ts]) F (λ u H'=>u=vI 0 /\ PeerR rs_ ds_ bp pp pl me w S J (nj (gP S J) w P now xs) kv (c+1) sn none H'):=by
 have adr:=LC (w:=w) (now:=now) (a:=P.a) hw.1 hmr;refine aav Tryz.func50 rfl mn (A:=[(pp,.lit [vI (pl:Int),vI (me:Int),vI (w:Int),vP gb 0,vP rb 0,.map (some lb),.slice rA rn rc,vI (ck:Int),.slice uA un uc,.slice eA en ec,vI (rbk:Int),vP sg 0] 102 (0,0)),(lb,.obj (bj kv cl))]) (Ts:=[Tg,Tn,Tr,Tu,Te,Tp,Tq,Ts]) rfl λ w0=>?_;refine ae 9 [] λ _=>aai (gA pp gb rb lb sg pl me w rn rc ck un uc en ec rbk rA uA eA (now:Int) _ (az 0) hg (ak 0) h0)<|ae 3 [] λ _=>RN.cut (σ:=HL × HL) (λ ⟨Tn_,Tg_⟩=>⟨[(0,vP pp 0),(1,vS b (o*3) xs.length cc)],[(pp,.lit [vI (pl:Int),vI (me:Int),vI (w:Int),vP gb 0,vP rb 0,.map (some lb),.slice rA rn rc,vI (ck:Int),.slice uA un uc,.slice eA en ec,vI (rbk:Int),vP sg 0] 102 (0,0)),(lb,.obj (bj kv cl))],[Tn_,Tg_,Tr,Tu,Te,Tp,Tq,Ts],RingH rb mb w (vG w P.M P.a P.ms now).2.1 (vG w P.M P.a P.ms now).2.2 Tn_ /\ GameX rs_ ds_ bp gb mb S2 (vG w P.M P.a P.ms now).1 0 Tg_,0⟩) ?_ ?_
 ·intro mt1;refine ae 6 [.own 0] λ _=>aai (SX hn (ak 1) hml)<|ae 4 [] λ _=>aan ((D3 P.a P.ms)=(now:Int)) 18 (λ h2=>?_) λ h2=>?_
  ·refine ae 2 [] λ _=>?_;refine mt1 (Tn,Tg) [0,1] [1,0,2,3,4,5,6,7] ?_
   try dsimp only
   rw[NI h2];exact⟨hn,hg⟩
  ·refine ae 8 [.own 0] λ _=>?_;have alj:P.ms≠[] -> now=P.a+P.ms.length:=λ e_=>(hrg e_).resolve_right λ h_=>h2 (yu.2 ⟨e_,by omega⟩);refine aaj [] [1,0] (RJ hg hn alj hmr (by omega) hw (by omega) hml) ?_;rintro _ ⟨T3,T4⟩ ⟨rfl,hn5,hg6⟩;dsimp only at hn5 hg6;refine ae 11 [] λ _=>?_;refine mt1 (T3,T4) [0,1] [0,1,2,3,4,5,6,7] ?_
   try dsimp only
   rw[PW h2];exact⟨hn5,hg6⟩
 ·rintro⟨Tn_,Tg_⟩ ⟨Y_,VP⟩;refine ae 8 [.own 0] λ _=>?_;have X9:=VP.raise (k':=100000000-20000-(vG w P.M P.a P.ms now).1.lg.length+20000) (by omega);refine aaj [] [1] (qz (c:=cc) X9 hj (hA.mono λ x hx=>aq hx) (aq hE) ((ak 4) _ hI) hir U1 hx hk) ?_;rintro _ ⟨⟨A7,c8,n9⟩,UJ,E11⟩ ⟨afk,ahc,rfl⟩;dsimp only at afk ahc;have ZX:=afk.room;refine ae 28 [.own 0] λ n14=>RN.appX EV ul [(⟨some ⟨b,o*3,none⟩,xs.length,cc⟩:Rw)] 4 0 hul.symm hu (by simp;omega) ?_;rintro A15 c16 Us ⟨TT,YO⟩;refine ae 14 [.own 1,.own 1] λ Yu=>fG PU el [(⟨A7,(lq (gt S2 j xs) (vG w P.M P.a P.ms now).1).length,c8⟩:Rw)] 5 0 hel.symm he (by simp;omega) ?_;rintro A21 c22 Zg ⟨XX,aq8⟩;refine ae 10 [.own 2] λ _=>tw [7,3,0,1,2,4,5,6,8]<|wb<|aaq [] [2,3] [3,4,5,2,1,6,0,7] (v:=vI 0) (H':=(ap [(pp,.lit [vI (pl:Int),vI (me:Int),vI (w:Int),vP gb 0,vP rb 0,.map (some lb),.slice rA rn rc,vI (ck:Int),.slice A15 (un+1) c16,.slice A21 (en+1) c22,vI (rbk:Int),vP sg 0] 102 (0,0)),(lb,.obj (bj kv cl))] [UJ,Tn_,Tr,Us,Zg,Tp,(Tq++E11),Ts])) ?_;exact⟨rfl,PeerR.mk (by rw[(iK (g:=gP S J) (w:=w) P now xs).1];exact q1_) (by rw[(iK (g:=gP S J) (w:=w) P now xs).2.2];exact q2_) (show (P.used++[xs]).length=un+1 by rw[List.length_append,q3_];rfl) (show (P.effs++[_]).length=en+1 by rw[List.length_append,q4_];rfl) (by rw[(iK (g:=gP S J) (w:=w) P now xs).2.1];exact q5_) hse_ (by rw[LD hjj hse_];exact afk.weak (Nat.zero_le _)) (by rw[LD hjj hse_];exact⟨by rw[eh];omega,by rw[eh];omega⟩) (by rw[Hy];exact Y_) hkv hr hrl (by rw[(iK (g:=gP S J) (w:=w) P now xs).1];exact hrr) TT (by simp[hul]) (huu.snocI λ F2 h_=>hp F2 h_) XX (by simp[hel]) (by show EfsT _ (P.effs++[lq (gP S J now xs) (fc w P now).M]) _;rw[PX hjj hse_];exact hee.snoc (by rw[hel,q4_]) ahc rfl) hse3_ hs (by rw[(iK (g:=gP S J) (w:=w) P now xs).1];exact hsc) hsn hsb hpl (λ _ _ h_=>by cases h_)⟩
theorem Dy{rs_:List Bx}{ds_:List Dr}{bp pp pl me w:Nat}{S:Setup}{J:Nat -> Nat × Int}{P:PS (List Inp)}{kv:List (Int × Value × Nat)}{c sn:Nat}{X:Option (Rw × List Inp)}{G F:HL}(h:PeerR rs_ ds_ bp pp pl me w S J P kv c sn X G)(hF:∀x∈G,x∈F)(hln:∀k,k<P.used.length -> (P.used.getD k []).length <= 1000000)(TW:P.rows.length <= 1000000)(YB:P.ck <= 1000000)(hun:P.used.length <= 1000000):Sp Tryz.prog 47 #[vP pp 0] [] F (λ u H'=>u=.tuple #[vI (((wr P.rows P.ck P.used).getD 0:Nat):Int),.bool (wr P.rows P.ck P.used).isSome] /\ H'=[]):=by
 cases h with
 | mk q1_ q2_ q3_ q4_ q5_ hse_ hg hb hn hkv hr hrl hrr hu hul huu he hel hee hse3_ hs hsc hsn hsb hpl hX =>
  subst q1_;subst q2_;subst q3_;exact Dv _ _ _ _ _ _ _ _ _ _ _ _ _ _ _ _ _ _ _ P.rows P.used _ _ F (hF _ (List.mem_append_left _ List.mem_cons_self)) (by have h_:=hr.toRowL λ x hx=>hF x (by simp[ap,hx]);rwa [hrl] at h_) (hrr F λ x hx=>hF x (by simp[ap,hx])) (by have h_:=hu.toRowL λ x hx=>hF x (by simp[ap,hx]);rwa [hul] at h_) (huu F λ x hx=>hF x (by simp[ap,hx])) hln TW YB hun
theorem PInv.ringAt{ρ:Type}{g:Nat -> ρ -> Gm}{c0:List Int}{w m:Nat}{P:PS ρ}{V:List ρ}(h:PInv g c0 w P V m)(e:P.ms≠[]):V.length=P.a+P.ms.length \/ V.length+1=P.a+P.ms.length:=by
 rcases h.ring with ⟨h1,_⟩|⟨_,h1⟩
 ·exact absurd h1 e
 ·omega
theorem LF{w now a:Nat}{M:MemS}{ms:List Int}:(vG w M a ms now).1.cs=M.cs:=by
 unfold vG;split
 ·rfl
 ·unfold fl;dsimp only;split <;> rfl
theorem LG{rs_:List Bx}{ds_:List Dr}{bp pp pl me w:Nat}{S:Setup}{J:Nat -> Nat × Int}{P:PS (List Inp)}{kv:List (Int × Value × Nat)}{c sn:Nat}{q:Rw}{xs:List Inp}{V:List (List Inp)}{m:Nat}{G F:HL}(h:PeerR rs_ ds_ bp pp pl me w S J P kv c sn (some (q,xs)) G)(hI:PInv (gP S J) (aH S S.nb) w P V m)(hV:SetV S)(hvl:V.length<50)(hr0:∀r∈V,RowOk S.players r)(hxs:RowOk S.players xs)(hw:1 <= w /\ w <= 12)(Z9:c <= 4000)(oR:∀i,i <= 50 -> (J i).1<5 /\ AtOk F bp (i:Int) (J i))(hE:bF F){t:Nat}(ht:t=V.length):Sp Tryz.prog 50 #[vP pp 0,.slice q.A q.n q.c] (ap [] [G]) F (λ u H'=>∃x,H'=ap [] [x] /\ (u=vI 0 /\ PeerR rs_ ds_ bp pp pl me w S J (nj (gP S J) w P V.length xs) kv (c+1) sn none x)):=by
 subst ht;rw[aP];have aho:=hV.pl;have hxl:=hxs.1;have arp:P.used.length=V.length-P.ck:=by rw[hI.used,List.length_drop]
 have Yl:=hI.len_cs;have hI3:=hI.room;cases h with
 | mk q1_ q2_ q3_ q4_ q5_ hse_ hg hb hn hkv hr hrl hrr hu hul huu he hel hee hse3_ hs hsc hsn hsb hpl hX =>
  have hte:=hI.te hV hse_ (by omega) hr0;have hp:=hX q xs rfl;have hx:=hp _ (λ y hy=>hy);cases hx with
  | mk b o N1 full cc hI1 hir hx1 hcap =>
   exact(LE q1_ q2_ q3_ q4_ q5_ hse_ hg hb hn hkv hr hrl hrr hu hul huu he hel hee hse3_ hs hsc hsn hsb hpl hX V.length b o N1 cc (J V.length) full xs rfl hI1 hir (by omega) hx1 hp hte.t0 (by omega) (λ e_=>hI.ringAt e_) hI.marks ⟨hw.1,by omega⟩ (by omega) Z9 (oR _ (by omega)).1 (by rw[k9 (N:=P.M) LF,hte.t0];exact(oR _ (by omega)).2) hE ((hI.tk hV hse_ hvl hr0 hxs).cs LF.symm) (by omega) (by omega)).tl
section
variable {S:Setup} {J:Nat -> Nat × Int} {w m:Nat} {P:PS (List Inp)} {V:List (List Inp)}
theorem uP{g:Nat -> List Inp -> Gm}(rf:Nat -> List Inp):∀ (n:Nat) (P:PS (List Inp)) (now:Nat),im g w rf (n+1) P now=nj g w (im g w rf n P now) (now+n) (rf (now+n))
 | 0,_,_=>rfl
 | n+1,P,now=>by
  rw[im,uP rf n];show nj g w (im g w rf n (nj g w P now (rf now)) (now+1)) (now+1+n) (rf (now+1+n))=nj g w (im g w rf (n+1) P now) (now+(n+1)) _;rw[show now+1+n=now+(n+1) by omega];rfl
theorem rE{rf:Nat -> List Inp}:∀ (n now:Nat) {r:List Inp},r∈kO rf n now -> ∃t,r=rf t
 | 0,_,_,h=>by cases h
 | n+1,now,r,h=>by
  rw[kO] at h;rcases List.mem_cons.1 h with h|h
  ·exact⟨_,h⟩
  ·exact rE n (now+1) h
theorem PInv.loop{c0:List Int}{pl:Int}(h:PInv (gP S J) c0 w P V m)(hw:1 <= w){T:Nat}(hT:T <= P.rows.length+w)(rf:Nat -> List Inp)(hrf:∀t,RowOk pl (rf t))(hrc:∀t,t<P.rows.length -> P.rows[t]?=some (rf t))(hV:∀r∈V,RowOk pl r){n1:Nat}(Xa:fj P V.length=n1){P1:PS (List Inp)}(hP1:Go.Proofs.YtdppjkjbghbnjaaGreatDoor.adv1 P=P1){i:Nat}(hi:n1+i <= T) :
  PInv (gP S J) c0 w (im (gP S J) w rf i P1 n1) (V.take n1++kO rf i n1) (min (n1+i) P.rows.length) /\ (V.take n1++kO rf i n1).length=n1+i /\ (∀r∈V.take n1++kO rf i n1,RowOk pl r) /\ (im (gP S J) w rf i P1 n1).rows=P.rows:=by
 subst Xa;subst hP1;obtain⟨k1,k2,k3,k4,k5⟩:=h.adv1;generalize Go.Proofs.YtdppjkjbghbnjaaGreatDoor.adv1 P=P1 at *;generalize fj P V.length=n1 at *;have lV:(V.take n1).length=n1:=by rw[List.length_take];omega
 have hse3_:=ru (g:=gP S J) hw rf i P1 (V.take n1) (by rw[lV,k2];exact k1) (by rw[lV,k2];omega) (by rw[k2];exact hrc);rw[lV,k2] at hse3_;refine⟨hse3_,by rw[List.length_append,rt,lV],λ r hr=>?_,(pA (g:=gP S J) (w:=w) rf i P1 n1).1.trans k2⟩;rcases List.mem_append.1 hr with hr|hr
 ·exact hV r (List.mem_of_mem_take hr)
 ·obtain⟨t,rfl⟩:=rE _ _ hr;exact hrf t
theorem PInv.rollF{ρ:Type}[DecidableEq ρ]{g:Nat -> ρ -> Gm}{c0:List Int}{P:PS ρ}{V:List ρ}(h:PInv g c0 w P V m){x:Nat}(hx:wr P.rows P.ck P.used=some x):(P.a <= x /\ x<P.a+P.ms.length) /\ (P.M.base <= P.ms.getD (x-P.a) 0 /\ P.ms.getD (x-P.a) 0 <= P.M.base+(P.M.lg.length:Int)) /\ (∀e∈P.M.lg.drop (P.ms.getD (x-P.a) 0-P.M.base).toNat,0 <= e.1 /\ e.1<(P.M.cs.length:Int)) /\ P.ck <= x /\ x-P.ck <= P.used.length /\ x <= P.effs.length /\ x<V.length:=by
 obtain⟨k1,k2,k3,k4,k5⟩:=yt hx;have hu:=h.used;have h1:=h.mV;have hse_:=h.ck;have hse3_:=h.mR;have hl:=h.len_cs;have ku:P.used.length=V.length-P.ck:=by rw[hu,List.length_drop]
 have hxV:x<V.length:=by omega
 have hmx:m <= x:=by
  rcases Nat.lt_or_ge x m with iS|WO
  ·exfalso;apply k5;rw[hu,List.getElem?_drop,show P.ck+(x-P.ck)=x by omega];have:=congrArg (·[x]?) h.eq;simpa [List.getElem?_take,iS] using this
  ·exact WO
 have IF:P.ms≠[]:=by
  rcases h.ring with ⟨_,e⟩|⟨e,_⟩
  ·rw[e] at hxV;simp at hxV
  ·exact e
 have hba:=h.back IF;have hlen:x-P.a<P.ms.length:=by
  rcases h.ring with ⟨e,_⟩|⟨_,e|e⟩
  ·exact absurd e IF
  ·omega
  ·omega
 obtain⟨mk,XC⟩:∃mk,P.ms[x-P.a]?=some mk:=⟨_,List.getElem?_eq_getElem hlen⟩;have hr:=h.rst _ _ XC;have eg:P.ms.getD (x-P.a) 0=mk:=by rw[List.getD_eq_getElem?_getD,XC];rfl
 rw[eg];exact⟨by omega,⟨hr.lo,hr.hi⟩,hr.ent,k1,by omega,by omega,hxV⟩
theorem Hz{ρ:Type}[DecidableEq ρ]{P:PS ρ}{x:Nat}(hx:wr P.rows P.ck P.used=some x):adv1 P=Bp P x:=by unfold adv1;rw[hx]
theorem HA{ρ:Type}[DecidableEq ρ]{P:PS ρ}(hx:wr P.rows P.ck P.used=none):adv1 P=P:=by unfold adv1;rw[hx]
end
theorem yD{rs_:List Bx}{ds_:List Dr}{bp pp pl me w:Nat}{S:Setup}{J:Nat -> Nat × Int}{P:PS (List Inp)}{kv:List (Int × Value × Nat)}{c sn:Nat}{X:Option (Rw × List Inp)}{gb mb rb lb cl rn rc ck un uc en ec rbk sg smb:Nat}{S2 S3:Setup}{rA uA eA:Option Addr}{rl ul el:List Rw}{N:MemS}{Tg Tn Tr Tu Te Tp Tq Ts F:HL}(q1_:P.rows.length=rn)(q2_:P.ck=ck)(q3_:P.used.length=un)(q4_:P.effs.length=en)(q5_:P.rb=rbk)(hse_:SetEq S S2)(hg:GameX rs_ ds_ bp gb mb S2 P.M 0 Tg)(hb:0 <= P.M.base /\ P.M.base+(P.M.lg.length:Int) <= 20000*(c:Int))(hn:RingH rb mb w P.a P.ms Tn)(hkv:LocIn kv)(hr:SlIs jO 38 rl rA rc Tr)(hrl:rl.length=rn)(hrr:RwsT rl P.rows Tp)(hu:SlX jO 38 ul uA uc Tu)(hul:ul.length=un)(huu:RwsT ul P.used Tp)(he:SlIs gO 58 el eA ec Te)(hel:el.length=en)(hee:EfsT el P.effs Tq)(hse3_:SetEq S S3)(hs:GameX rs_ ds_ bp sg smb S3 N 99020000 Ts)(hsc:N.cs=WS S J P.rows sn)(hsn:sn <= rn)(hsb:0 <= N.base /\ N.base <= 1000000*(sn:Int))(hpl:S.players=(pl:Int))(hX:∀p xs,X=some (p,xs) -> ∀F:HL,(∀y∈Tp,y∈F) -> RwIn F xs p){V:List (List Inp)}{m:Nat}(hI:PInv (gP S J) (aH S S.nb) w P V m)(hV:SetV S)(hVr:∀r∈V,RowOk S.players r)(Vp:∀r∈P.rows,RowOk S.players r)(S9:me<pl)(hw:1 <= w /\ w <= 12)(TW:rn<50)(hvn:V.length<50)(Z9:c <= 3900)(ZO:P.rb <= 1000)(oR:∀i,i <= 50 -> (J i).1<5 /\ AtOk F bp (i:Int) (J i))(hE:bF F)(tt:Int)(aia:tt<(V.length:Int) \/ tt>(P.rows.length:Int)+(w:Int)):Sp Tryz.prog 17 #[vP pp 0,vI tt] (ap [(pp,.lit [vI (pl:Int),vI (me:Int),vI (w:Int),vP gb 0,vP rb 0,.map (some lb),.slice rA rn rc,vI (ck:Int),.slice uA un uc,.slice eA en ec,vI (rbk:Int),vP sg 0] 102 (0,0)),(lb,.obj (bj kv cl))] [Tg,Tn,Tr,Tu,Te,Tp,Tq,Ts]) F (λ u H'=>u=.tuple #[vI 0,vI 18] /\ PeerR rs_ ds_ bp pp pl me w S J P kv c sn none H'):=by
 have ahn:=hV.pl;have acH:=hI.used;have amR:=hI.len_cs;have amN:=hI.win;have amO:=hI.room;have amQ:=hI.ck;have amP:=hI.mV;have agV:P.used.length=V.length-P.ck:=by rw[acH,List.length_drop]
 have h0:=(hI.te hV (fI S) (by omega) hVr).t0;refine aav Tryz.func17 rfl mn (A:=[(pp,.lit [vI (pl:Int),vI (me:Int),vI (w:Int),vP gb 0,vP rb 0,.map (some lb),.slice rA rn rc,vI (ck:Int),.slice uA un uc,.slice eA en ec,vI (rbk:Int),vP sg 0] 102 (0,0)),(lb,.obj (bj kv cl))]) (Ts:=[Tg,Tn,Tr,Tu,Te,Tp,Tq,Ts]) rfl λ w0=>?_;refine ae 8 [] λ _=>aal [] []<|ag [] [0,1] []<|aac [] 2 (λ X_=>(gA pp gb rb lb sg pl me w rn rc ck un uc en ec rbk rA uA eA (V.length:Int) _ (gn 0) hg (aE 0) h0))<|ag [] [3,4] []<|RD.em (tt<(V.length:Int)) 16 (λ h1=>?_) λ h1=>?_
 ·refine ag [] [5,6,8,7,9,10,11,12,13] []<|ag [] [14,15] []<|aad<|ae 8 [] λ _=>aaq [] [0,1] [0,1,2,3,4,5,6,7] (v:=.tuple #[vI 0,vI 18]) (H':=(ap [(pp,.lit [vI (pl:Int),vI (me:Int),vI (w:Int),vP gb 0,vP rb 0,.map (some lb),.slice rA rn rc,vI (ck:Int),.slice uA un uc,.slice eA en ec,vI (rbk:Int),vP sg 0] 102 (0,0)),(lb,.obj (bj kv cl))] [Tg,Tn,Tr,Tu,Te,Tp,Tq,Ts])) ?_;exact⟨rfl,PeerR.mk q1_ q2_ q3_ q4_ q5_ hse_ hg hb hn hkv hr hrl hrr hu hul huu he hel hee hse3_ hs hsc hsn hsb hpl (λ _ _ h_=>by cases h_)⟩
 ·refine ag [] [5,6,8,9,10,11] [.own 0]<|aac [] 7 (λ X_=>(eI pp gb rb lb sg pl me w rn rc ck un uc en ec rbk rA uA eA _ (gn 0)))<|av [] [12,13] [.nw] [aI ((rn:Int)+(w:Int))]<|eK 25 (congrArg (λ v_=>(vI v_:Value)) (show (if 6000<(rn:Int)+(w:Int) then 6000 else (rn:Int)+(w:Int))=(rn:Int)+(w:Int) from if_neg (by omega)))<|ag [] [14,15] []<|aad<|ae 1 [] λ _=>aam (tt>(rn:Int)+(w:Int)) 27 (λ h2=>?_) λ h2=>?_
  ·refine ae 7 [] λ _=>aaq [] [0,1] [0,1,2,3,4,5,6,7] (v:=.tuple #[vI 0,vI 18]) (H':=(ap [(pp,.lit [vI (pl:Int),vI (me:Int),vI (w:Int),vP gb 0,vP rb 0,.map (some lb),.slice rA rn rc,vI (ck:Int),.slice uA un uc,.slice eA en ec,vI (rbk:Int),vP sg 0] 102 (0,0)),(lb,.obj (bj kv cl))] [Tg,Tn,Tr,Tu,Te,Tp,Tq,Ts])) ?_;exact⟨rfl,PeerR.mk q1_ q2_ q3_ q4_ q5_ hse_ hg hb hn hkv hr hrl hrr hu hul huu he hel hee hse3_ hs hsc hsn hsb hpl (λ _ _ h_=>by cases h_)⟩
  ·(exfalso;omega)
theorem BG{rs_:List Bx}{ds_:List Dr}{bp pp pl me w:Nat}{S:Setup}{J:Nat -> Nat × Int}{P:PS (List Inp)}{kv:List (Int × Value × Nat)}{c sn:Nat}{X:Option (Rw × List Inp)}{G F:HL}(h:PeerR rs_ ds_ bp pp pl me w S J P kv c sn X G){V:List (List Inp)}{m:Nat}(hI:PInv (gP S J) (aH S S.nb) w P V m)(hV:SetV S)(hVr:∀r∈V,RowOk S.players r)(Vp:∀r∈P.rows,RowOk S.players r)(S9:me<pl)(hw:1 <= w /\ w <= 12)(TW:P.rows.length<50)(hvn:V.length<50)(Z9:c <= 3900)(ZO:P.rb <= 1000)(oR:∀i,i <= 50 -> (J i).1<5 /\ AtOk F bp (i:Int) (J i))(hE:bF F)(tt:Int)(aia:tt<(V.length:Int) \/ tt>(P.rows.length:Int)+(w:Int)):Sp Tryz.prog 17 #[vP pp 0,vI tt] (ap [] [G]) F (λ u H'=>∃x,H'=ap [] [x] /\ ((λ u H'=>u=.tuple #[vI 0,vI 18] /\ PeerR rs_ ds_ bp pp pl me w S J P kv c sn none H') u x)):=by
 rw[aP];cases h with
 | mk q1_ q2_ q3_ q4_ q5_ hse_ hg hb hn hkv hr hrl hrr hu hul huu he hel hee hse3_ hs hsc hsn hsb hpl hX =>
  exact(yD q1_ q2_ q3_ q4_ q5_ hse_ hg hb hn hkv hr hrl hrr hu hul huu he hel hee hse3_ hs hsc hsn hsb hpl hX hI hV hVr Vp S9 hw (by omega) hvn Z9 ZO oR hE tt aia).tl
theorem BH{rs_:List Bx}{ds_:List Dr}{bp pp pl me w:Nat}{S:Setup}{J:Nat -> Nat × Int}{P:PS (List Inp)}{kv:List (Int × Value × Nat)}{c sn:Nat}{X:Option (Rw × List Inp)}{gb mb rb lb cl rn rc ck un uc en ec rbk sg smb:Nat}{S2 S3:Setup}{rA uA eA:Option Addr}{rl ul el:List Rw}{N:MemS}{Tg Tn Tr Tu Te Tp Tq Ts F:HL}(q1_:P.rows.length=rn)(q2_:P.ck=ck)(q3_:P.used.length=un)(q4_:P.effs.length=en)(q5_:P.rb=rbk)(hse_:SetEq S S2)(hg:GameX rs_ ds_ bp gb mb S2 P.M 0 Tg)(hb:0 <= P.M.base /\ P.M.base+(P.M.lg.length:Int) <= 20000*(c:Int))(hn:RingH rb mb w P.a P.ms Tn)(hkv:LocIn kv)(hr:SlIs jO 38 rl rA rc Tr)(hrl:rl.length=rn)(hrr:RwsT rl P.rows Tp)(hu:SlX jO 38 ul uA uc Tu)(hul:ul.length=un)(huu:RwsT ul P.used Tp)(he:SlIs gO 58 el eA ec Te)(hel:el.length=en)(hee:EfsT el P.effs Tq)(hse3_:SetEq S S3)(hs:GameX rs_ ds_ bp sg smb S3 N 99020000 Ts)(hsc:N.cs=WS S J P.rows sn)(hsn:sn <= rn)(hsb:0 <= N.base /\ N.base <= 1000000*(sn:Int))(hpl:S.players=(pl:Int))(hX:∀p xs,X=some (p,xs) -> ∀F:HL,(∀y∈Tp,y∈F) -> RwIn F xs p){V:List (List Inp)}{m:Nat}(hI:PInv (gP S J) (aH S S.nb) w P V m)(hV:SetV S)(hVr:∀r∈V,RowOk S.players r)(Vp:∀r∈P.rows,RowOk S.players r)(S9:me<pl)(hw:1 <= w /\ w <= 12)(TW:rn<50)(hvn:V.length<50)(Z9:c <= 3900)(ZO:P.rb <= 1000)(oR:∀i,i <= 50 -> (J i).1<5 /\ AtOk F bp (i:Int) (J i))(hE:bF F)(T:Nat)(hT1:V.length <= T)(hT2:T <= P.rows.length+w)(hT3:T<50):Sp Tryz.prog 17 #[vP pp 0,vI (T:Int)] (ap [(pp,.lit [vI (pl:Int),vI (me:Int),vI (w:Int),vP gb 0,vP rb 0,.map (some lb),.slice rA rn rc,vI (ck:Int),.slice uA un uc,.slice eA en ec,vI (rbk:Int),vP sg 0] 102 (0,0)),(lb,.obj (bj kv cl))] [Tg,Tn,Tr,Tu,Te,Tp,Tq,Ts]) F (λ u H'=>∃x:HL,H'=ap [] [x] /\ (u=.tuple #[vI ((T-fj P V.length:Nat):Int),vI 0] /\ PeerR rs_ ds_ bp pp pl me w S J (uK (gP S J) w P V.length T (hO pl me P.rows (jj kv))) kv (c+(T-fj P V.length)) sn none x)):=by
 have h:PeerR rs_ ds_ bp pp pl me w S J P kv c sn none (ap [(pp,.lit [vI (pl:Int),vI (me:Int),vI (w:Int),vP gb 0,vP rb 0,.map (some lb),.slice rA rn rc,vI (ck:Int),.slice uA un uc,.slice eA en ec,vI (rbk:Int),vP sg 0] 102 (0,0)),(lb,.obj (bj kv cl))] [Tg,Tn,Tr,Tu,Te,Tp,Tq,Ts]):=PeerR.mk q1_ q2_ q3_ q4_ q5_ hse_ hg hb hn hkv hr hrl hrr hu hul huu he hel hee hse3_ hs hsc hsn hsb hpl (λ _ _ h_=>by cases h_);obtain⟨G,eG⟩:∃G,G=ap [(pp,.lit [vI (pl:Int),vI (me:Int),vI (w:Int),vP gb 0,vP rb 0,.map (some lb),.slice rA rn rc,vI (ck:Int),.slice uA un uc,.slice eA en ec,vI (rbk:Int),vP sg 0] 102 (0,0)),(lb,.obj (bj kv cl))] [Tg,Tn,Tr,Tu,Te,Tp,Tq,Ts]:=⟨_,rfl⟩;rw[<- eG] at h;have ahn:=hV.pl;have acH:=hI.used;have amR:=hI.len_cs;have amN:=hI.win;have amO:=hI.room;have amQ:=hI.ck;have amP:=hI.mV;have agV:P.used.length=V.length-P.ck:=by rw[acH,List.length_drop]
 have h0:=(hI.te hV (fI S) (by omega) hVr).t0;have alH:∀k,k<P.used.length -> (P.used.getD k []).length <= 1000000:=λ k hk=>by have h_:=(hVr _ (List.mem_of_mem_drop (by rw[<- acH];exact gY hk []))).1;omega
 obtain⟨k1,k2,k3,k4,k5⟩:=hI.adv1;obtain⟨n1,Xa⟩:∃n,fj P V.length=n:=⟨_,rfl⟩;obtain⟨P1,hP1⟩:∃p,adv1 P=p:=⟨_,rfl⟩;rw[Xa] at k1 k3 k4 k5;rw[hP1] at k1 k2 k5;have ahe:∀t,RowOk S.players ((hO pl me P.rows (jj kv)) t):=λ t=>by rw[hpl];exact yA (by rw[<- hpl];exact Vp) (λ t x e=>hkv.ok e) t
 refine aav Tryz.func17 rfl mn (A:=[(pp,.lit [vI (pl:Int),vI (me:Int),vI (w:Int),vP gb 0,vP rb 0,.map (some lb),.slice rA rn rc,vI (ck:Int),.slice uA un uc,.slice eA en ec,vI (rbk:Int),vP sg 0] 102 (0,0)),(lb,.obj (bj kv cl))]) (Ts:=[Tg,Tn,Tr,Tu,Te,Tp,Tq,Ts]) rfl λ w0=>?_;refine ae 8 [] λ _=>aal [] []<|ag [] [0,1] []<|aac [] 2 (λ X_=>(gA pp gb rb lb sg pl me w rn rc ck un uc en ec rbk rA uA eA (V.length:Int) _ (gn 0) hg (aE 0) h0))<|ag [] [3,4] []<|RD.em ((T:Int)<(V.length:Int)) 16 (λ h1=>?_) λ h1=>?_
 ·(exfalso;omega)
 ·refine ag [] [5,6,8,9,10,11] [.own 0]<|aac [] 7 (λ X_=>(eI pp gb rb lb sg pl me w rn rc ck un uc en ec rbk rA uA eA _ (gn 0)))<|av [] [12,13] [.nw] [aI ((rn:Int)+(w:Int))]<|eK 25 (congrArg (λ v_=>(vI v_:Value)) (show (if 6000<(rn:Int)+(w:Int) then 6000 else (rn:Int)+(w:Int))=(rn:Int)+(w:Int) from if_neg (by omega)))<|ag [] [14,15] []<|aad<|ae 1 [] λ _=>aam ((T:Int)>(rn:Int)+(w:Int)) 27 (λ h2=>?_) λ h2=>?_
  ·(exfalso;omega)
  ·refine ae 5 [] λ _=>NH [(pp,.lit [vI (pl:Int),vI (me:Int),vI (w:Int),vP gb 0,vP rb 0,.map (some lb),.slice rA rn rc,vI (ck:Int),.slice uA un uc,.slice eA en ec,vI (rbk:Int),vP sg 0] 102 (0,0)),(lb,.obj (bj kv cl))] [Tg,Tn,Tr,Tu,Te,Tp,Tq,Ts] eG<|ae 2 [] λ _=>aai (Dy h (ak 0) alH (by omega) (by omega) (by omega))<|ae 7 [] λ _=>RN.cut (σ:=HL) (λ G_=>⟨[(0,vP pp 0),(1,vI (T:Int))],[],[G_],PeerR rs_ ds_ bp pp pl me w S J P1 kv c sn none G_,0⟩) ?_ ?_
   ·intro Th;refine ae 5 [] λ _=>jB ((wr P.rows P.ck P.used).isSome) 33 (λ h4=>?_) λ h4=>?_
    ·refine ae 5 [] λ _=>?_;obtain⟨x_,hx_⟩:=Option.isSome_iff_exists.1 h4;obtain⟨r1_,r2_,r3_,r4_,r5_,r6_,r7_⟩:=hI.rollF hx_;obtain rfl:x_=(wr P.rows P.ck P.used).getD 0:=by rw[hx_];rfl
     refine aaj [] [0] (Dx (x:=(wr P.rows P.ck P.used).getD 0) h r1_ (by omega) (by omega) r2_ r3_ (by omega) r4_ r5_ r6_ (by omega)) ?_;rintro _ T5 ⟨rfl,hr6⟩;refine ae 11 [] λ _=>?_;refine Th T5 [] [0] ?_
     try dsimp only
     rw[<- hP1,Hz hx_];exact hr6
    ·refine ae 2 [] λ _=>?_;refine Th G [] [0] ?_
     try dsimp only
     rw[<- hP1,HA (Option.not_isSome_iff_eq_none.1 h4)];exact h
   ·rintro G_ No;refine ae 15 [] λ _=>aao (σ:=Nat × HL) (λ ⟨i_,G_⟩=>⟨[(0,vP pp 0),(1,vI (T:Int)),(9,.func (.func 49) #[vP pp 0] #[]),(10,vI (i_:Int))],[],[G_],n1+i_ <= T /\ PeerR rs_ ds_ bp pp pl me w S J (im (gP S J) w (hO pl me P.rows (jj kv)) i_ P1 n1) kv (c+i_) sn none G_,T-n1-i_⟩) (0,G_) [] [0] (⟨by omega,No⟩) ?_;rintro⟨i_,G_⟩ ⟨Xc,No⟩ mt8;obtain⟨li1,li2,li3,li4⟩:=hI.loop hw.1 hT2 (hO pl me P.rows (jj kv)) (λ t=>ahe t) (λ t ht=>rB ht) hVr Xa hP1 (i:=i_) Xc;obtain⟨Vi,hVi⟩:∃v,V.take n1++kO (hO pl me P.rows (jj kv)) i_ n1=v:=⟨_,rfl⟩;rw[hVi] at li1 li2 li3;have ak0:=li1.te hV (fI S) (by omega) li3;have Ur:(im (gP S J) w (hO pl me P.rows (jj kv)) i_ P1 n1).M.get 0=((n1+i_:Nat):Int):=by rw[ak0.t0,li2]
    refine ae 4 [] λ _=>aai (fm No (ak 0) Ur)<|ae 4 [] λ _=>aam (((n1+i_:Nat):Int)<(T:Int)) 45 (λ h9=>?_) λ h9=>?_
    ·refine ae 10 [] λ _=>aai (fm No (ak 0) Ur)<|aaj [] [0] (Lz No (t:=n1+i_) (by rw[li4,<- hpl];exact Vp) (by rw[li4];omega) (by omega) (by omega) S9) ?_;rintro _ ⟨Tj,Tt⟩ ⟨rfl,aeu⟩;dsimp only at aeu;rw[li4] at aeu;refine aaj [] [0] (LG (V:=Vi) aeu li1 hV (by omega) li3 (ahe _) hw (by omega) (λ i hi=>⟨(oR i hi).1,(oR i hi).2.mono λ x hx=>aq hx⟩) (aq hE) rfl) ?_;rintro _ TO ⟨rfl,Ug⟩;rw[li2] at Ug;refine ah 18 [.gen,.nw] [aI ((i_:Int)+1)] λ _=>?_;refine mt8 (i_+1,TO) [] [0] ?_
     try dsimp only
     refine⟨⟨by omega,?_⟩,by omega⟩;rw[uP];exact Ug
    ·refine ae 9 [] λ _=>aaj [] [0] (BF No (now:=n1+i_) Ur (by rw[li4];exact li1.ck) (by rw[li4,li1.used,List.length_drop,li2];omega) (by rw[li4];omega) (by omega)) ?_;rintro _ Vh ⟨rfl,XY⟩;refine ae 9 [] λ _=>aaq [] [] [0] (v:=.tuple #[vI (i_:Int),vI 0]) (H':=(ap [] [Vh])) ?_;obtain rfl:i_=T-n1:=by omega
     refine⟨Vh,rfl,by rw[Xa],?_⟩;unfold uK;rw[Xa,hP1];rw[show n1+(T-n1)=T by omega] at XY;exact XY
theorem yE{rs_:List Bx}{ds_:List Dr}{bp pp pl me w:Nat}{S:Setup}{J:Nat -> Nat × Int}{P:PS (List Inp)}{kv:List (Int × Value × Nat)}{c sn:Nat}{X:Option (Rw × List Inp)}{G F:HL}(h:PeerR rs_ ds_ bp pp pl me w S J P kv c sn X G){V:List (List Inp)}{m:Nat}(hI:PInv (gP S J) (aH S S.nb) w P V m)(hV:SetV S)(hVr:∀r∈V,RowOk S.players r)(Vp:∀r∈P.rows,RowOk S.players r)(S9:me<pl)(hw:1 <= w /\ w <= 12)(TW:P.rows.length<50)(hvn:V.length<50)(Z9:c <= 3900)(ZO:P.rb <= 1000)(oR:∀i,i <= 50 -> (J i).1<5 /\ AtOk F bp (i:Int) (J i))(hE:bF F)(T:Nat)(hT1:V.length <= T)(hT2:T <= P.rows.length+w)(hT3:T<50):Sp Tryz.prog 17 #[vP pp 0,vI (T:Int)] (ap [] [G]) F (λ u H'=>∃x:HL,H'=ap [] [x] /\ (u=.tuple #[vI ((T-fj P V.length:Nat):Int),vI 0] /\ PeerR rs_ ds_ bp pp pl me w S J (uK (gP S J) w P V.length T (hO pl me P.rows (jj kv))) kv (c+(T-fj P V.length)) sn none x)):=by
 rw[aP];cases h with
 | mk q1_ q2_ q3_ q4_ q5_ hse_ hg hb hn hkv hr hrl hrr hu hul huu he hel hee hse3_ hs hsc hsn hsb hpl hX =>
  exact(BH q1_ q2_ q3_ q4_ q5_ hse_ hg hb hn hkv hr hrl hrr hu hul huu he hel hee hse3_ hs hsc hsn hsb hpl hX hI hV hVr Vp S9 hw (by omega) hvn Z9 ZO oR hE T hT1 hT2 hT3)
theorem yF{rs_:List Bx}{ds_:List Dr}{bp pp pl me w:Nat}{S:Setup}{J:Nat -> Nat × Int}{P:PS (List Inp)}{kv:List (Int × Value × Nat)}{c sn:Nat}{X:Option (Rw × List Inp)}{gb mb rb lb cl rn rc ck un uc en ec rbk sg smb:Nat}{S2 S3:Setup}{rA uA eA:Option Addr}{rl ul el:List Rw}{N:MemS}{Tg Tn Tr Tu Te Tp Tq Ts F:HL}(q1_:P.rows.length=rn)(q2_:P.ck=ck)(q3_:P.used.length=un)(q4_:P.effs.length=en)(q5_:P.rb=rbk)(hse_:SetEq S S2)(hg:GameX rs_ ds_ bp gb mb S2 P.M 0 Tg)(hb:0 <= P.M.base /\ P.M.base+(P.M.lg.length:Int) <= 20000*(c:Int))(hn:RingH rb mb w P.a P.ms Tn)(hkv:LocIn kv)(hr:SlIs jO 38 rl rA rc Tr)(hrl:rl.length=rn)(hrr:RwsT rl P.rows Tp)(hu:SlX jO 38 ul uA uc Tu)(hul:ul.length=un)(huu:RwsT ul P.used Tp)(he:SlIs gO 58 el eA ec Te)(hel:el.length=en)(hee:EfsT el P.effs Tq)(hse3_:SetEq S S3)(hs:GameX rs_ ds_ bp sg smb S3 N 99020000 Ts)(hsc:N.cs=WS S J P.rows sn)(hsn:sn <= rn)(hsb:0 <= N.base /\ N.base <= 1000000*(sn:Int))(hpl:S.players=(pl:Int))(hX:∀p xs,X=some (p,xs) -> ∀F:HL,(∀y∈Tp,y∈F) -> RwIn F xs p)(n cc:Nat)(A:Option Addr)(xs:List Inp)(hl:RowL cS 40 F A n xs)(hn9:n=pl)(Ul:n=xs.length)(Xa:1 <= n)(hn2:n <= 1000)(iD:∀k,k<n -> fV (xs.getD k dI))(TW:rn <= 5000):Sp Tryz.prog 16 #[vP pp 0,vI (rn:Int),.slice A n cc] (ap [(pp,.lit [vI (pl:Int),vI (me:Int),vI (w:Int),vP gb 0,vP rb 0,.map (some lb),.slice rA rn rc,vI (ck:Int),.slice uA un uc,.slice eA en ec,vI (rbk:Int),vP sg 0] 102 (0,0)),(lb,.obj (bj kv cl))] [Tg,Tn,Tr,Tu,Te,Tp,Tq,Ts]) F (λ u H'=>u=vI 0 /\ PeerR rs_ ds_ bp pp pl me w S J (dD P xs) (jy kv (rn:Int)) c sn none H'):=by
 refine aav Tryz.func16 rfl mn (A:=[(pp,.lit [vI (pl:Int),vI (me:Int),vI (w:Int),vP gb 0,vP rb 0,.map (some lb),.slice rA rn rc,vI (ck:Int),.slice uA un uc,.slice eA en ec,vI (rbk:Int),vP sg 0] 102 (0,0)),(lb,.obj (bj kv cl))]) (Ts:=[Tg,Tn,Tr,Tu,Te,Tp,Tq,Ts]) rfl λ w0=>?_;refine ae 17 [.own 0] λ _=>aan ((n:Int)=(pl:Int)) 15 (λ h1=>?_) λ h1=>?_
 ·refine ae 12 [] λ _=>aao (σ:=Nat) (λ k_=>⟨[(0,vP pp 0),(1,vI (rn:Int)),(2,.slice A n cc),(16,.slice A n cc),(17,vI (n:Int)),(18,vI (k_:Int))],[(pp,.lit [vI (pl:Int),vI (me:Int),vI (w:Int),vP gb 0,vP rb 0,.map (some lb),.slice rA rn rc,vI (ck:Int),.slice uA un uc,.slice eA en ec,vI (rbk:Int),vP sg 0] 102 (0,0)),(lb,.obj (bj kv cl))],[Tg,Tn,Tr,Tu,Te,Tp,Tq,Ts],k_ <= n,n-k_⟩) 0 [0,1] [0,1,2,3,4,5,6,7] (Nat.zero_le _) ?_;rintro k_ X8 Th;refine ae 6 [] λ _=>aam ((k_:Int)<(n:Int)) 19 (λ h4=>?_) λ h4=>?_
  ·refine ae 7 [] λ _=>?_;obtain⟨qx5,r_,UZ,fx5,Xx,TH,TK,W_,Ub⟩:=hl.at (k:=k_) (by omega);refine aC 16 (congrArg (λ v_=>(.slice v_ n cc:Value)) TH)<|aar (λ _=>(mc TK mn))<|ah 2 [.ix k_,.rorow 0 (r_+k_) 0,.rorow 0 (r_+k_) 1,.rorow 0 (r_+k_) 2] [((r_*3+k_*3)+2)=(r_+k_)*3+2 /\ (r_+k_)<UZ,((r_*3+k_*3)+1)=(r_+k_)*3+1 /\ (r_+k_)<UZ,(r_*3+k_*3)=(r_+k_)*3+0 /\ (r_+k_)<UZ,(k_:Int)=((k_:Nat):Int) /\ k_<n] λ _=>aC 21 (congrArg (λ v_=>(.agg #[vI v_.dx,vI v_.dy,vI v_.act]:Value)) Ub)<|ae 7 (ow 0 6) λ n6=>aai (BD (xs.getD k_ dI) _ (iD k_ (by omega)))<|ah 11 [.gen,.nw] [aI ((k_:Int)+1)] λ _=>aC 16 (congrArg (λ v_=>(.slice v_ n cc:Value)) TH.symm) ?_;refine Th (k_+1) [1,2] [0,1,2,3,4,5,6,7] ?_
   try dsimp only
   exact⟨by omega,by omega⟩
  ·refine ae 11 [] λ _=>aai (eI pp gb rb lb sg pl me w rn rc ck un uc en ec rbk rA uA eA _ (az 0))<|ae 3 [] λ _=>bL 29 (nt (decide_eq_true (rfl:(rn:Int)=(rn:Int))))<|ae 10 [] λ _=>aam ((rn:Int) >= 6000) 31 (λ h7=>?_) λ h7=>?_
   ·(exfalso;omega)
   ·refine ae 4 [] λ _=>aal [8,11] []<|ag [] [0,1,5,2,3,4] [.own 0]<|aae 6 (aaf [] (Hp:=[]) (Tp:=[]) [] [] (sA A n cc xs _ (hl.up.src tE (by decide)) (by omega)) ?_);rintro _ ⟨A8,c9,UJ⟩ ⟨rfl,Xi⟩;dsimp only at Xi;refine aae 7 (aag [] [] λ n12=>?_);refine aae 8 (xz [] EV rl [(⟨A8,n,c9⟩:Rw)] 3 0 hrl.symm hr (by simp;omega) ?_);rintro A13 c14 Vh ⟨XY,aq_⟩;refine ag [] [9,10] []<|aae 11 (aag [] [.own 1] λ _=>?_);refine aad<|ae 8 [.own 1] λ _=>PT 2 (kv:=kv) (cl:=cl) (k:=(rn:Int))<|ae 7 [] λ _=>tw [6,1,0,2,3,4,5,7,8]<|wb<|aaq [] [1,2] [2,3,1,4,5,0,6,7] (v:=vI 0) (H':=(ap [(pp,.lit [vI (pl:Int),vI (me:Int),vI (w:Int),vP gb 0,vP rb 0,.map (some lb),.slice A13 (rn+1) c14,vI (ck:Int),.slice uA un uc,.slice eA en ec,vI (rbk:Int),vP sg 0] 102 (0,0)),(lb,.obj (bj (jy kv (rn:Int)) cl))] [Tg,Tn,Vh,Tu,Te,(Tp++UJ),Tq,Ts])) ?_;exact⟨rfl,PeerR.mk (show (P.rows++[xs]).length=rn+1 by rw[List.length_append,q1_];rfl) q2_ q3_ q4_ q5_ hse_ hg hb hn (hkv.del _) XY (by simp[hrl]) (hrr.snocD Xi (by omega) Ul) hu hul (huu.more _) he hel hee hse3_ hs (hsc.trans (E8 xs (by rw[q1_];exact hsn)).symm) (by omega) hsb hpl (λ _ _ h_=>by cases h_)⟩
 ·(exfalso;omega)
theorem qC{rs_:List Bx}{ds_:List Dr}{bp pp pl me w:Nat}{S:Setup}{J:Nat -> Nat × Int}{P:PS (List Inp)}{kv:List (Int × Value × Nat)}{c sn:Nat}{X:Option (Rw × List Inp)}{G F:HL}(h:PeerR rs_ ds_ bp pp pl me w S J P kv c sn X G){n cc:Nat}{A:Option Addr}{xs:List Inp}(hl:RowL cS 40 F A n xs)(hn9:n=pl)(Ul:n=xs.length)(Xa:1 <= n)(hn2:n <= 1000)(iD:∀k,k<n -> fV (xs.getD k dI))(TW:P.rows.length <= 5000):Sp Tryz.prog 16 #[vP pp 0,vI (P.rows.length:Int),.slice A n cc] (ap [] [G]) F (λ u H'=>∃T9,H'=ap [] [T9] /\ ((λ u H'=>u=vI 0 /\ PeerR rs_ ds_ bp pp pl me w S J (dD P xs) (jy kv (P.rows.length:Int)) c sn none H') u T9)):=by
 rw[aP];cases h with
 | mk q1_ q2_ q3_ q4_ q5_ hse_ hg hb hn hkv hr hrl hrr hu hul huu he hel hee hse3_ hs hsc hsn hsb hpl hX =>
  rw[q1_];exact(yF q1_ q2_ q3_ q4_ q5_ hse_ hg hb hn hkv hr hrl hrr hu hul huu he hel hee hse3_ hs hsc hsn hsb hpl hX n cc A xs hl hn9 Ul Xa hn2 iD (by omega)).tl
structure PeerI(S:Setup)(J:Nat -> Nat × Int)(w:Nat)(TR:Nat -> List Inp)(P:PS (List Inp))(V:List (List Inp))(m k:Nat):Prop where
 inv:PInv (gP S J) (aH S S.nb) w P V m
 rows:P.rows=(List.range P.rows.length).map TR
 ok:∀r∈V,RowOk S.players r
 lim:P.rows.length <= k /\ P.rb <= k
def gQ(tt:Int)(w vl rl rb U4 WU Wp m2:Nat)(n e:Int):Prop :=
 WU=rl /\ ((n=0 /\ e=18 /\ U4=vl /\ Wp=rb /\ (tt<(vl:Int) \/ tt>(rl:Int)+(w:Int))) \/ (e=0 /\ m2=min U4 rl /\ (U4:Int)=tt /\ vl <= U4 /\ U4 <= rl+w /\ (U4:Int)-(vl:Int) <= n /\ n <= (U4:Int)-(vl:Int)+(w:Int) /\ ((n>(U4:Int)-(vl:Int) /\ Wp=rb+1) \/ (n=(U4:Int)-(vl:Int) /\ Wp=rb))))
section
variable {S:Setup} {J:Nat -> Nat × Int} {w:Nat} {TR:Nat -> List Inp} {P:PS (List Inp)} {V:List (List Inp)} {m k:Nat}
theorem fZ(S:Setup)(J:Nat -> Nat × Int)(w:Nat)(TR:Nat -> List Inp)(k:Nat):PeerI S J w TR ⟨⟨aH S S.nb,[],0⟩,0,[],[],0,[],[],0⟩ [] 0 k :=
 ⟨uJ ⟨aH S S.nb,[],0⟩ 0,rfl,λ r hr=>(by cases hr),⟨Nat.zero_le _,Nat.zero_le _⟩⟩
theorem PeerI.more(h:PeerI S J w TR P V m k){k':Nat}(hk:k <= k'):PeerI S J w TR P V m k':=⟨h.inv,h.rows,h.ok,⟨Nat.le_trans h.lim.1 hk,Nat.le_trans h.lim.2 hk⟩⟩
theorem PeerI.rowsOk(h:PeerI S J w TR P V m k)(hT:∀t,RowOk S.players (TR t)):∀r∈P.rows,RowOk S.players r:=λ r hr=>by
 rw[h.rows] at hr;obtain⟨t,_,rfl⟩:=List.mem_map.1 hr;exact hT t
theorem PeerI.conf(h:PeerI S J w TR P V m k):PeerI S J w TR (dD P (TR P.rows.length)) V m (k+1):=by
 have hl:=h.lim;refine⟨h.inv.conf _,?_,h.ok,⟨by show (P.rows++[_]).length <= _;rw[List.length_append,List.length_singleton];omega,by show P.rb <= _;omega⟩⟩;show P.rows++[_]=(List.range (P.rows++[_]).length).map TR;rw[List.length_append,List.length_singleton,List.range_succ,List.map_append,<- h.rows];rfl
theorem PeerI.vlen(h:PeerI S J w TR P V m k):V.length <= P.rows.length+w:=h.inv.win
theorem PeerI.t0(h:PeerI S J w TR P V m k)(hV:SetV S)(hn:V.length <= 50):P.M.get 0=(V.length:Int):=(h.inv.te hV (fI S) hn h.ok).t0
theorem PeerI.adv(h:PeerI S J w TR P V m k)(hT:∀t,RowOk S.players (TR t))(hw:1 <= w){T:Nat}(h1:V.length <= T)(hse_:T <= P.rows.length+w)(rf:Nat -> List Inp)(hrf:∀t,RowOk S.players (rf t))(hrc:∀t,t<P.rows.length -> P.rows[t]?=some (rf t)) :
  PeerI S J w TR (uK (gP S J) w P V.length T rf) (Bq P V T rf) (min T P.rows.length) (k+1) /\ (Bq P V T rf).length=T /\ gQ (T:Int) w V.length P.rows.length P.rb (Bq P V T rf).length (uK (gP S J) w P V.length T rf).rows.length (uK (gP S J) w P V.length T rf).rb (min T P.rows.length) ((T-fj P V.length:Nat):Int) 0:=by
 obtain⟨a1,a2,a3,a4⟩:=h.inv.adv hw h1 hse_ rf hrc;obtain⟨k1,k2,k3,k4,k5⟩:=h.inv.adv1;have hf:=h.inv.far;have hl:=h.lim;refine⟨⟨a1,by rw[a3];exact h.rows,λ r hr=>?_,⟨by rw[a3];omega,by rw[a4];split <;> omega⟩⟩,a2,by rw[a3],.inr ⟨rfl,by rw[a2],by rw[a2],by omega,by omega,by omega,by omega,?_⟩⟩
 ·unfold Bq at hr;rcases List.mem_append.1 hr with hr|hr
  ·exact h.ok r (List.mem_of_mem_take hr)
  ·obtain⟨t,rfl⟩:=rE _ _ hr;exact hrf t
 ·rw[a2,a4]
  by_cases hx:fj P V.length<V.length
  ·rw[if_pos hx];exact .inl ⟨by omega,rfl⟩
  ·rw[if_neg hx];exact .inr ⟨by omega,rfl⟩
end
section
variable {rs_:List Bx} {ds_:List Dr} {bp pp pl me w:Nat} {S:Setup} {J:Nat -> Nat × Int} {P:PS (List Inp)} {kv:List (Int × Value × Nat)} {c sn:Nat} {TR:Nat -> List Inp} {V:List (List Inp)} {m k:Nat} {G F:HL}
theorem PeerR.loc_ok{X:Option (Rw × List Inp)}(h:PeerR rs_ ds_ bp pp pl me w S J P kv c sn X G){t:Int}{x:Inp}(e:jj kv t=some x):fV x:=by
 cases h with
 | mk q1_ q2_ q3_ q4_ q5_ hse_ hg hb hn hkv hr hrl hrr hu hul huu he hel hee hse3_ hs hsc hsn hsb hpl hX=>exact hkv.ok e
theorem PeerR.plE{X:Option (Rw × List Inp)}(h:PeerR rs_ ds_ bp pp pl me w S J P kv c sn X G):S.players=(pl:Int):=by
 cases h with
 | mk q1_ q2_ q3_ q4_ q5_ hse_ hg hb hn hkv hr hrl hrr hu hul huu he hel hee hse3_ hs hsc hsn hsb hpl hX=>exact hpl
theorem oU(h:PeerR rs_ ds_ bp pp pl me w S J P kv c sn none G)(hI:PeerI S J w TR P V m k)(hT:∀t,RowOk S.players (TR t))(hV:SetV S)(S9:me<pl)(hw:1 <= w /\ w <= 12)(hk:k <= 36)(hc:c <= 50*k)(oR:∀i,i <= 50 -> (J i).1<5 /\ AtOk F bp (i:Int) (J i))(hE:bF F){tt:Int}:Sp Tryz.prog 17 #[vP pp 0,vI tt] (ap [] [G]) F (λ u H'=>∃y:(Int × Int × PS (List Inp) × List (Int × Value × Nat) × Nat × List (List Inp) × Nat) × HL,H'=ap [] [y.2] /\ (u=.tuple #[vI y.1.1,vI y.1.2.1] /\ PeerR rs_ ds_ bp pp pl me w S J y.1.2.2.1 y.1.2.2.2.1 y.1.2.2.2.2.1 sn none y.2 /\ PeerI S J w TR y.1.2.2.1 y.1.2.2.2.2.2.1 y.1.2.2.2.2.2.2 (k+1) /\ y.1.2.2.2.2.1 <= 50*(k+1) /\ gQ tt w V.length P.rows.length P.rb y.1.2.2.2.2.2.1.length y.1.2.2.1.rows.length y.1.2.2.1.rb y.1.2.2.2.2.2.2 y.1.1 y.1.2.1)):=by
 have hl:=hI.lim;have hv:=hI.vlen;have hpl:=h.plE;have hr:=hI.rowsOk hT
 by_cases hb:tt<(V.length:Int) \/ tt>(P.rows.length:Int)+(w:Int)
 ·refine(BG h hI.inv hV hI.ok hr S9 hw (by omega) (by omega) (by omega) (by omega) oR hE tt hb).mono λ u H' q=>?_;obtain⟨x,rfl,h1,hse_⟩:=q;exact⟨((0,18,P,kv,c,V,m),x),rfl,h1,hse_,hI.more (Nat.le_succ _),by show c <= _;omega,rfl,.inl ⟨rfl,rfl,rfl,rfl,hb⟩⟩
 ·obtain⟨T,rfl⟩:∃T:Nat,tt=(T:Int):=⟨tt.toNat,by omega⟩;refine(yE h hI.inv hV hI.ok hr S9 hw (by omega) (by omega) (by omega) (by omega) oR hE T (by omega) (by omega) (by omega)).mono λ u H' q=>?_;obtain⟨x,rfl,h1,hse_⟩:=q;have ha:=hI.adv hT hw.1 (T:=T) (by omega) (by omega) (hO pl me P.rows (jj kv)) (λ t=>by rw[hpl];exact yA (by rw[<- hpl];exact hr) (λ t x e=>h.loc_ok e) t) (λ t ht=>rB ht);exact⟨((((T-fj P V.length:Nat):Int),0,uK (gP S J) w P V.length T (hO pl me P.rows (jj kv)),kv,c+(T-fj P V.length),Bq P V T (hO pl me P.rows (jj kv)),min T P.rows.length),x),rfl,h1,hse_,ha.1,by show c+_ <= _;omega,ha.2.2⟩
theorem jz(h:PeerR rs_ ds_ bp pp pl me w S J P kv c sn none G)(hI:PeerI S J w TR P V m k)(hT:∀t,RowOk S.players (TR t))(hV:SetV S)(hk:k <= 36)(hc:c <= 50*k){n cc:Nat}{A:Option Addr}{xs:List Inp}(hl:RowL cS 40 F A n xs)(hxs:xs=TR P.rows.length){t:Int}(ht:t=(P.rows.length:Int)):Sp Tryz.prog 16 #[vP pp 0,vI t,.slice A n cc] (ap [] [G]) F (λ u H'=>∃x,H'=ap [] [x] /\ (u=vI 0 /\ PeerR rs_ ds_ bp pp pl me w S J (dD P (TR P.rows.length)) (jy kv (P.rows.length:Int)) c sn none x /\ PeerI S J w TR (dD P (TR P.rows.length)) V m (k+1))):=by
 subst hxs;subst ht;have hli:=hI.lim;have hpl:=h.plE;have hp1:=hV.pl;have hr:=hT P.rows.length;have hn:=hl.len;have ZP:=hr.1;refine(qC (cc:=cc) h hl (by omega) hn.symm (by omega) (by omega) (λ i hi=>hr.2 i (by omega)) (by omega)).mono λ u H' q=>?_;obtain⟨x,rfl,h1,hse_⟩:=q;exact⟨x,rfl,h1,hse_,hI.conf⟩
end
def qD(c:Int):Inp:=⟨c % 3-1,c / 3 % 3-1,c / 9⟩
theorem om{c:Int}(h:0 <= c /\ c <= 35):fV (qD c):=by unfold fV qD;dsimp only;omega
theorem HB(c:Int)(F:HL)(hc:0 <= c /\ c <= 35):Sp Tryz.prog 44 #[.int .u8 c] [] F (λ u H'=>u=.tuple #[.agg #[vI (qD c).dx,vI (qD c).dy,vI (qD c).act],vI 0] /\ H'=[]):=by
 refine aav Tryz.func44 rfl mn (A:=[]) (Ts:=[]) rfl λ w0=>?_;refine ae 15 [] λ n1=>aC 4 (congrArg (λ v_=>(vI v_:Value)) (show i64.wrap c=c by rw[IntKind.wrap_i64];omega))<|ae 5 [] λ _=>aam (c>35) 8 (λ h2=>?_) λ h2=>?_
 ·(exfalso;omega)
 ·refine ah 19 [.nw,.nw,.nw,.nw,.nw,.nw,.own 0,.own 0,.own 0] [0 <= c /\ (0:Int)<9 /\ c <= 9223372036854775807,aI (((c / 3) % 3)-1),0 <= c / 3 /\ (0:Int)<3 /\ c / 3 <= 9223372036854775807,0 <= c /\ (0:Int)<3 /\ c <= 9223372036854775807,aI ((c % 3)-1),0 <= c /\ (0:Int)<3 /\ c <= 9223372036854775807] λ _=>?_;exact aaq (aab 3) [] [] ⟨rfl,rfl⟩
theorem lL(n:Int)(F:HL)(hn:fH n):Sp Tryz.prog 15 #[vI n] [] F (λ u H'=>u=.agg #[vI (qD (ai n 36)).dx,vI (qD (ai n 36)).dy,vI (qD (ai n 36)).act] /\ H'=[]):=by
 have hA_:0 <= ai n 36 /\ ai n 36 <= 35:=by have h_:=aA (n:=n) hn 36 (by decide);omega
 refine aav Tryz.func15 rfl mn (A:=[]) (Ts:=[]) rfl λ w0=>?_;refine ae 8 [] λ n1=>aai (eT n 36 (by decide) _)<|ae 1 [] λ _=>aC 8 (congrArg (λ v_=>((.int .u8 v_):Value)) (show u8.wrap (ai n 36)=ai n 36 by rw[IntKind.wrap_u8];omega))<|aai (HB (ai n 36) _ hA_)<|ae 14 (ow 0 6++[.own 1,.own 1,.own 1]) λ n2=>?_;exact aaq [.own 1,.own 1,.own 1] [] [] ⟨rfl,rfl⟩
theorem HC(mb w:Nat)(F:HL)(hw:1 <= w /\ w <= 13):Sp Tryz.prog 63 #[vP mb 0,vI (w:Int)] [] F (λ u H'=>∃b:Nat,H'=ap [(b,.lit [vP mb 0,vI (w:Int),.slice none 0 0] 169 (0,0))] [] /\ u=vP b 0):=by
 refine aav Tryz.func63 rfl mn (A:=[]) (Ts:=[]) rfl λ w0=>?_;refine ae 11 [] λ _=>aC 8 (congrArg (λ v_=>(vI v_:Value)) (show (if (if 13<(w:Int) then 13 else (w:Int))>1 then (if 13<(w:Int) then 13 else (w:Int)) else 1)=(w:Int) by (repeat' split) <;> omega))<|ae 5 [] λ n1=>aaq [] [0] [] (v:=vP (n1+0) 0) (H':=(ap [((n1+0),.lit [vP mb 0,vI (w:Int),.slice none 0 0] 169 (0,0))] [])) ?_;exact⟨_,rfl,rfl⟩
theorem xp(mb w:Nat)(F:HL)(hw:1 <= w /\ w <= 13):Sp Tryz.prog 63 #[vP mb 0,vI (w:Int)] (ap [] []) F (λ u H'=>∃x:Nat × HL,H'=ap [] [x.2] /\ (u=vP x.1 0 /\ RingH x.1 mb w 0 [] x.2)):=(HC mb w F hw).mono λ u H' h=>by
 obtain⟨b,rfl,hse_⟩:=h;refine⟨(b,ap [(b,.lit [vP mb 0,vI (w:Int),.slice none 0 0] 169 (0,0))] [[]]),by simp[ap],hse_,?_⟩;exact RingH.mk (n:=0) (SlX.nil _ _) rfl (λ _=>⟨rfl,rfl,rfl⟩)
theorem BI(S:Setup)(rs:List Bx)(ds:List Dr)(bp pl me w:Nat)(J:Nat -> Nat × Int)(F:HL)(hS:SetCl F S)(hM:MapIn F S rs ds)(h1:1 <= S.nb)(TW:S.rn <= 1000000)(VQ:S.dn <= 1000000)(S4:(sizeOf S).toNat <= 1000000)(hv:lU S rs ds=0)(hpl:S.players=(pl:Int))(S9:me<pl)(hw:1 <= w /\ w <= 12):Sp Tryz.prog 37 #[Setup.v S,vP bp 0,vI (me:Int),vI (w:Int)] (ap [] []) F (λ u H'=>∃x:Nat × HL,H'=ap [] [x.2] /\ (u=.tuple #[vP x.1 0,vI 0] /\ PeerR rs ds bp x.1 pl me w S J (⟨⟨aH S S.nb,[],0⟩,0,[],[],0,[],[],0⟩:PS (List Inp)) ([]) 0 0 none x.2)):=by
 have asc:=gx S S.nb;refine aav Tryz.func37 rfl mn (A:=[]) (Ts:=[]) rfl λ w0=>?_;refine ae 11 (ow 0 16) λ n1=>aaj (Hp:=[]) (Tp:=[]) [] [] (qk S rs ds bp _ hS.up hM.up h1 TW VQ S4 hv 99020000 (by decide)) ?_;rintro _ ⟨g2,S3,T4⟩ ⟨rfl,YU,hG6⟩;dsimp only at YU hG6;obtain⟨agG,ad_⟩:=hG6.x;refine ae 23 [] λ _=>aam ((me:Int)<0) 24 (λ h7=>?_) λ h7=>?_
 ·(exfalso;omega)
 ·refine ae 7 [.own 0] λ _=>aam ((me:Int) >= S.players) 29 (λ h8=>?_) λ h8=>?_
  ·(exfalso;omega)
  ·refine ae 9 [] λ _=>aam ((w:Int)<1) 32 (λ h9=>?_) λ h9=>?_
   ·(exfalso;omega)
   ·refine ae 5 [] λ _=>aam ((w:Int)>12) 35 (λ VU=>?_) λ VU=>?_
    ·(exfalso;omega)
    ·refine ae 7 (ow 0 16) λ _=>aaj (Hp:=[]) (Tp:=[]) [] [] (qk S rs ds bp _ hS.up hM.up h1 TW VQ S4 hv 99020000 (by decide)) ?_;rintro _ ⟨g11,S12,TO⟩ ⟨rfl,aeU,ait⟩;dsimp only at aeU ait;obtain⟨aqZ,agO⟩:=ait.x;refine ae 18 [] λ _=>aal [] []<|ag [] [0,2,3,4,5,7,10,1] [.own 0]<|aac [] 6 (λ X_=>(uN ad_ (aE 1)))<|iu 8 9 ?_ ?_
     ·refine aaf [] (Hp:=[]) (Tp:=[]) [] [] (xp agG w _ (by omega)) ?_;rintro _ ⟨b16,Us⟩ ⟨rfl,ahx⟩;dsimp only at ahx;refine aae 9 (aag [] [] λ XO=>?_);refine eK 46 (congrArg (λ v_=>(vI v_:Value)) hpl)<|ag [] [11] []<|aae 12 (aag [] [] λ Yu=>?_);refine ag [] [13,14] []<|aad<|ae 1 [] λ _=>aaq [] [0,1] [2,0,1] (v:=.tuple #[vP (Yu+0) 0,vI 0]) (H':=(ap [((Yu+0),.lit [vI (pl:Int),vI (me:Int),vI (w:Int),vP g2 0,vP b16 0,.map (some (XO+0)),.slice none 0 0,vI 0,.slice none 0 0,.slice none 0 0,vI 0,vP g11 0] 102 (0,0)),((XO+0),.obj (bj [] 0))] [T4,Us,TO])) ?_;exact⟨((Yu+0),ap [((Yu+0),.lit [vI (pl:Int),vI (me:Int),vI (w:Int),vP g2 0,vP b16 0,.map (some (XO+0)),.slice none 0 0,vI 0,.slice none 0 0,.slice none 0 0,vI 0,vP g11 0] 102 (0,0)),((XO+0),.obj (bj [] 0))] [T4,Us,[],[],[],[],[],TO]),by simp[ap],rfl,PeerR.mk (P:=(⟨⟨aH S S.nb,[],0⟩,0,[],[],0,[],[],0⟩:PS (List Inp))) (rl:=[]) (ul:=[]) (el:=[]) rfl rfl rfl rfl rfl YU (ad_.weak (Nat.zero_le _)) ⟨Int.le_refl 0,Int.le_refl 0⟩ ahx LocIn.nil (aau _ _) rfl RwsT.nil (SlX.nil _ _) rfl RwsT.nil (aau _ _) rfl EfsT.nil aeU agO rfl (Nat.le_refl _) ⟨Int.le_refl 0,Int.le_refl 0⟩ hpl (λ _ _ h_=>by cases h_)⟩
     ·refine aag [] [] λ TP=>aae 8 (aaf [] (Hp:=[]) (Tp:=[]) [] [] (xp agG w _ (by omega)) ?_);rintro _ ⟨b22,Zg⟩ ⟨rfl,ahv⟩;dsimp only at ahv;refine eK 46 (congrArg (λ v_=>(vI v_:Value)) hpl)<|ag [] [11] []<|aae 12 (aag [] [] λ Wi=>?_);refine ag [] [13,14] []<|aad<|ae 1 [] λ _=>aaq [] [0,1] [2,0,1] (v:=.tuple #[vP (Wi+0) 0,vI 0]) (H':=(ap [((Wi+0),.lit [vI (pl:Int),vI (me:Int),vI (w:Int),vP g2 0,vP b22 0,.map (some (TP+0)),.slice none 0 0,vI 0,.slice none 0 0,.slice none 0 0,vI 0,vP g11 0] 102 (0,0)),((TP+0),.obj (bj [] 0))] [T4,Zg,TO])) ?_;exact⟨((Wi+0),ap [((Wi+0),.lit [vI (pl:Int),vI (me:Int),vI (w:Int),vP g2 0,vP b22 0,.map (some (TP+0)),.slice none 0 0,vI 0,.slice none 0 0,.slice none 0 0,vI 0,vP g11 0] 102 (0,0)),((TP+0),.obj (bj [] 0))] [T4,Zg,[],[],[],[],[],TO]),by simp[ap],rfl,PeerR.mk (P:=(⟨⟨aH S S.nb,[],0⟩,0,[],[],0,[],[],0⟩:PS (List Inp))) (rl:=[]) (ul:=[]) (el:=[]) rfl rfl rfl rfl rfl YU (ad_.weak (Nat.zero_le _)) ⟨Int.le_refl 0,Int.le_refl 0⟩ ahv LocIn.nil (aau _ _) rfl RwsT.nil (SlX.nil _ _) rfl RwsT.nil (aau _ _) rfl EfsT.nil aeU agO rfl (Nat.le_refl _) ⟨Int.le_refl 0,Int.le_refl 0⟩ hpl (λ _ _ h_=>by cases h_)⟩
theorem BJ(S:Setup)(rs:List Bx)(ds:List Dr)(bp pl me w:Nat)(J:Nat -> Nat × Int)(F:HL)(hS:SetCl F S)(hM:MapIn F S rs ds)(h1:1 <= S.nb)(TW:S.rn <= 1000000)(VQ:S.dn <= 1000000)(S4:(sizeOf S).toNat <= 1000000)(hv:lU S rs ds=0)(hpl:S.players=(pl:Int))(S9:me<pl)(hw:1 <= w /\ w <= 12):Sp Tryz.prog 12 #[(Setup.v S),vP bp 0,vI (me:Int),vI (w:Int)] [] F (λ u H'=>∃x:Nat × HL,H'=ap [] [x.2] /\ (u=vP x.1 0 /\ PeerR rs ds bp x.1 pl me w S J (⟨⟨aH S S.nb,[],0⟩,0,[],[],0,[],[],0⟩:PS (List Inp)) ([]) 0 0 none x.2)):=by
 refine aav Tryz.func12 rfl mn (A:=[]) (Ts:=[]) rfl λ w0=>?_;refine ae 22 (ow 0 16) λ n1=>aaj (Hp:=[]) (Tp:=[]) [] [] (BI S rs ds bp pl me w J _ hS.up hM.up h1 TW VQ S4 hv hpl S9 hw) ?_;rintro _ ⟨p2,T3⟩ ⟨rfl,hr4⟩;dsimp only at hr4;refine ae 23 [] λ _=>aaq [] [] [0] (v:=vP p2 0) (H':=(ap [] [T3])) ?_;exact⟨(p2,T3),rfl,rfl,hr4⟩
theorem eO(S:Setup)(rs:List Bx)(ds:List Dr)(bp pl me w:Nat)(J:Nat -> Nat × Int)(F:HL)(hS:SetCl F S)(hM:MapIn F S rs ds)(h1:1 <= S.nb)(TW:S.rn <= 1000000)(VQ:S.dn <= 1000000)(S4:(sizeOf S).toNat <= 1000000)(hv:lU S rs ds=0)(hpl:S.players=(pl:Int))(S9:me<pl)(hw:1 <= w /\ w <= 12){mi wi:Int}(hmi:mi=(me:Int))(hwi:wi=(w:Int)):Sp Tryz.prog 12 #[Setup.v S,vP bp 0,vI mi,vI wi] (ap [] []) F (λ u H'=>∃x:Nat × HL,H'=ap [] [x.2] /\ (u=vP x.1 0 /\ PeerR rs ds bp x.1 pl me w S J (⟨⟨aH S S.nb,[],0⟩,0,[],[],0,[],[],0⟩:PS (List Inp)) ([]) 0 0 none x.2)):=by
 subst hmi;subst hwi;exact BJ S rs ds bp pl me w J F hS hM h1 TW VQ S4 hv hpl S9 hw
def cO(b:Nat):Setup:=⟨1,b,0,1,1,1,[⟨⟨5,[],none,0⟩,⟨0,0,0,0,0⟩,0,0⟩],⟨0,0,0,0⟩,none,0,0,none,0,0,0,⟨0,0⟩,0,0,0,1,0⟩
theorem BK(b:Nat):lU (cO b) [] []=0:=by kernel_rfl
theorem Dz(b:Nat):SetV (cO b):=⟨⟨show (1:Int) <= 1 by decide,show (1:Int) <= 3 by decide⟩,⟨show 1 <= 1 by decide,show 1 <= 5 by decide⟩,⟨show (1:Int) <= 1 by decide,show (1:Int) <= 3 by decide⟩,⟨show (0:Int) <= 0 by decide,show (0:Int) <= 60 by decide⟩⟩
theorem Fd{b:Nat}{F:HL}(hb:(b,.rows 9 1 (kW (cO b).bods) 90 (0,0))∈F):SetCl F (cO b):=⟨⟨⟨show (0:Int) <= 1 by decide,show (1:Int) <= 1000000 by decide⟩,show 1 <= 1000000 by decide⟩,hb,show 0+1 <= 1 by decide,λ k hk=>by
 obtain rfl:k=0:=by have:k<1:=hk;omega
 exact⟨⟨.zero _,Nat.zero_le _⟩,.inl rfl⟩⟩
theorem BL(b:Nat)(F:HL):MapIn F (cO b) [] []:=⟨.zero _,.zero _⟩
theorem gG(n m:Int)(F:HL)(hn:fH n)(hm:fH m)(hE:mF F):Sp Tryz.prog 13 #[vI n,vI m] (ap [] []) F (λ u H'=>∃x:Nat × HL,H'=ap [] [x.2] /\ (u=vP x.1 0 /\ Book2 3 (ai n 5).toNat (ai m 5).toNat x.1 x.2)):=by
 refine aav Tryz.func13 rfl mn (A:=[]) (Ts:=[]) rfl λ w0=>?_;refine ae 8 [] λ _=>aai (uD n _ hn) ?_;have hA1:=aA (n:=n) hn 5 (by decide);refine aaj (Hp:=[]) (Tp:=[]) [] [] (KS (ai n 5).toNat _ (by omega) (aq hE)) ?_;rintro _ ⟨b2,T3⟩ ⟨rfl,hB4⟩;dsimp only at hB4;refine ae 26 [] λ _=>aai (uD m _ hm) ?_;have hA5:=aA (n:=m) hm 5 (by decide);refine aaj [] [0] (ND hB4 3 (by decide) (ai m 5).toNat _ (by omega) (aq hE)) ?_;rintro _ T6 ⟨rfl,hB7⟩;refine ae 12 [] λ _=>aaq [] [] [0] (v:=vP b2 0) (H':=(ap [] [T6])) ?_;exact⟨(b2,T6),rfl,rfl,hB7⟩
abbrev v3:List (List Inp):=[[dI],[dI],[dI]]
theorem On:∀r∈v3,RowOk 1 r:=λ r hr=>by
 have e:r=[dI]:=by simpa using hr
 subst e;exact nk rfl λ x hx=>by rw[List.mem_singleton.1 hx];exact xj
section
variable {b bp pp:Nat} {J:Nat -> Nat × Int} {G F:HL}
theorem LH(h:PeerR [] [] bp pp 1 0 3 (cO b) J (⟨⟨aH (cO b) (cO b).nb,[],0⟩,0,[],[],0,[],[],0⟩:PS (List Inp)) ([]) 0 0 none G)(oR:∀i,i <= 50 -> (J i).1<5 /\ AtOk F bp (i:Int) (J i))(hE:bF F):Sp Tryz.prog 17 #[vP pp 0,vI 3] (ap [] [G]) F (λ u H'=>∃y:PS (List Inp) × HL,H'=ap [] [y.2] /\ (u=.tuple #[vI 3,vI 0] /\ PeerR [] [] bp pp 1 0 3 (cO b) J y.1 ([]) (0+(3-fj (⟨⟨aH (cO b) (cO b).nb,[],0⟩,0,[],[],0,[],[],0⟩:PS (List Inp)) ([]:List (List Inp)).length)) 0 none y.2 /\ PInv (gP (cO b) J) (aH (cO b) (cO b).nb) 3 y.1 v3 0 /\ y.1.rows=[] /\ y.1.rb=0)):=by
 have hI:PInv (gP (cO b) J) (aH (cO b) (cO b).nb) 3 (⟨⟨aH (cO b) (cO b).nb,[],0⟩,0,[],[],0,[],[],0⟩:PS (List Inp)) [] 0:=uJ (⟨aH (cO b) (cO b).nb,[],0⟩) 0;have hrc:∀t,t<(([]:List (List Inp)).length) -> ([]:List (List Inp))[t]?=some (hO 1 0 [] (jj []) t):=λ t ht=>absurd ht (Nat.not_lt_zero _);obtain⟨a1,a2,a3,a4⟩:=hI.adv (by decide) (T:=3) (by decide) (Nat.le_refl 3) (hO 1 0 [] (jj [])) hrc;refine(yE h hI (Dz b) (λ r hr=>by cases hr) (λ r hr=>by cases hr) (by decide) (by decide) (show 0<50 by decide) (by decide) (by decide) (show 0 <= 1000 by decide) oR hE 3 (by decide) (Nat.le_refl 3) (by decide)).mono λ u H' q=>?_;obtain⟨x,rfl,h1,h2⟩:=q;exact⟨(_,x),rfl,h1,h2,a1,a3,a4⟩
theorem PY{P:PS (List Inp)}(h:PeerR [] [] bp pp 1 0 3 (cO b) J P ([]) 3 0 none G)(hI:PInv (gP (cO b) J) (aH (cO b) (cO b).nb) 3 P v3 0)(hr:P.rows=[])(ZO:P.rb=0)(oR:∀i,i <= 50 -> (J i).1<5 /\ AtOk F bp (i:Int) (J i))(hE:bF F):Sp Tryz.prog 17 #[vP pp 0,vI 4] (ap [] [G]) F (λ u H'=>∃x,H'=ap [] [x] /\ (u=.tuple #[vI 0,vI 18] /\ PeerR [] [] bp pp 1 0 3 (cO b) J P ([]) 3 0 none x)) :=
 BG h hI (Dz b) On (by rw[hr];exact λ r hr=>by cases hr) (by decide) (by decide) (by rw[hr];decide) (by decide) (by decide) (by rw[ZO];decide) oR hE 4 (by rw[hr];exact .inr (by decide))
theorem LI{P:PS (List Inp)}(h:PeerR [] [] bp pp 1 0 3 (cO b) J P ([]) 3 0 none G)(hr:P.rows=[]){r:Inp}(hi:fV r){q:Nat}(hq:(q,.rows 3 1 (aL cS [r]) 40 (0,0))∈F):Sp Tryz.prog 16 #[vP pp 0,vI 0,vS q 0 1 1] (ap [] [G]) F (λ u H'=>∃x,H'=ap [] [x] /\ (u=vI 0 /\ PeerR [] [] bp pp 1 0 3 (cO b) J (dD P [r]) ([]) 3 0 none x)):=by
 have hl:RowL cS 40 F (some ⟨q,0,none⟩) 1 [r]:=.rows q 0 1 [r] (0,0) _ _ hq (by decide) rfl (λ k hk=>by rw[Nat.zero_add]);have h2:=qC (cc:=1) h hl rfl rfl (by decide) (by decide) (λ k hk=>by have e:k=0:=(by omega);subst e;exact hi) (by rw[hr];decide);rw[hr] at h2;exact h2
theorem LJ{P:PS (List Inp)}{r:Inp}(h:PeerR [] [] bp pp 1 0 3 (cO b) J (dD P [r]) ([]) 3 0 none G)(hI:PInv (gP (cO b) J) (aH (cO b) (cO b).nb) 3 P v3 0)(hr:P.rows=[])(ZO:P.rb=0)(hi:fV r)(oR:∀i,i <= 50 -> (J i).1<5 /\ AtOk F bp (i:Int) (J i))(hE:bF F){n:Nat}(hn:n=if dI=r then 1 else 4):Sp Tryz.prog 17 #[vP pp 0,vI 4] (ap [] [G]) F (λ u H'=>∃y:PS (List Inp) × Nat × HL,H'=ap [] [y.2.2] /\ (u=.tuple #[vI (n:Int),vI 0] /\ PeerR [] [] bp pp 1 0 3 (cO b) J y.1 ([]) y.2.1 0 none y.2.2 /\ y.1.rb=if dI=r then 0 else 1)):=by
 have Yl:PInv (gP (cO b) J) (aH (cO b) (cO b).nb) 3 (dD P [r]) v3 0:=hI.conf _;have hrw:(dD P [r]).rows=[[r]]:=by show P.rows++[[r]]=_;rw[hr];rfl
 have YB:(dD P [r]).ck=0:=Nat.le_zero.1 hI.ck;have hu:(dD P [r]).used=v3:=by have h_:=Yl.used;rw[YB] at h_;exact h_
 have ahf:(dD P [r]).rb=0:=ZO;have iD:∀x∈(dD P [r]).rows,RowOk 1 x:=by
  rw[hrw];intro x hx;rw[List.mem_singleton.1 hx];exact nk rfl λ y hy=>by rw[List.mem_singleton.1 hy];exact hi
 have hrf:∀t,RowOk 1 (hO 1 0 (dD P [r]).rows (jj []) t):=λ t=>yA (pl:=1) iD (λ t x e=>by cases e) t;obtain⟨a1,a2,a3,a4⟩:=Yl.adv (by decide) (T:=4) (by decide) (by rw[hrw];exact Nat.le_refl 4) (hO 1 0 (dD P [r]).rows (jj [])) (λ t ht=>rB ht);have e1:fj (dD P [r]) v3.length=if dI=r then 3 else 0:=by
  unfold fj;rw[hrw,YB,hu];show (wr [[r]] 0 ([dI]::[[dI],[dI]])).getD 3=_;rw[wr];show ((if [dI]=[r] then wr [[r]] (0+1) [[dI],[dI]] else some 0):Option Nat).getD 3=_
  by_cases e:dI=r
  ·rw[if_pos (by rw[e]),if_pos e];rfl
  ·rw[if_neg (by intro e2;exact e (by simpa using e2)),if_neg e];rfl
 refine(yE h Yl (Dz b) On iD (by decide) (by decide) (by rw[hrw];show 1<50;decide) (by decide) (by decide) (by rw[ahf];decide) oR hE 4 (by decide) (by rw[hrw];exact Nat.le_refl 4) (by decide)).mono λ u H' q=>?_;obtain⟨x,rfl,h1,h2⟩:=q;rw[e1] at h1;refine⟨(_,_,x),rfl,?_,h2,?_⟩
 ·rw[h1,hn]
  by_cases e:dI=r
  ·rw[if_pos e,if_pos e]
  ·rw[if_neg e,if_neg e]
 ·refine a4.trans ?_;rw[e1,ahf]
  by_cases e:dI=r
  ·rw[if_pos e,if_pos e];rfl
  ·rw[if_neg e,if_neg e];rfl
end
theorem Ff{rs_:List Bx}{ds_:List Dr}{bp pp pl me w:Nat}{S:Setup}{J:Nat -> Nat × Int}{P:PS (List Inp)}{kv:List (Int × Value × Nat)}{c sn:Nat}{X:Option (Rw × List Inp)}{G F:HL}(h:PeerR rs_ ds_ bp pp pl me w S J P kv c sn X G)(hF:∀x∈G,x∈F){e:Int}(he:(P.rb:Int)=e):Sp Tryz.prog 20 #[vP pp 0] [] F (λ u H'=>u=vI e /\ H'=[]):=he ▸ pE h hF
theorem jk(F:HL)(Xo:mF F)(Um:bF F):Sp Tryz.prog 21 #[] [] F (λ u H'=>u=.bool true /\ H'=[]):=by
 refine aav Tryz.func21 rfl mn (A:=[]) (Ts:=[]) rfl λ w0=>?_;refine ae 17 (ow 0 16) λ n1=>aak 1 (.rows 9 1 (kW (cO (n1+0)).bods) 90 (0,0))<|aaj (Hp:=[]) (Tp:=[]) [] [] (gG 0 0 _ (by decide) (by decide) (aq Xo)) ?_;rintro _ ⟨b2,T3⟩ ⟨rfl,hB4⟩;dsimp only at hB4
 replace hB4:Book2 3 (ai 0 5).toNat (ai 0 5).toNat b2 T3:=hB4
 refine ae 7 (ow 0 16) λ _=>aaj (Hp:=[]) (Tp:=[]) [] [] (eO (cO (n1+0)) [] [] b2 1 0 3 (dN 3 (ai 0 5).toNat (ai 0 5).toNat 0) _ (Fd (az 1)) (BL _ _) (show 1 <= 1 by decide) (show 0 <= 1000000 by decide) (show 0 <= 1000000 by decide) (show (60:Int).toNat <= 1000000 by decide) (BK _) rfl (by decide) (by decide) rfl rfl) ?_;rintro _ ⟨p5,T6⟩ ⟨rfl,hr7⟩;dsimp only at hr7;refine ae 7 (ow 0 16) λ _=>aaj (Hp:=[]) (Tp:=[]) [] [] (eO (cO (n1+0)) [] [] b2 1 0 3 (dN 3 (ai 0 5).toNat (ai 0 5).toNat 0) _ (Fd (az 1)) (BL _ _) (show 1 <= 1 by decide) (show 0 <= 1000000 by decide) (show 0 <= 1000000 by decide) (show (60:Int).toNat <= 1000000 by decide) (BK _) rfl (by decide) (by decide) rfl rfl) ?_;rintro _ ⟨p8,T9⟩ ⟨rfl,YQ⟩;dsimp only at YQ;refine ae 20 [] λ _=>aaj [] [1] (LH hr7 (λ i hi=>gl hB4 (ak 1) (by decide) (by decide) (t:=0+i) (by omega)) (aq Um)) ?_;rintro _ ⟨P11,T12⟩ ⟨rfl,ab_,afi,acn,ae3⟩;dsimp only at ab_ afi acn ae3
 replace ab_:PeerR [] [] b2 p5 1 0 3 (cO (n1+0)) (dN 3 (ai 0 5).toNat (ai 0 5).toNat 0) P11 ([]) 3 0 none T12:=ab_
 refine ae 10 [] λ _=>aaj [] [0] (PY ab_ afi acn ae3 (λ i hi=>gl hB4 (ak 1) (by decide) (by decide) (t:=0+i) (by omega)) (aq Um)) ?_;rintro _ Us ⟨rfl,ale⟩;refine ae 10 [] λ _=>aaj [] [1] (LH YQ (λ i hi=>gl hB4 (ak 1) (by decide) (by decide) (t:=0+i) (by omega)) (aq Um)) ?_;rintro _ ⟨P19,XL⟩ ⟨rfl,ab9,air,aeT,aib⟩;dsimp only at ab9 air aeT aib
 replace ab9:PeerR [] [] b2 p8 1 0 3 (cO (n1+0)) (dN 3 (ai 0 5).toNat (ai 0 5).toNat 0) P19 ([]) 3 0 none XL:=ab9
 refine ae 7 [] λ Wi=>aak 0 (.rows 3 1 (aL cS [⟨0,0,0⟩]) 40 (0,0))<|aaj [] [1] (LI (q:=(Wi+0)) (r:=⟨0,0,0⟩) ale acn (by decide) (az 0)) ?_;rintro _ T26 ⟨rfl,ald⟩;refine ae 7 [] λ n28=>aak 0 (.rows 3 1 (aL cS [⟨1,0,0⟩]) 40 (0,0))<|aaj [] [1] (LI (q:=(n28+0)) (r:=⟨1,0,0⟩) ab9 aeT (by decide) (az 0)) ?_;rintro _ T29 ⟨rfl,alb⟩;refine ae 5 [] λ _=>aaj [] [1] (LJ (n:=1) (r:=⟨0,0,0⟩) ald afi acn ae3 (by decide) (λ i hi=>gl hB4 (ak 1) (by decide) (by decide) (t:=0+i) (by omega)) (aq Um) (by decide)) ?_;rintro _ ⟨P31,c32,T33⟩ ⟨rfl,X0,acu⟩;dsimp only at X0 acu
 replace acu:P31.rb=0:=acu.trans (by decide)
 refine ae 10 [] λ _=>aaj [] [1] (LJ (n:=4) (r:=⟨1,0,0⟩) alb air aeT aib (by decide) (λ i hi=>gl hB4 (ak 1) (by decide) (by decide) (t:=0+i) (by omega)) (aq Um) (by decide)) ?_;rintro _ ⟨P36,c37,T38⟩ ⟨rfl,ahg,acs⟩;dsimp only at ahg acs
 replace acs:P36.rb=1:=acs.trans (by decide)
 refine ae 37 [] λ _=>aai (Ff X0 (ak 1) (by rw[acu]))<|ae 4 [] λ _=>aai (Ff ahg (ak 0) (by rw[acs]))<|ae 5 [] λ _=>?_;exact aaq [] [] [] ⟨rfl,rfl⟩
open Go.ChangeShapes Go.WideShapes Go.ChangeAt
theorem nq:ownKnob Tryz.prog.godebug=none:=by kernel_rfl
theorem nr:laidOutB Tryz.prog=true:=by kernel_rfl
theorem cz{n:Int}(h:(Lit.int .i64 n).wf=true):-9223372036854775808 <= n /\ n <= 9223372036854775807:=bounds_i64 h
section
variable {H:Type} {enc:TypeId × Value -> H} {P:Program} {W W':World}
theorem oV(hl:laidOutB P=true)(hb:Below W.heap.size W W'):∀ {ts:List TypeId} {vs:List Value} {ds:List (DataW H)} {ps:List MemPlace},(∀t∈ts,P.readableRec t=true /\ t<P.types.size) ->
  DataW.TrodAll enc P W 0 (λ _=>true) true ts vs ds ps -> (∀x∈ps,x.block<W.heap.size) -> DataW.TrodAll enc P W' 0 (λ b=>decide (b<W.heap.size)) true ts vs ds ps
 | [],_,_,_,_,h,_=>by
  obtain⟨rfl,rfl,rfl⟩:=trodAll_nil h;exact trodAll_mk0
 | t::ts,_,_,_,ht,h,iS=>by
  obtain⟨v,vs1,d,ds1,a,b,rfl,rfl,rfl,h1,h2⟩:=trodAll_cons h;have h3:=ht t (by simp);exact trodAll_cons_mk (Below.trod hl h3.1 h3.2 h1 hb (λ x hx=>iS x (by simp[hx]))) (oV hl hb (λ t h=>ht t (List.mem_cons_of_mem _ h)) h2 (λ x hx=>iS x (by simp[hx])))
theorem nu{f:Func}{s:ChangeSpec}{apart fresh handsOn:Bool}{args:Array Value}{v:Value}{ds:List (DataW H)}{before:List MemPlace}(hl:laidOutB P=true)
  (hts:∀t∈f.params.toList,P.readableRec t=true /\ t<P.types.size)
  (hW:DataW.Whole enc P f.params.toList s.vars apart W args.toList ds [] before) (hs:s.vars=[])
  (hA:DataW.TrodAll enc P W 0 (λ _=>true) true f.params.toList args.toList ds before)
  (WB:∀ (b:Nat) (sp:Nat -> Bool) (hd:Bool),DataW.TrodAll enc P W' b sp hd f.resultTypes.toList (v.resultList f.resultTypes.size) (s.fn H (ds++[])).results [])
  (U2:(s.fn H (ds++[])).args=ds) (agS:∀sp,DataW.TrodVars enc P W' sp s.vars (s.fn H (ds++[])).vars []) (hb:Below W.heap.size W W') :
  s.post enc P f apart fresh handsOn false W args v W':=by
 refine⟨ds,[],before,[],before,[],hW,WB _ _ _,?_,agS _,hb.frame _,λ h=>by cases h⟩;rw[U2];exact oV hl hb hts hA (λ x hx=>hW.lt x hx)
end
def uQ:Obj -> Blk
 | .cells cs ty fz=>.rows 1 cs.size (λ i _=>cs.getD i default) ty fz
 | o=>.obj o
theorem oq(o:Obj):(uQ o).den=o:=by
 cases o with
 | cells cs ty fz =>
  show Obj.cells ⟨bJ 1 (λ i _=>cs.getD i default) cs.size⟩ ty fz=_;congr 1;have e:bJ 1 (λ i _=>cs.getD i default) cs.size=cs.toList:=by
   refine lO (by simp) ?_;intro i k hi hk;obtain rfl:k=0:=by omega
   simp[Array.getD,hi]
  rw[e]
 | _=>rfl
def nv(w:World):HL:=List.ofFn (λ k:Fin w.heap.size=>(k.1,uQ w.heap[k.1]))
theorem uR{w:World}{k:Nat}{o:Obj}(h:w.heap[k]?=some o):(k,uQ o)∈nv w:=by
 obtain⟨hk,he⟩:=Array.getElem?_eq_some_iff.1 h;exact List.mem_ofFn.2 ⟨⟨k,hk⟩,by simp[he]⟩
theorem DA(w:World):Rel (nv w) w:=by
 refine⟨λ x hx=>?_,?_⟩
 ·obtain⟨k,rfl⟩:=List.mem_ofFn.1 hx;simp[oq]
 ·unfold nv;rw[List.map_ofFn];have e:List.ofFn ((λ x:Nat × Blk=>x.1) ∘ λ k:Fin w.heap.size=>(k.1,uQ w.heap[k.1]))=List.range w.heap.size:=by
   apply List.ext_getElem
   ·simp
   ·intro i h1 h2;simp
  rw[e];exact List.nodup_range
theorem lM{P:Program}{f:FuncId}{args:Array Value}{v:Value}(w:World)(h:Sp P f args [] (nv w) (λ u H'=>u=v /\ H'=[])):Calls P f args w λ e w'=>e=.returned v /\ Below w.heap.size w w':=by
 refine(h w (DA w)).mono ?_;rintro e w' ⟨u,H',rfl,⟨rfl,rfl⟩,S6,hB⟩;refine⟨rfl,hB.os,hB.tape,hB.output,hB.size,λ k hk=>?_⟩;have:=S6.holds (k,uQ w.heap[k]) (by rw[List.nil_append];exact uR (by simp[hk]));rw[this];simp[oq,hk]
theorem eo{H:Type}{enc:TypeId × Value -> H}{w:World}{r:Reach}{b0:Nat}{v:Value}{d:DataW H}{ps:List MemPlace}(n_:Value.okWide Tryz.prog w r b0 22 v)(hd:DataW.Trod enc Tryz.prog w 0 (λ _=>true) true 22 v d ps) :
  ∃ (A:Option Addr) (n cap:Nat) (xs:List Int),v=.slice A n cap /\ n <= 9223372036854775807 /\ ArgL (nv w) A n xs /\ n <= cap:=by
 obtain⟨a0,len,cap,rfl⟩:=okWide_slice Tryz.underlying22 n_;obtain⟨fuel,hf⟩:=hd;rcases open_ints Tryz.underlying22 Tryz.underlying3 (by kernel_rfl) hf with ⟨Zb,hx⟩|⟨a,aq1,g_,zs,Zb,_,hl,hm,hz,hx,TI,hwz⟩
 ·simp[Value.cells] at Zb;obtain⟨rfl,rfl,rfl⟩:=Zb;exact⟨none,0,0,[],rfl,by omega,.zero _,Nat.le_refl _⟩
 ·simp[Value.cells] at Zb;obtain⟨rfl,rfl,rfl⟩:=Zb;unfold maxLen at hm;simp at hz;rcases Nat.eq_zero_or_pos len with h0|aew
  ·subst h0;exact⟨some a,0,_,[],rfl,by omega,.zero _,Nat.zero_le _⟩
  ·have hlz:len <= zs.length:=by omega
   obtain⟨b,off,spot⟩:=a;have c0:=TI 0 (by omega);have Yw:spot=none:=by
    cases spot with
    | none=>rfl
    | some s=>simp[Addr.add,World.cell?] at c0;split at c0 <;> simp at c0
   subst Yw;have hc:∀i,i<zs.length -> w.cell? ⟨b,off+i,none⟩=some (.int .i64 (zs.getD i 0)):=λ i hi=>by
    have:=TI i hi;unfold Addr.add at this
    by_cases h:i=0
    ·subst h;simpa using this
    ·rw[if_neg h] at this;exact this
   have h0:=hc 0 (by omega);unfold World.cell? at h0;split at h0
   case h_2=>cases h0
   rename_i cs ty fz hb;refine⟨some ⟨b,off,none⟩,len,cap,zs.take len,rfl,by omega,?_,hl⟩;have hlen:(zs.take len).length=len:=by rw[List.length_take];omega
   have Zb:∀k,k<len -> cs[off+k]?=some (vI ((zs.take len).getD k 0)):=λ k hk=>by
    have h1:=hc k (by omega);unfold World.cell? at h1;rw[show w.heap[(⟨b,off+k,none⟩:Addr).block]?=some (.cells cs ty fz) from hb] at h1;have h2:cs[off+k]?=some (.int .i64 (zs.getD k 0)):=by simpa using h1
    rw[h2];simp[List.getD_eq_getElem?_getD,List.getElem?_take,hk]
   have alC:=uR hb;have hle:off+len <= cs.size:=by
    have h1:=Zb (len-1) (by omega);have h2:=(Array.getElem?_eq_some_iff.1 h1).1;omega
   have:=ArgL.cells (F:=nv w) b off cs.size (λ i _=>cs.getD i default) ty fz (zs.take len) alC (by rw[hlen];exact hle) (λ k hk=>by
    rw[hlen] at hk;have h1:=Zb k hk;simp only[Array.getD_eq_getD_getElem?];rw[h1];rfl) (λ k hk=>by
    rw[hlen] at hk;have:(zs.take len).getD k 0∈zs:=by
     rw[List.getD_eq_getElem?_getD,List.getElem?_eq_getElem (by omega)];exact List.mem_of_mem_take (List.getElem_mem _)
    exact cz (hwz _ this))
   rw[hlen] at this;exact this
theorem vH{H:Type}{enc:TypeId × Value -> H}{P:Program}{w:World}{base:Nat}{sp:Nat -> Bool}{held:Bool}{fuel:Nat}{t e:TypeId}{n m:Nat}{k:IntKind}{fs:Array Field}{cs:List Value}{zs:List (List Int)}{p:List MemPlace}
  (ht:P.underlying t=some (.array n e)) (he:P.underlying e=some (.struct fs)) (hce:P.cellsOf e=m) (hct:P.cellsOf t=n*m) (hm:0<m) (UQ:fs.toList.length=m)
  (hf:∀ (j:Nat) f,fs.toList[j]?=some f -> P.underlying f.type=some (.int k) /\ P.cellsOf f.type=1 /\ f.offset=j) (hz:∀z∈zs,z.length=m)
  (h:DataW.trod enc P w base sp held fuel t cs=some (.agg (zs.map λ z=>.agg (z.map λ x=>.lit (.int k x))),p)) :
  cs.length=n*m /\ zs.length=n /\ ∀i j,i<n -> j<m -> cs[i*m+j]?=some (.int k ((zs.getD i []).getD j 0)):=by
 cases fuel with
 | zero=>simp[DataW.trod] at h
 | succ fuel =>
  simp only[DataW.trod,ht,hce,hct] at h;split at h
  case isFalse=>cases h
  rename_i hl;obtain⟨xs,hmm,hx⟩:=Option.map_eq_some_iff.1 h;have hxs:xs.map (·.1)=zs.map λ z=>(DataW.agg (z.map λ x=>.lit (.int k x)):DataW H):=by
   have:=congrArg Prod.fst hx;simpa using this
  have hxl:xs.length=n:=by simpa using Lib.mapM_length hmm
  have XT:zs.length=n:=by
   have:=congrArg List.length hxs;simp at this;omega
  refine⟨hl,XT,λ i j hi hj=>?_⟩;obtain⟨b,hb,hfb⟩:=Lib.mapM_at hmm i i (by simp[hi]);have hbz:b.1=.agg ((zs.getD i []).map λ x=>.lit (.int k x)):=by
   have h2:(xs.map (·.1))[i]?=some b.1:=by simp[hb]
   rw[hxs,List.getElem?_map,List.getElem?_eq_getElem (by omega)] at h2;simp only[Option.map_some,Option.some.injEq] at h2;rw[<- h2,List.getD_eq_getElem?_getD,List.getElem?_eq_getElem (by omega)];rfl
  have hzi:(zs.getD i []).length=m:=by
   rw[List.getD_eq_getElem?_getD,List.getElem?_eq_getElem (by omega)];exact hz _ (List.getElem_mem _)
  cases fuel with
  | zero=>simp[DataW.trod] at hfb
  | succ fuel =>
   have acm:=hfb;simp only[DataW.trod,he,hce] at acm;split at acm
   case isFalse=>cases acm
   rename_i TA;obtain⟨ys,hym,hy⟩:=Option.map_eq_some_iff.1 acm;have hys:ys.map (·.1)=(zs.getD i []).map λ x=>(DataW.lit (.int k x):DataW H):=by
    have:=congrArg Prod.fst hy;rw[hbz] at this;simpa using this
   have hfj:fs.toList[j]?=some (fs.toList[j]'(by omega)):=List.getElem?_eq_getElem (by omega);obtain⟨c,hc,hfc⟩:=Lib.mapM_at hym j _ hfj;obtain⟨f1,f2,f3⟩:=hf j _ hfj;rw[f2,f3] at hfc;obtain⟨x,hcx,hcd,_⟩:=DataW.trod_int f1 hfc;have h1:(((cs.drop (i*m)).take m).drop j).take 1=[.int k x]:=hcx;have h2:cs[i*m+j]?=some (.int k x):=by
    have:=congrArg (·[0]?) h1;simpa [List.getElem?_take,List.getElem?_drop,hj] using this
   have h3:(ys.map (·.1))[j]?=some (DataW.lit (.int k x):DataW H):=by simp[hc,hcd]
   rw[hys,List.getElem?_map,List.getElem?_eq_getElem (by omega)] at h3;simp only[Option.map_some,Option.some.injEq,DataW.lit.injEq,Lit.int.injEq,true_and] at h3;have h4:∀l:List Int,(hl:j<l.length) -> l[j]=l.getD j 0:=λ l hl=>by simp[List.getD_eq_getElem?_getD,hl]
   rw[h2,<- h3,h4 _ (by omega)]
theorem cW{H:Type}{enc:TypeId × Value -> H}{a:Assume}{C:Checked}{os:Os}{f:FuncId}{fn:Func}{s:ChangeSpec}{conds:List PathCond}{apart fresh handsOn again:Bool}{X:World -> Array Value -> Prop}
  (hX:∀ (w w':World) (args:Array Value),w.heap=w'.heap -> X w args -> X w' args)
  (own:ownKnob C.prog.godebug=none) (started:os.Started) (adN:C.prog.inits.idxOf? f=none) (Yc:C.prog.funcs[f]?=some fn)
  (witness:∃ (w:World) (tape:Tape) (i:Input),w.os=os /\ (w.forCall tape i).Shaped C.prog /\ i.vars=[] /\ Input.okWide C.prog (w.forCall tape i) .any w.heap.size f i /\
   ((s.pre enc C.prog fn conds apart (w.forCall tape i).memory i.args /\ X (w.forCall tape i).memory i.args) /\ sizedMet enc C.prog fn (OpenSpec.ofChange s) apart (w.forCall tape i).memory i.args) /\ a.holds C.prog (lone (Frame.enter C.prog f i.args .normal) [] (w.forCall tape i)))
  (abf:∀ (W:World) (base:Nat) (args:Array Value) (ds gs:List (DataW H)) (before:List MemPlace),W.ShapedOpen C.prog ->
   (∀ (j:Nat) t v,fn.params[j]?=some t -> args[j]?=some v -> Value.okWide C.prog W .any base t v) ->
   DataW.Whole enc C.prog fn.params.toList s.vars apart W args.toList ds gs before -> X W args ->
   Calls C.prog f args W λ e W'=>∃v,e=.returned v /\ s.post enc C.prog fn apart fresh handsOn again W args v W') :
  ReturnsInHanded a C os f .any (λ w args=>(s.pre enc C.prog fn conds apart w args /\ X w args) /\ sizedMet enc C.prog fn (OpenSpec.ofChange s) apart w args) (s.post enc C.prog fn apart fresh handsOn again):=by
 refine returnsInHanded_of_calls own started adN witness ?_;intro w tape i _ Wj _ iD Ui alW;obtain⟨_,_,_,fn',al2,_,_,_,_,n_⟩:=iD;have e:fn'=fn:=Option.some.inj (al2.symm.trans Yc);subst e;obtain⟨⟨⟨ds,gs,before,hw,hc⟩,hx⟩,hz⟩:=Ui;have hw':=DataW.Whole.of_heap (w':=w.forCall tape i) (by rfl) hw;refine(abf (w.forCall tape i) w.heap.size i.args ds gs before Wj n_ hw' (hX _ _ _ (by rfl) hx)).mono λ e W' ⟨v,he,hp⟩=>?_;subst he;exact ChangeSpec.post_blind hp
def ceZ:List (List Int):=[[0,0],[0,1],[0,1],[1,0],[1,1],[2,0],[0,1],[0,1],[0,1],[2,1],[2,1],[2,1],[2,1],[1,1],[2,1],[2,1],[2,1],[1,1],[0,0],[1,0],[2,0],[0,0]]
def Fg:Nat -> Nat -> Value:=λ i j=>.int .i64 ((ceZ.getD i []).getD j 0)
theorem LK:(Blk.rows 2 22 Fg 270 (0,0)).den=(Blk.lit yn 270 (0,0)).den:=by kernel_rfl
def efZ:List (List Int):=pZ.map λ z=>[z.1,z.2.1,z.2.2]
theorem BM(g:Nat)(t:TypeId)(hg:g<Tryz.prog.globals.size)(h0:(((begin Tryz.prog (λ _ _=>0) default).world.heap[g]?).bind Obj.row?).map (·.2)=some t){W:World}(hs:W.ShapedOpen Tryz.prog):∃cs,W.heap[g]?=some (.cells cs t (0,0)):=by
 cases h:((begin Tryz.prog (λ _ _=>0) default).world.heap[g]?).bind Obj.row? with
 | none=>rw[h] at h0;cases h0
 | some x =>
  obtain⟨z,t'⟩:=x;rw[h] at h0;simp only[Option.map_some,Option.some.injEq] at h0;subst h0;obtain⟨cs,h1,_⟩:=hs.1 g z t' hg h;exact⟨cs,h1⟩
def LL(P:Program)(e:TypeId)(m:Nat):Bool :=
 match P.underlying e with
 | some (.struct fs)=>decide (fs.toList.length=m) && (List.range m).all λ j =>
  match fs.toList[j]? with
  | some f=>(match P.underlying f.type with|some (.int .i64)=>true|_=>false) && decide (P.cellsOf f.type=1) && decide (f.offset=j)
  | none=>false
 | _=>false
theorem HD{P:Program}{e:TypeId}{m:Nat}(h:LL P e m=true):∃fs:Array Field,P.underlying e=some (.struct fs) /\ fs.toList.length=m /\
  ∀ (j:Nat) f,fs.toList[j]?=some f -> P.underlying f.type=some (.int .i64) /\ P.cellsOf f.type=1 /\ f.offset=j:=by
 unfold LL at h;split at h
 case h_2=>cases h
 rename_i fs hfs;rw[Bool.and_eq_true] at h;have hm:fs.toList.length=m:=of_decide_eq_true h.1;refine⟨fs,hfs,hm,λ j f hj=>?_⟩;have hjm:j<m:=by rw[<- hm];exact(List.getElem?_eq_some_iff.1 hj).1
 have h2:=List.all_eq_true.1 h.2 j (List.mem_range.2 hjm);rw[hj] at h2;simp only[Bool.and_eq_true,decide_eq_true_eq] at h2;refine⟨?_,h2.1.2,h2.2⟩;have h3:=h2.1.1;split at h3
 ·assumption
 ·cases h3
theorem Fh{P:Program}{W:World}{name:String}{g n m:Nat}{t e:TypeId}{zs:List (List Int)}{rest:List (String × DataW Unit)}{ps:List MemPlace}{row:Nat -> Nat -> Value}{cs0:Array Value}
  (hb:W.heap[g]?=some (.cells cs0 t (0,0)))
  (hg:P.globalNamed name=some g) (hty:(P.globals[g]?).map (·.type)=some t) (ht:P.underlying t=some (.array n e)) (hE:LL P e m=true) (hce:P.cellsOf e=m) (hct:P.cellsOf t=n*m) (hm:0<m) (hz:∀z∈zs,z.length=m)
  (o_:∀i j,i<n -> j<m -> row i j=.int .i64 ((zs.getD i []).getD j 0))
  (h:DataW.LaidVars P W ((name,.agg (zs.map λ z=>.agg (z.map λ x=>.lit (.int .i64 x))))::rest) ps):W.heap[g]?=some (Blk.rows m n row t (0,0)).den /\ ∃q,DataW.LaidVars P W rest q:=by
 obtain⟨fs,he,UQ,hf⟩:=HD hE;obtain⟨g',t',cs,fuel,p,q,hg',ht',akW,hd,hr,_⟩:=h;obtain rfl:=Option.some.inj (hg.symm.trans hg');obtain rfl:=Option.some.inj (hty.symm.trans ht');have hv:W.var? P name=some cs0:=by
  unfold World.var?;rw[hg];simp only[Option.bind_some,hb]
 obtain rfl:=Option.some.inj (hv.symm.trans akW);obtain⟨h1,h2,h3⟩:=vH ht he hce hct hm UQ hf hz hd;refine⟨?_,q,hr⟩;rw[hb];show some (Obj.cells cs0 t (0,0))=some (Obj.cells ⟨bJ m row n⟩ t (0,0));congr 2;obtain⟨l⟩:=cs0;congr 1
 symm
 exact lO (w:=m) h1 λ i j hi hj=>by rw[o_ i j hi hj];exact h3 i j hi hj
theorem qE {W:World} (hs:W.ShapedOpen Tryz.prog) (hL:laidMetH Tryz.prog [("arenanet/compile.effects",Rows.laid_arenanet_compile_effects),("arenanet/vm.effects",Rows.laid_arenanet_vm_effects)] W):W.heap[0]?=some (Blk.lit yn 270 (0,0)).den /\ W.heap[1]?=some (Blk.rows 3 22 o8 332 (0,0)).den:=by
 rw[MakeChecks.laidMetH_plain _ _ _ (by kernel_rfl)] at hL;obtain⟨ps,hv,_,_⟩:=hL;obtain⟨cs0,hb0⟩:=BM 0 270 (of_decide_eq_true (by kernel_rfl)) (by kernel_rfl) hs;obtain⟨cs1,V5⟩:=BM 1 332 (of_decide_eq_true (by kernel_rfl)) (by kernel_rfl) hs;have hv0:DataW.LaidVars Tryz.prog W (("arenanet/compile.effects",.agg (ceZ.map λ z=>.agg (z.map λ x=>.lit (.int .i64 x)))) :: [("arenanet/vm.effects",.agg (efZ.map λ z=>.agg (z.map λ x=>.lit (.int .i64 x))))]) ps:=hv;obtain⟨h0,q,hq⟩:=Fh (n:=22) (m:=2) (e:=269) (row:=Fg) hb0 (by kernel_rfl) (by kernel_rfl) (by kernel_rfl) (by kernel_rfl) (by kernel_rfl) (by kernel_rfl) (by decide) (by decide) (λ i j hi hj=>rfl) hv0;obtain⟨h1,_⟩:=Fh (n:=22) (m:=3) (e:=331) (row:=o8) V5 (by kernel_rfl) (by kernel_rfl) (by kernel_rfl) (by kernel_rfl) (by kernel_rfl) (by kernel_rfl) (by decide) (by decide) (λ i j hi hj=>by
  have key:∀i:Fin 22,∀j:Fin 3,(if j.1=0 then (pZ.getD i.1 (0,0,0)).1 else if j.1=1 then (pZ.getD i.1 (0,0,0)).2.1 else (pZ.getD i.1 (0,0,0)).2.2)=(efZ.getD i.1 []).getD j.1 0:=by decide
  have:=key ⟨i,hi⟩ ⟨j,hj⟩;rcases j with _|_|_|j
  ·exact congrArg (Value.int .i64) this
  ·exact congrArg (Value.int .i64) this
  ·exact congrArg (Value.int .i64) this
  ·omega) hq
 exact⟨h0.trans (congrArg some LK),h1⟩
def mj(W:World):HL:=List.ofFn (λ k:Fin W.heap.size=>(k.1,if k.1=0 then Blk.lit yn 270 (0,0) else if k.1=1 then Blk.rows 3 22 o8 332 (0,0) else uQ W.heap[k.1]))
theorem kh{W:World}(h0:W.heap[0]?=some (Blk.lit yn 270 (0,0)).den)(h1:W.heap[1]?=some (Blk.rows 3 22 o8 332 (0,0)).den):fo (nv W)=fo (mj W):=by
 unfold fo nv mj;rw[List.map_ofFn,List.map_ofFn];congr 1;funext k;show (k.1,(uQ W.heap[k.1]).den)=(k.1,Blk.den (if k.1=0 then _ else if k.1=1 then _ else _));rw[oq];congr 1
 by_cases e0:k.1=0
 ·rw[if_pos e0];have h2:W.heap[k.1]?=some (Blk.lit yn 270 (0,0)).den:=by rw[show W.heap[k.1]?=W.heap[0]? by rw[e0]];exact h0
  rw[Array.getElem?_eq_getElem k.2] at h2;exact Option.some.inj h2
 ·rw[if_neg e0]
  by_cases e1:k.1=1
  ·rw[if_pos e1];have h2:W.heap[k.1]?=some (Blk.rows 3 22 o8 332 (0,0)).den:=by rw[show W.heap[k.1]?=W.heap[1]? by rw[e1]];exact h1
   rw[Array.getElem?_eq_getElem k.2] at h2;exact Option.some.inj h2
  ·rw[if_neg e1,oq]
theorem nz{W:World}(h0:W.heap[0]?=some (Blk.lit yn 270 (0,0)).den):mF (mj W) :=
 List.mem_ofFn.2 ⟨⟨0,(Array.getElem?_eq_some_iff.1 h0).1⟩,rfl⟩
theorem nA{W:World}(h1:W.heap[1]?=some (Blk.rows 3 22 o8 332 (0,0)).den):bF (mj W) :=
 List.mem_ofFn.2 ⟨⟨1,(Array.getElem?_eq_some_iff.1 h1).1⟩,rfl⟩
theorem kj:false=Tryz.prog.looks []:=by kernel_rfl
end Go.Proofs.YtdppjkjbghbnjaaGreatDoor
