import Derived.Test.YtdppjkjbghbnjaaGreatDoorD11
import Derived.Test.YtdppjkjbghbnjaaGreatDoorD16
set_option maxHeartbeats 4000000
set_option maxRecDepth 100000
set_option linter.all false
namespace Go.Proofs.YtdppjkjbghbnjaaGreatDoor
open Go.RowKit
noncomputable section
def vu(ν:Nu)(h:Nat):Nat:=match ν h with
 | some (b,_)=>b
 | none=>0
def Q6(ν:Nu)(h c:Nat):Nat:=match Nat.blt c lP with
 | true=>c
 | false=>match ν h with
  | some (_,K)=>K-(c-lP)
  | none=>0
mutual
def mm(ν:Nu):Value -> Value
 | .pointer (some a)=>.pointer (some ⟨vu ν a.block,a.off,none⟩)
 | .slice (some a) n c=>.slice (some ⟨vu ν a.block,a.off,none⟩) n (Q6 ν a.block c)
 | .map (some h)=>.map (some (vu ν h))
 | .iface t v=>.iface t (mm ν v)
 | .agg c=>.agg (Iq ν c)
 | .tuple c=>.tuple (Iq ν c)
 | v=>v
def Iq(ν:Nu):Array Value -> Array Value
 | ⟨l⟩=>⟨Ir ν l⟩
def Ir(ν:Nu):List Value -> List Value
 | []=>[]
 | v::l=>mm ν v::Ir ν l
end
mutual
def rL:Value -> Bool
 | .iface _ v=>rL v
 | .func f a c=>pl (.func f a c)
 | .agg c=>Qp c
 | .tuple c=>Qp c
 | .chan _=>false
 | _=>true
def Qp:Array Value -> Bool
 | ⟨l⟩=>NU l
def NU:List Value -> Bool
 | []=>true
 | v::l=>match rL v with
  | true=>NU l
  | false=>false
end
theorem vv{ν:Nu}:∀ {l l':List Value},l.length=l'.length -> (∀ (i:Nat) (v v':Value),l[i]?=some v -> l'[i]?=some v' -> rL v=true -> v'=mm ν v) -> NU l=true -> l'=Ir ν l
 | [],[],_,_,_=>rfl
 | [],_::_,e,_,_=>by simp at e
 | _::_,[],e,_,_=>by simp at e
 | v::l,v'::l',e,h,ho=>by
  rw[NU] at ho;cases hv:rL v with
  | false=>rw[hv] at ho;cases ho
  | true =>
   rw[hv] at ho;have a1:=h 0 v v' rfl rfl hv;have a2:=vv (l:=l) (l':=l') (by simpa using e) (λ i a b h1 h2=>h (i+1) a b (by simpa using h1) (by simpa using h2)) ho;rw[Ir,<- a1,<- a2]
theorem Co{ν:Nu}{v v':Value}(h:VRi ν v v'):rL v=true -> v'=mm ν v:=by
 induction h with
 | atom v h =>
  intro _;cases v with
  | pointer a=>cases a with
   | none=>rfl
   | some a=>simp[cJ] at h
  | slice a n c=>cases a with
   | none=>rfl
   | some a=>simp[cJ] at h
  | map r=>cases r with
   | none=>rfl
   | some r=>simp[cJ] at h
  | iface t v=>simp[cJ] at h
  | agg c=>simp[cJ] at h
  | tuple c=>simp[cJ] at h
  | _=>rfl
 | ptr o h=>intro _;simp[mm,vu,h]
 | @slice hd b K c c' o n h hc =>
  intro _;simp only[mm,vu,Q6,h];congr 1;cases hb:Nat.blt c lP with
  | true=>exact hc.1 (Eq.mp Nat.blt_eq hb)
  | false =>
   have h2:=hc.2 (kP hb);simp only;omega
 | map h=>intro _;simp[mm,vu,h]
 | func hf e1 h1 e2 h2 _ _ =>
  intro ho;have:=VRi.plain_eq (VRi.func hf e1 h1 e2 h2) (by simpa only[rL] using ho);rw[this];rfl
 | iface t _ ih=>intro ho;rw[mm,<- ih (by simpa only[rL] using ho)]
 | @agg c c' e _ ih =>
  intro ho;obtain⟨l⟩:=c;obtain⟨l'⟩:=c';simp only[List.getElem?_toArray] at ih;rw[mm,Iq,vv (l:=l) (l':=l') e ih (by simpa only[rL,Qp] using ho)]
 | @tuple c c' e _ ih =>
  intro ho;obtain⟨l⟩:=c;obtain⟨l'⟩:=c';simp only[List.getElem?_toArray] at ih;rw[mm,Iq,vv (l:=l) (l':=l') e ih (by simpa only[rL,Qp] using ho)]
theorem Lb{ν:Nu}{l l':List Value}(h:LR ν l l'):NU l=true -> l'=l.map (mm ν):=by
 induction h with
 | nil=>intro _;rfl
 | @cons v v' l l' h _ ih =>
  intro ho;rw[NU] at ho;cases hv:rL v with
  | false=>rw[hv] at ho;cases ho
  | true =>
   rw[hv] at ho;rw[List.map_cons,Co h hv,ih ho]
abbrev PB:=Nat × List Value × TypeId
def Lc(H:AH)(p:PB):Bool:=match b7 H p.1 with
 | some (.cells n t ty _ _)=>match Nat.beq n (gq p.2.1),Nat.beq ty p.2.2 with
  | true,true=>match pR (gR t 0 n) p.2.1 with
   | true=>NU p.2.1
   | false=>false
  | _,_=>false
 | _=>false
def Cp(H:AH):List PB -> Bool
 | []=>true
 | p::l=>match Lc H p with
  | true=>Cp H l
  | false=>false
def oX(ν:Nu)(w:World)(p:PB):List Value:=match w.heap[vu ν p.1]? with
 | some (.cells c _ _)=>c.toList.drop p.2.1.length
 | _=>[]
def rM(ν:Nu)(rest:PB -> List Value)(p:PB):Nat × Blk:=(vu ν p.1,.lit (p.2.1.map (mm ν)++rest p) p.2.2 (0,0))
theorem Cq(l l':List Value)(h:pR l l'=true):l=l':=by
 induction l generalizing l' with
 | nil=>cases l' with
  | nil=>rfl
  | cons v l'=>simp[pR] at h
 | cons v l ih=>cases l' with
  | nil=>simp[pR] at h
  | cons v' l' =>
   rw[pR] at h;cases hv:sc v v' with
   | false=>rw[hv] at h;cases h
   | true=>rw[hv] at h;rw[AF _ _ hv,ih _ h]
theorem Iu{ν:Nu}{H:AH}{F:HL}{w:World}(hH:HR ν H F w){p:PB}(hc:Lc H p=true) :
  (∃K,ν p.1=some (vu ν p.1,K)) /\ (∃b,b7 H p.1=some b) /\ w.heap[vu ν p.1]?=some (rM ν (oX ν w) p).2.den:=by
 unfold Lc at hc;split at hc
 case h_2=>cases hc
 rename_i n t ty ww ro hb;split at hc
 case h_2=>cases hc
 rename_i e1 e2;have e1:=ab8 e1;have e2:=ab8 e2;split at hc
 case h_2=>cases hc
 rename_i e3;have e3:=Cq _ _ e3;obtain⟨r,K,o,h1,h2,h3⟩:=hH.blk _ _ hb;have hn:vu ν p.1=r:=by simp[vu,h1]
 have hcc:=hH.cells hb h1;obtain⟨c,ty',fz,g1,g2⟩:=hcc;refine⟨⟨K,by rw[hn];exact h1⟩,⟨_,hb⟩,?_⟩;rw[hn,g1];have hr:=jZ g2.le g2.get n 0 (by omega);rw[e3] at hr;have hl:=Lb hr hc;rw[ew] at e1;simp only[rM,Blk.den,oX,hn,g1,g2.ty,g2.fz,<- e2];congr 2;apply Array.ext';simp only;rw[<- hl,List.drop_zero,<- e1,acn]
def yo:List PB -> AH
 | []=>.lf
 | p::l=>cX (yo l) p.1 (some (.cells (gq p.2.1) (dS undef p.2.1 0 .lf) p.2.2 1 true))
def yp(tabs:List PB)(G:Nat):Nu:=λ h=>if h<G then some (h,match tabs.find? (λ p=>p.1 == h) with|some p=>p.2.1.length|none=>0) else none
def nZ(p:PB):Nat × Blk:=(p.1,.lit p.2.1 p.2.2 (0,0))
def yq(G:Nat):List PB -> Bool
 | []=>true
 | p::l=>match Nat.blt p.1 G,xB p.2.1,l.any (λ q=>q.1 == p.1) with
  | true,true,false=>yq G l
  | _,_,_=>false
end
noncomputable section
theorem Cr:∀ (tabs:List PB) (h:Nat),b7 (yo tabs) h=match tabs.find? (λ p=>p.1 == h) with
  | some p=>some (.cells (gq p.2.1) (dS undef p.2.1 0 .lf) p.2.2 1 true)
  | none=>none
 | [],h=>Aq _
 | p::l,h=>by
  rw[yo,dM,Cr l h]
  by_cases e:p.1=h
  ·rw[if_pos e,List.find?_cons_of_pos (by simpa using e)]
  ·rw[if_neg e,List.find?_cons_of_neg (by simpa using e)]
theorem l7{G:Nat}:∀ {tabs:List PB},yq G tabs=true -> ∀p∈tabs,p.1<G /\ xB p.2.1=true
 | [],_,p,hp=>by simp at hp
 | q::l,h,p,hp=>by
  rw[yq] at h;split at h
  ·rename_i h1 h2 h3;rcases List.mem_cons.1 hp with rfl|hp
   ·exact⟨Eq.mp Nat.blt_eq h1,h2⟩
   ·exact l7 h p hp
  ·cases h
theorem Cs:∀ {l:List Value},xB l=true -> ∀ {i:Nat} {v:Value},l[i]?=some v -> pl v=true
 | [],_,i,v,h=>by simp at h
 | x::l,hp,i,v,h=>by
  rw[xB] at hp;split at hp
  ·rename_i hx;cases i with
   | zero=>simp at h;rw[<- h];exact hx
   | succ i=>exact Cs hp (by simpa using h)
  ·cases hp
theorem oY{tabs:List PB}{h:Nat}{p:PB}(e:tabs.find? (λ p=>p.1 == h)=some p):p∈tabs /\ p.1=h :=
 ⟨List.mem_of_find?_eq_some e,by simpa using List.find?_some e⟩
section
variable {tabs picks:List PB} {G:Nat} {F:HL} {w:World}
theorem NV(ht:yq G tabs=true)(hR:Rel (tabs.map nZ++F) w):HR (yp tabs G) (yo tabs) F w:=by
 have key:∀h b,b7 (yo tabs) h=some b -> ∃p,tabs.find? (λ p=>p.1 == h)=some p /\ b=.cells (gq p.2.1) (dS undef p.2.1 0 .lf) p.2.2 1 true:=λ h b hb=>by
  rw[Cr] at hb;split at hb
  ·rename_i p hp;cases hb;exact⟨p,hp,rfl⟩
  ·cases hb
 refine⟨λ h b hb=>?_,λ h₁ h₂ b₁ b₂ r K₁ K₂ _ _ e1 e2=>?_,λ x hx=>hR.holds x (aav _ hx),λ h b r K hb e1 x hx=>?_⟩
 ·obtain⟨p,hp,rfl⟩:=key h b hb;obtain⟨hm,rfl⟩:=oY hp;obtain⟨iF,hpl⟩:=l7 ht p hm;refine⟨p.1,p.2.1.length,.cells ⟨p.2.1⟩ p.2.2 (0,0),by simp only[yp,if_pos iF,hp],?_,?_⟩
  ·exact hR.holds (nZ p) (aaw _ (List.mem_map.2 ⟨p,hm,rfl⟩))
  ·refine⟨rfl,by rw[ew];exact aa0 _,rfl,λ i hi=>?_,λ _=>by simp⟩;rw[ew] at hi;refine⟨p.2.1[i],by simp[hi],?_⟩;rw[lu hi];exact VRi.plain_refl _ (Cs hpl (abt hi))
 ·unfold yp at e1 e2;split at e1
  ·split at e2
   ·simp only[Option.some.injEq,Prod.mk.injEq] at e1 e2;rw[e1.1,e2.1]
   ·cases e2
  ·cases e1
 ·obtain⟨p,hp,rfl⟩:=key h b hb;obtain⟨hm,rfl⟩:=oY hp;have hr:r=p.1:=by
   unfold yp at e1;split at e1
   ·simp only[Option.some.injEq,Prod.mk.injEq] at e1;exact e1.1.symm
   ·cases e1
  intro e;have hn:=hR.nodup;rw[List.map_append,List.nodup_append] at hn;exact hn.2.2 p.1 (by rw[List.map_map];exact List.mem_map.2 ⟨p,hm,rfl⟩) x.1 (List.mem_map.2 ⟨x,hx,rfl⟩) (by rw[e,hr])
def Ld(H:AH)(p:PB):Bool:=match b7 H p.1 with
 | some (.cells n t ty ww _)=>match Nat.beq n (gq p.2.1),Nat.beq ty p.2.2,Nat.beq ww 1 with
  | true,true,true=>pR (gR t 0 n) p.2.1
  | _,_,_=>false
 | _=>false
def Ct(H:AH):List PB -> Bool
 | []=>true
 | p::l=>match Ld H p with
  | true=>Ct H l
  | false=>false
theorem t6{H:AH}:∀ {l:List PB},Ct H l=true -> ∀p∈l,Ld H p=true
 | [],_,p,hp=>by simp at hp
 | q::l,h,p,hp=>by
  rw[Ct] at h;split at h
  ·rename_i h1;rcases List.mem_cons.1 hp with rfl|hp
   ·exact h1
   ·exact t6 h p hp
  ·cases h
theorem t7{H:AH}:∀ {l:List PB},Cp H l=true -> ∀p∈l,Lc H p=true
 | [],_,p,hp=>by simp at hp
 | q::l,h,p,hp=>by
  rw[Cp] at h;split at h
  ·rename_i h1;rcases List.mem_cons.1 hp with rfl|hp
   ·exact h1
   ·exact t7 h p hp
  ·cases h
theorem LR.plain_eq{ν:Nu}{l l':List Value}(h:LR ν l l'):xB l=true -> l'=l:=by
 induction h with
 | nil=>intro _;rfl
 | @cons v v' l l' h _ ih =>
  intro hp;rw[xB] at hp;split at hp
  ·rename_i hv;rw[VRi.plain_eq h hv,ih hp]
  ·cases hp
theorem Lf{ν:Nu}{H:AH}(hH:HR ν H F w){p:PB}(hc:Ld H p=true)(hp:xB p.2.1=true)(hν:ν p.1=some (p.1,p.2.1.length)):w.heap[p.1]?=some (nZ p).2.den /\ ∃b,b7 H p.1=some b:=by
 unfold Ld at hc;split at hc
 case h_2=>cases hc
 rename_i n t ty ww ro hb;split at hc
 case h_2=>cases hc
 rename_i e1 e2 e3;have e1:=ab8 e1;have e2:=ab8 e2;have e3:=ab8 e3;have e4:=Cq _ _ hc;obtain⟨c,ty',fz,g1,g2⟩:=hH.cells hb hν;refine⟨?_,_,hb⟩;have hr:=jZ g2.le g2.get n 0 (by omega);rw[e4] at hr;have hl:=hr.plain_eq hp;have IT:=g2.gr (by omega);rw[e3,Nat.mul_one] at IT;rw[ew] at e1;rw[g1,g2.ty,g2.fz,e2];simp only[nZ,Blk.den];congr 2;apply Array.ext';rw[List.drop_zero] at hl;rw[<- hl,List.take_of_length_le];have:c.toList.length=c.size:=rfl;omega
theorem rN:∀ {l:List PB},(l.map (·.1)).Nodup -> ∀ {p q:PB},p∈l -> q∈l -> q.1=p.1 -> q=p
 | [],_,p,q,hp,_,_=>by simp at hp
 | x::l,hd,p,q,hp,hq,e=>by
  simp only[List.map_cons,List.nodup_cons] at hd;rcases List.mem_cons.1 hp with h1|h1 <;> rcases List.mem_cons.1 hq with h2|h2
  ·rw[h1,h2]
  ·exact absurd (List.mem_map.2 ⟨q,h2,by rw[e,h1]⟩) hd.1
  ·exact absurd (List.mem_map.2 ⟨p,h1,by rw[<- e,h2]⟩) hd.1
  ·exact rN hd.2 h1 h2 e
def NW(tabs picks:List PB)(v0:Value):Option Rs -> Bool
 | some (.fn v H _)=>match sc v v0,rL v0,Ct H tabs with
  | true,true,true=>Cp H picks
  | _,_,_=>false
 | _=>false
theorem LR.plain_refl{ν:Nu}:∀ {l:List Value},xB l=true -> LR ν l l
 | [],_=>.nil
 | v::l,h=>by
  rw[xB] at h;split at h
  ·rename_i hv;exact .cons (VRi.plain_refl v hv) (LR.plain_refl h)
  ·cases h
theorem t8{P:Program}(hm:P.follows .mixedOrders=true){k n0:Nat}{f:FuncId}{args:List Value}{v0:Value}(hG:Nat.ble G n0=true)(ht:yq G tabs=true)(ha:xB args=true)
  (Tl:(tabs.map (·.1)++picks.map (·.1)).Nodup) (iD:NW tabs picks v0 (Ip P G k (.fn f args (yo tabs) n0))=true) :
  Sp P f ⟨args⟩ (tabs.map nZ) F λ v' H'=>∃ν rest,v'=mm ν v0 /\ H'=tabs.map nZ++picks.map (rM ν rest):=by
 intro w hR;have hG:=bW hG;cases S8:Ip P G k (.fn f args (yo tabs) n0) with
 | none=>rw[S8] at iD;cases iD
 | some res=>cases res with
  | cd e s=>rw[S8] at iD;cases iD
  | fn v H n' =>
   rw[S8] at iD;simp only[NW] at iD;split at iD
   case h_2=>cases iD
   rename_i q1 q2 q3;rw[Cn] at S8;obtain⟨hn,Sq⟩:=B9 hm k _ _ S8;have iF:∀p∈tabs,p.1<G:=λ p hp=>(l7 ht p hp).1;refine(Sq (yp tabs G) F w args (λ k hk=>⟨_,if_pos hk⟩) (λ h h1 h2=>by simp only[yp];rw[if_neg (by omega)]) (NV ht hR) (LR.plain_refl ha)).mono ?_;rintro e w' ⟨ν,v',rfl,hv,afd,hH,aft⟩;rw[AF _ _ q1] at hv;have hνt:∀p∈tabs,ν p.1=yp tabs G p.1:=λ p hp=>afd.out _ (.inl (by have:=iF p hp;omega));have V1:∀p∈tabs,ν p.1=some (p.1,p.2.1.length):=λ p hp=>by
    rw[hνt p hp];simp only[yp,if_pos (iF p hp)];congr 2;have hd:(tabs.map (·.1)).Nodup:=(List.nodup_append.1 Tl).1;cases hf:tabs.find? (λ q=>q.1 == p.1) with
    | none=>exact absurd (List.find?_eq_none.1 hf p hp) (by simp)
    | some q =>
     obtain⟨hq,RI⟩:=oY hf;have:q=p:=rN hd hp hq RI;simp[this]
   have aaQ:∀p∈tabs,w'.heap[p.1]?=some (nZ p).2.den /\ ∃b,b7 H p.1=some b:=λ p hp=>Lf hH (t6 q3 p hp) (l7 ht p hp).2 (V1 p hp);have hpk:∀p∈picks,(∃K,ν p.1=some (vu ν p.1,K)) /\ (∃b,b7 H p.1=some b) /\ w'.heap[vu ν p.1]?=some (rM ν (oX ν w') p).2.den:=λ p hp=>Iu hH (t7 iD p hp);refine⟨v',tabs.map nZ++picks.map (rM ν (oX ν w')),rfl,⟨ν,oX ν w',Co hv q2,rfl⟩,⟨?_,?_⟩,aft⟩
   ·intro x hx;rcases List.mem_append.1 hx with hx|hx
    ·rcases List.mem_append.1 hx with hx|hx
     ·obtain⟨p,hp,rfl⟩:=List.mem_map.1 hx;exact(aaQ p hp).1
     ·obtain⟨p,hp,rfl⟩:=List.mem_map.1 hx;exact(hpk p hp).2.2
    ·exact hH.frm x hx
   ·-- the abV blocks
    have ID:∀h∈tabs.map (·.1)++picks.map (·.1),∃K b,ν h=some (vu ν h,K) /\ b7 H h=some b:=λ h hh=>by
     rcases List.mem_append.1 hh with hh|hh
     ·obtain⟨p,hp,rfl⟩:=List.mem_map.1 hh;obtain⟨b,hb⟩:=(aaQ p hp).2;exact⟨p.2.1.length,b,by simp[vu,V1 p hp],hb⟩
     ·obtain⟨p,hp,rfl⟩:=List.mem_map.1 hh;obtain⟨⟨K,h1⟩,⟨b,hb⟩,-⟩:=hpk p hp;exact⟨K,b,h1,hb⟩
    have e1:(tabs.map nZ++picks.map (rM ν (oX ν w'))).map (·.1)=(tabs.map (·.1)++picks.map (·.1)).map (vu ν):=by
     simp only[List.map_append,List.map_map];congr 1;apply List.map_congr_left;intro p hp;simp[nZ,vu,V1 p hp]
    rw[List.map_append,List.nodup_append,e1];refine⟨?_,?_,λ a ha b hb=>?_⟩
    ·rw[List.Nodup,List.pairwise_map];refine(List.pairwise_iff_forall_sublist.2 λ {a b} hs=>?_);have ha':=ID a (hs.subset (by simp));have SK:=ID b (hs.subset (by simp));obtain⟨K1,b1,x1,x2⟩:=ha';obtain⟨K2,b2,y1,y2⟩:=SK;intro e;have hab:a=b:=hH.inj _ _ _ _ _ _ _ x2 y2 x1 (by rw[e];exact y1);have:=Tl.sublist hs;simp[hab] at this
    ·have:=hR.nodup;rw[List.map_append,List.nodup_append] at this;exact this.2.1
    ·obtain⟨h,hh,rfl⟩:=List.mem_map.1 ha;obtain⟨x,hx,rfl⟩:=List.mem_map.1 hb;obtain⟨K,b,g1,g2⟩:=ID h hh;exact(hH.apt _ _ _ _ g2 g1 x hx).symm
end
end
theorem Iv{P:Program}{f:FuncId}{args:Array Value}{x:Nat × Blk}{F:HL}{Q:Value -> HL -> Prop}(hx:x∈F)(h:∀F0,Sp P f args [x] F0 λ u H'=>∃Hp,Q u Hp /\ H'=[x]++Hp):Sp P f args [] F Q:=by
 obtain⟨l1,l2,rfl⟩:=List.append_of_mem hx;have hp:∀H:HL,([x]++H++(l1++l2)).Perm (H++(l1++x::l2)):=λ H=>by
  refine List.Perm.trans ?_ (List.Perm.append_left H List.perm_middle.symm);show (x::(H++(l1++l2))).Perm (H++x::(l1++l2));exact List.perm_middle.symm
 intro w hR;have Xl:Rel ([x]++(l1++l2)) w:=hR.perm (by have:=hp [];simpa using this);refine(h (l1++l2) w Xl).mono ?_;rintro e w' ⟨v,H',he,⟨Hp,hq,rfl⟩,D_,hb⟩;exact⟨v,Hp,he,hq,D_.perm (hp Hp).symm,hb⟩
noncomputable section
def iv(x:Int):Value:=.int .i64 x
def vw:List Value:=[iv 0,iv 0,iv 0,iv 1,iv 0,iv 1,iv 1,iv 0,iv 1,iv 1,iv 2,iv 0,iv 0,iv 1,iv 0,iv 1,iv 0,iv 1,iv 2,iv 1,iv 2,iv 1,iv 2,iv 1,iv 2,iv 1,iv 1,iv 1,iv 2,iv 1,iv 2,iv 1,iv 2,iv 1,iv 1,iv 1,iv 0,iv 0,iv 1,iv 0,iv 2,iv 0,iv 0,iv 0]
def mF:List PB:=[(0,vw,270)]
def PJ:String:="on tick { n = n + 1; if n >= 3 { effect 1, n; n = 0; } }"
def PK:String:="on act { vx[self] = vx[self] + 100 * other; effect 2, self; } on hit { a[self] = a[self] + 1; effect 3, other; }"
def PL:String:="on hit { if hit[other] == self + 1 && a[self] < a[other] { vx[self] = -vx[self]; b[self] = tick; } else { stop; } effect 4, a[self]; }"
def PM:String:="on tick { i = 0; while i < 4 { b[i] = b[i] + still[i]; i = i + 1; } s = s + x[0] / 100; effect 5, s; } on act { s = 0; }"
def PN:List Value:=[iv 2,iv 0,iv 1,iv 1,iv 9,iv 0,iv 3,iv 0,iv 1,iv 3,iv 2,iv 0,iv 15,iv 0,iv 19,iv 14,iv 1,iv 1,iv 2,iv 0,iv 20,iv 0,iv 1,iv 0,iv 3,iv 0,iv 18,iv 14,iv 21,iv 0]
def PO:List Value:=[iv 6,iv 0,iv 6,iv 0,iv 4,iv 2,iv 1,iv 100,iv 7,iv 0,iv 11,iv 0,iv 9,iv 0,iv 5,iv 2,iv 1,iv 2,iv 6,iv 0,iv 20,iv 0,iv 21,iv 0,iv 6,iv 0,iv 6,iv 0,iv 4,iv 4,iv 1,iv 1,iv 9,iv 0,iv 5,iv 4,iv 1,iv 3,iv 7,iv 0,iv 20,iv 0,iv 21,iv 0]
def PP:List Value:=[iv 7,iv 0,iv 4,iv 6,iv 6,iv 0,iv 1,iv 1,iv 9,iv 0,iv 16,iv 0,iv 19,iv 13,iv 6,iv 0,iv 4,iv 4,iv 7,iv 0,iv 4,iv 4,iv 14,iv 0,iv 18,iv 14,iv 1,iv 0,iv 19,iv 24,iv 6,iv 0,iv 6,iv 0,iv 4,iv 2,iv 13,iv 0,iv 5,iv 2,iv 6,iv 0,iv 8,iv 0,iv 5,iv 5,iv 18,iv 25,iv 21,iv 0,iv 1,iv 4,iv 6,iv 0,iv 4,iv 4,iv 20,iv 0,iv 21,iv 0]
def PQ:List Value:=[iv 1,iv 0,iv 3,iv 0,iv 21,iv 0,iv 1,iv 0,iv 3,iv 1,iv 2,iv 1,iv 1,iv 4,iv 14,iv 0,iv 19,iv 21,iv 2,iv 1,iv 2,iv 1,iv 4,iv 5,iv 2,iv 1,iv 4,iv 7,iv 9,iv 0,iv 5,iv 5,iv 2,iv 1,iv 1,iv 1,iv 9,iv 0,iv 3,iv 1,iv 18,iv 5,iv 2,iv 0,iv 1,iv 0,iv 4,iv 0,iv 1,iv 100,iv 12,iv 0,iv 9,iv 0,iv 3,iv 0,iv 1,iv 5,iv 2,iv 0,iv 20,iv 0,iv 21,iv 0]
def EE(h len:Nat)(a b c:Int):Value:=.tuple ⟨[.agg ⟨[.slice (some ⟨h,0,none⟩) len lP,iv a,iv b,iv c]⟩,iv 0]⟩
def Q7:Value:=.tuple ⟨[.agg ⟨[.slice none 0 0,iv (-1),iv (-1),iv (-1)]⟩,iv 0]⟩
def ua(src:String)(picks:List PB)(v:Value):Bool:=NW mF picks v (Ip Tryz.prog 3 100000 (.fn 70 [.string src.toUTF8] (yo mF) 3))
theorem mixed:Tryz.prog.follows .mixedOrders=true:=by kernel_rfl
theorem qn{src:String}{h:Nat}{cod:List Value}{ty:TypeId}{v:Value}{F:HL}(hh:h≠0)(hq:ua src [(h,cod,ty)] v=true) :
  Sp Tryz.prog 70 #[.string src.toUTF8] (mF.map nZ) F λ v' H'=>∃ν rest,v'=mm ν v /\ H'=mF.map nZ++[rM ν rest (h,cod,ty)] :=
 t8 (G:=3) (tabs:=mF) (picks:=[(h,cod,ty)]) mixed rfl rfl rfl (by simp[mF,hh.symm]) hq
theorem Lg:ua "" [] Q7=true:=by kernel_rfl
end
theorem Lh:ua PJ [(1095,PN,231)] (EE 1095 15 (-1) 0 (-1))=true:=by kernel_rfl
theorem Li:ua PK [(1804,PO,231)] (EE 1804 22 0 (-1) 12)=true:=by kernel_rfl
theorem Lj:ua PL [(2348,PP,231)] (EE 2348 30 (-1) (-1) 0)=true:=by kernel_rfl
theorem Lk:ua PM [(2279,PQ,231)] (EE 2279 32 0 3 (-1))=true:=by kernel_rfl
noncomputable section
def pG:Nat -> ByteArray
 | 0=>"".toUTF8
 | 1=>PJ.toUTF8
 | 2=>PK.toUTF8
 | 3=>PL.toUTF8
 | _=>PM.toUTF8
def Iw:Nat -> List Value
 | 0=>[]
 | 1=>PN
 | 2=>PO
 | 3=>PP
 | _=>PQ
def fQ:Nat -> Nat
 | 0=>0
 | 1=>15
 | 2=>22
 | 3=>30
 | _=>32
def Ll:Nat -> List Value
 | 0=>[iv (-1),iv (-1),iv (-1)]
 | 1=>[iv (-1),iv 0,iv (-1)]
 | 2=>[iv 0,iv (-1),iv 12]
 | 3=>[iv (-1),iv (-1),iv 0]
 | _=>[iv 0,iv 3,iv (-1)]
inductive PrgV(j:Nat):Value -> HL -> Prop
 | nil:j=0 -> PrgV j (.slice none 0 0) []
 | some (b cap:Nat) (rest:List Value):PrgV j (.slice (some ⟨b,0,none⟩) (fQ j) cap) [(b,.lit (Iw j++rest) 231 (0,0))]
theorem l8(ν:Nu)(h len:Nat)(a b c:Int):mm ν (EE h len a b c)=.tuple ⟨[.agg ⟨[.slice (some ⟨vu ν h,0,none⟩) len (Q6 ν h lP),iv a,iv b,iv c]⟩,iv 0]⟩:=by
 simp only[EE,mm,Iq,Ir,iv]
theorem Iy{j:Nat}(hj:j<5){F:HL}:Sp Tryz.prog 70 #[.string (pG j)] (mF.map nZ) F λ u H'=>∃s Hp,PrgV j s Hp /\ u=.tuple ⟨[.agg ⟨s::Ll j⟩,iv 0]⟩ /\ H'=mF.map nZ++Hp:=by
 match j,hj with
 | 0,_ =>
  refine(t8 (G:=3) (tabs:=mF) (picks:=[]) mixed rfl rfl rfl (by simp[mF]) Lg).mono ?_;rintro u H' ⟨ν,rest,rfl,rfl⟩;exact⟨_,[],.nil rfl,rfl,rfl⟩
 | 1,_ =>
  refine(qn (by decide) Lh).mono ?_;rintro u H' ⟨ν,rest,rfl,rfl⟩;exact⟨_,_,.some _ _ _,l8 ..,rfl⟩
 | 2,_ =>
  refine(qn (by decide) Li).mono ?_;rintro u H' ⟨ν,rest,rfl,rfl⟩;exact⟨_,_,.some _ _ _,l8 ..,rfl⟩
 | 3,_ =>
  refine(qn (by decide) Lj).mono ?_;rintro u H' ⟨ν,rest,rfl,rfl⟩;exact⟨_,_,.some _ _ _,l8 ..,rfl⟩
 | 4,_ =>
  refine(qn (by decide) Lk).mono ?_;rintro u H' ⟨ν,rest,rfl,rfl⟩;exact⟨_,_,.some _ _ _,l8 ..,rfl⟩
theorem Lm{j:Nat}(hj:j<5){F:HL}(hF:(0,Blk.lit vw 270 (0,0))∈F):Sp Tryz.prog 70 #[.string (pG j)] [] F λ u H'=>∃s,PrgV j s H' /\ u=.tuple ⟨[.agg ⟨s::Ll j⟩,iv 0]⟩ :=
 Iv hF λ F0=>(Iy hj).mono λ u H' ⟨s,Hp,h1,h2,h3⟩=>⟨Hp,⟨s,h1,h2⟩,h3⟩
end
def cr(j k:Nat):Int:=match (Ll j)[k]? with|some (.int _ x)=>x|_=>0
def Ml:List Value -> List Ins
 | .int _ a :: .int _ b::r=>⟨a,b⟩::Ml r
 | _=>[]
def kC(j:Nat):List Ins:=Ml (Iw j)
theorem yr:∀ {j:Nat},j<5 -> (kC j).length=fQ j
 | 0,_=>by kernel_rfl
 | 1,_=>by kernel_rfl
 | 2,_=>by kernel_rfl
 | 3,_=>by kernel_rfl
 | 4,_=>by kernel_rfl
 | j+5,h=>absurd h (by omega)
theorem AM:∀ {j:Nat},j<5 -> Iw j=ar kU (kC j)
 | 0,_=>by kernel_rfl
 | 1,_=>by kernel_rfl
 | 2,_=>by kernel_rfl
 | 3,_=>by kernel_rfl
 | 4,_=>by kernel_rfl
 | j+5,h=>absurd h (by omega)
theorem vz:∀ {j:Nat},j<5 -> fQ j <= 32
 | 0,_=>by decide
 | 1,_=>by decide
 | 2,_=>by decide
 | 3,_=>by decide
 | 4,_=>by decide
 | j+5,h=>absurd h (by omega)
theorem Ln:∀ {j:Nat},j<5 -> Ll j=[vI (cr j 0),vI (cr j 1),vI (cr j 2)]
 | 0,_=>by kernel_rfl
 | 1,_=>by kernel_rfl
 | 2,_=>by kernel_rfl
 | 3,_=>by kernel_rfl
 | 4,_=>by kernel_rfl
 | j+5,h=>absurd h (by omega)
abbrev pH(F:HL):Prop:=(0,Blk.lit vw 270 (0,0))∈F
def Q8(F:HL)(j:Nat)(A:Option Addr):Prop:=0<fQ j -> ∃b rest,A=some ⟨b,0,none⟩ /\ (b,Blk.lit (Iw j++rest) 231 (0,0))∈F
structure CodT(j:Nat)(A:Option Addr)(T:HL):Prop where
 src:∀F,(∀x∈T,x∈F) -> SrcIn Tryz.prog kU F A (fQ j) (kC j)
 wrd:∀F,(∀x∈T,x∈F) -> Q8 F j A
theorem Iz{j:Nat}(hj:j<5)(F:HL)(hE:pH F):Sp Tryz.prog 70 #[.string (pG j)] (ap [] []) F (λ u H'=>∃x:Option Addr × Nat × HL,H'=ap [] [x.2.2] /\ (u=.tuple #[.agg #[.slice x.1 (fQ j) x.2.1,vI (cr j 0),vI (cr j 1),vI (cr j 2)],vI 0] /\ CodT j x.1 x.2.2)):=by
 refine(Lm hj hE).mono ?_;rintro u H' ⟨s,hp,rfl⟩;rw[Ln hj];cases hp with
 | nil h0 =>
  subst h0;exact⟨(none,0,[]),(bj _).symm,rfl,⟨λ F hF=>SrcIn.none,λ F hF h=>absurd h (by decide)⟩⟩
 | some b cap rest =>
  refine⟨(some ⟨b,0,none⟩,cap,[(b,.lit (Iw j++rest) 231 (0,0))]),(bj _).symm,rfl,⟨λ F hF=>?_,λ F hF h=>⟨b,rest,rfl,hF _ (List.mem_singleton.2 rfl)⟩⟩⟩;have h:=SrcIn.lit F6 (xs:=kC j) (rest:=rest) (ty:=231) (fz:=(0,0)) (F:=F) (q:=b) (by rw[<- AM hj];exact hF _ (List.mem_singleton.2 rfl));rw[yr hj] at h;exact h
inductive Book1(j bp:Nat):HL -> Prop
 | mk (q:Nat) (A:Option Addr) (c:Nat) (T:HL) (h:CodT j A T):Book1 j bp (ap [(bp,.lit [vS q 0 1 1] 149 (0,0)),(q,.lit [vI 0,.slice A (fQ j) c,vI (cr j 0),vI (cr j 1),vI (cr j 2)] 146 (0,0))] [T])
def PT:List Value:=[.string ⟨#[]⟩,.string ⟨#[111,110,32,116,105,99,107,32,123,32,110,32,61,32,110,32,43,32,49,59,32,105,102,32,110,32,62,61,32,51,32,123,32,101,102,102,101,99,116,32,49,44,32,110,59,32,110,32,61,32,48,59,32,125,32,125]⟩,.string ⟨#[111,110,32,97,99,116,32,123,32,118,120,91,115,101,108,102,93,32,61,32,118,120,91,115,101,108,102,93,32,43,32,49,48,48,32,42,32,111,116,104,101,114,59,32,101,102,102,101,99,116,32,50,44,32,115,101,108,102,59,32,125,32,111,110,32,104,105,116,32,123,32,97,91,115,101,108,102,93,32,61,32,97,91,115,101,108,102,93,32,43,32,49,59,32,101,102,102,101,99,116,32,51,44,32,111,116,104,101,114,59,32,125]⟩,.string ⟨#[111,110,32,104,105,116,32,123,32,105,102,32,104,105,116,91,111,116,104,101,114,93,32,61,61,32,115,101,108,102,32,43,32,49,32,38,38,32,97,91,115,101,108,102,93,32,60,32,97,91,111,116,104,101,114,93,32,123,32,118,120,91,115,101,108,102,93,32,61,32,45,118,120,91,115,101,108,102,93,59,32,98,91,115,101,108,102,93,32,61,32,116,105,99,107,59,32,125,32,101,108,115,101,32,123,32,115,116,111,112,59,32,125,32,101,102,102,101,99,116,32,52,44,32,97,91,115,101,108,102,93,59,32,125]⟩,.string ⟨#[111,110,32,116,105,99,107,32,123,32,105,32,61,32,48,59,32,119,104,105,108,101,32,105,32,60,32,52,32,123,32,98,91,105,93,32,61,32,98,91,105,93,32,43,32,115,116,105,108,108,91,105,93,59,32,105,32,61,32,105,32,43,32,49,59,32,125,32,115,32,61,32,115,32,43,32,120,91,48,93,32,47,32,49,48,48,59,32,101,102,102,101,99,116,32,53,44,32,115,59,32,125,32,111,110,32,97,99,116,32,123,32,115,32,61,32,48,59,32,125]⟩]
def NX:Nat -> Nat -> Value:=λ i k=>match k with|0=>.string (pG i)|_=>default
theorem yt(F:HL):Sp Tryz.prog 71 #[] (ap [] []) F (λ u H'=>∃q:Nat,H'=ap [(q,.lit PT 9 (0,0))] [] /\ u=vS q 0 5 5):=by
 refine aat Tryz.func71 rfl mn (A:=[]) (Ts:=[]) rfl λ w0=>?_;refine ae 11 [] λ n1=>aap [] [0] [] (v:=vS (n1+0) 0 5 5) (H':=(ap [((n1+0),.lit PT 9 (0,0))] [])) ?_;exact⟨_,rfl,rfl⟩
theorem rO(n:Int)(F:HL)(hn:mh n):Sp Tryz.prog 42 #[vI n] [] F (λ u H'=>u=.string (pG (aq n 5).toNat) /\ H'=[]):=by
 refine aat Tryz.func42 rfl mn (A:=[]) (Ts:=[]) rfl λ w0=>?_;refine ae 7 [] λ _=>aai (Hp:=[]) (Tp:=[]) [] [] (yt _) ?_;rintro _ q1 rfl;refine ae 1 [] λ _=>aah (fJ n 5 (by decide) _) ?_;have hA2:=b8 (n:=n) hn 5 (by decide);refine aaj 0 (.rows 1 5 NX 9 (0,0))<|aj 5 [.ix ((aq n 5).toNat),.row 0 ((aq n 5).toNat) 0] [(0+((aq n 5).toNat)*1)=((aq n 5).toNat)*1+0 /\ ((aq n 5).toNat)<5,aq n 5=(((aq n 5).toNat:Nat):Int) /\ (aq n 5).toNat<5] λ _=>?_;exact aap [] [] [] ⟨rfl,rfl⟩
theorem IA(j:Nat)(F:HL)(hj:j<5)(hE:pH F):Sp Tryz.prog 41 #[.string (pG j)] (ap [] []) F (λ u H'=>∃x:Nat × HL,H'=ap [] [x.2] /\ (u=.tuple #[vP x.1 0,vI 0] /\ Book1 j x.1 x.2)):=by
 refine aat Tryz.func41 rfl mn (A:=[]) (Ts:=[]) rfl λ w0=>?_;refine ae 9 [] λ _=>aai (Hp:=[]) (Tp:=[]) [] [] (Iz hj _ (az hE)) ?_;rintro _ ⟨A1,c2,T3⟩ ⟨rfl,hC4⟩;dsimp only at hC4;refine ae 29 (ow 0 8) λ n5=>aap [] [0,1] [0] (v:=.tuple #[vP (n5+2) 0,vI 0]) (H':=(ap [((n5+2),.lit [vS (n5+1) 0 1 1] 149 (0,0)),((n5+1),.lit [vI 0,.slice A1 (fQ j) c2,vI (cr j 0),vI (cr j 1),vI (cr j 2)] 146 (0,0))] [T3])) ?_;exact⟨((n5+2),ap [((n5+2),.lit [vS (n5+1) 0 1 1] 149 (0,0)),((n5+1),.lit [vI 0,.slice A1 (fQ j) c2,vI (cr j 0),vI (cr j 1),vI (cr j 2)] 146 (0,0))] [T3]),by simp[ap],rfl,.mk _ _ _ _ hC4⟩
open Go.Shelf
theorem IB(c0 c1 c2 c3 c4:Value)(F:HL):SpD Tryz.prog 81 #[c0,c1,c2,c3,c4] [] F (λ _ H'=>H'=[]):=by
 intro w hR;refine callsDIn_of_wpSIn (F:=Wr none) (n:=0) Tryz.func81 rfl trivial λ c₀ cs hu=>?_;have WX:recoverD (c₀::cs)=none:=by simp[recoverD,hu]
 refine wpSIn_seq (wpSIn_region ?_);show wpOpsSIn _ _ _ _ _ [0,1] _ _ _;simp only[wpOpsSIn,List.getElem?_toArray,List.getElem?_cons_zero,List.getElem?_cons_succ];simp[wpOpsSIn,go_sem,WX,Tryz.ntmps81,Exit.thenS];refine wpSIn_cond (t:=false) (by simp[Act.eval,Array.replicate]) ?_;refine wpSIn_of_wpIn rfl ?_;refine wpIn_skip ?_;simp[bodyPostS,results,Tryz.results81,hu];exact⟨.returning,by cases c₀;simp at hu;subst hu;rfl,hu ▸ rfl,hR,Below.refl _ _⟩
abbrev gE(S:Setup)(j:Nat × Int)(n:Nat)(xs:List Inp):Gm:=⟨S,none,fQ j.1,0,cr j.1 0,cr j.1 1,cr j.1 2,j.2,0,0,n,0,0,xs,kC j.1⟩
def AtOk(F:HL)(bp:Nat)(t:Int)(j:Nat × Int):Prop:=∀F',(∀x∈F,x∈F') -> Sp Tryz.prog 106 #[vP bp 0,vI t] (ap [] []) F' (λ u H'=>∃x:Option Addr × Nat × HL,H'=ap [] [x.2.2] /\ (u=.tuple #[vI j.2,.agg #[.slice x.1 (fQ j.1) x.2.1,vI (cr j.1 0),vI (cr j.1 1),vI (cr j.1 2)]] /\ ClS kU 231 (kC j.1) x.1 x.2.1 x.2.2))
theorem AtOk.mono{F F':HL}{bp:Nat}{t:Int}{j:Nat × Int}(h:AtOk F bp t j)(hs:∀x∈F,x∈F'):AtOk F' bp t j:=λ F2 h2=>h F2 λ x hx=>h2 x (hs x hx)
abbrev PU(x:Eff × Bool):Array Value:=#[.agg #[vI x.1.t,vI x.1.i,vI x.1.k,vI x.1.v,.bool x.2]]
theorem ClS.code{j:Nat}(hj:j<5){A:Option Addr}{c:Nat}{Hl F:HL}(h:ClS kU 231 (kC j) A c Hl)(hF:∀x∈Hl,x∈F):CodeIn F (kC j) A (fQ j):=by
 have hl:=yr hj;have hb:=vz hj;obtain⟨A0,h⟩:=h;rcases h with ⟨h1,rfl,rfl,rfl⟩|⟨b,rfl,rfl,h3⟩
 ·rw[h1] at hl;rw[<- hl];exact .nil _
 ·exact .mk b c _ (hF _ (List.mem_singleton.2 rfl)) (by rw[<- hl];exact h3) (by omega)
theorem vA{S:Setup}{A:Option Addr}{j:Nat × Int}{c ib io n ic N:Nat}{full xs:List Inp}(hx:∀k,k<n -> full.getD (io+k) dI=xs.getD k dI):GEq ⟨S,A,fQ j.1,c,cr j.1 0,cr j.1 1,cr j.1 2,j.2,ib,io,n,ic,N,full,kC j.1⟩ (gE S j n xs) :=
 ⟨rfl,λ k hk=>(hx k hk).trans (by rw[Nat.zero_add])⟩
theorem oa{g g0:Gm}(e:GEq g g0)(mb:Nat)(M:MemS)(k:Nat)(T F:HL)(hM:MemH mb M (k+20) T)(hg:GmIn F g)(h0:Gh M)(ZF:Int)(Yq:g.version=ZF):Sp Tryz.prog 107 #[.iface 113 (vP mb 0),.agg #[vI g.S.players,vS g.S.bb (g.S.bo*9) g.S.nb g.S.bc,vI g.S.box.x0,vI g.S.box.y0,vI g.S.box.x1,vI g.S.box.y1,.slice g.S.rA g.S.rn g.S.rc,.slice g.S.dA g.S.dn g.S.dc,vI g.S.fog,vI g.S.g.x,vI g.S.g.y,vI g.S.push,vI g.S.drag,vI g.S.rest,vI g.S.rounds,vI g.S.fuel],.agg #[.slice g.cA g.cn g.cc,vI g.e0,vI g.e1,vI g.e2],vI ZF,vS g.ib (g.io*3) g.ni g.ic] (ap [] [T]) F (λ u H'=>∃x,H'=ap [] [x] /\ (MemH mb (ji g0 M) k x /\ u=.tuple #[.bool (jh g0 M),.agg (aaa (eU g0 M).e).toArray,.bool ((eU g0 M).em)])):=by
 have h:=Dt g mb M k T F hM hg h0 ZF Yq;rwa [ji,Gu e,uQ e] at h
theorem Lo(S:Setup)(bp gb mb q1 q2 ib io N ni ic m k:Nat)(j:Nat × Int)(full xs:List Inp)(M:MemS)(F:HL)(hj:j.1<5)(hA:AtOk F bp (M.get 0) j)(hg:(gb,.lit (dC S bp mb) 121 (0,0))∈F)(h1:(q1,.lit [vP gb 0] 97 (0,0))∈F)(h2:(q2,.lit [vS ib (io*3) ni ic] 38 (0,0))∈F)(hS:SetIn F S)(hE:cG F)(hI:(ib,.rows 3 N (kK full) 40 (0,0))∈F)(hir:io+ni <= N /\ ni <= 1000000)(hx:∀k,k<ni -> full.getD (io+k) dI=xs.getD k dI)(T:HL)(hM:MemH mb M (k+20*m+20) T)(h0:0 <= M.get 0)(S5:dV (gE S j ni xs) (m+1) M)(lp:Nat)(X:HL)(J:Nat -> HL -> Prop)(Jx:HL -> Prop)(T0:HL)(hY:∀i x H Y,(i5 (gE S j ni xs) (m+1) M)[i]?=some x -> J i H -> YL Tryz.prog lp (PU x) H (Y++(X++F)) (λ b H'=>(b=true /\ J (i+1) H') \/ (b=false /\ Jx H')))(Ue:J 0 T0):Sp Tryz.prog 105 #[.func (.yield lp) #[] #[],vP q1 0,vP q2 0] (ap [] [T0,T]) (X++F) (λ _ H'=>∃x:HL × HL,H'=ap [] [x.1,x.2] /\ ((J (i5 (gE S j ni xs) (m+1) M).length x.1 /\ MemH mb (fU (gE S j ni xs) (m+1) M) k x.2) \/ Jx x.1)):=by
 have WD:=aav X hg;have X4:=aav X h1;have R5:=aav X h2;have hS_:SetIn (X++F) S:=hS.up;have X0:cG (X++F):=aav X hE;have S6:=aav X hI;have hA_:AtOk (X++F) bp (M.get 0) j:=hA.mono λ x hx=>aav X hx;refine aat Tryz.func105 rfl (mc WD (mc X4 (mc R5 mn))) (A:=[]) (Ts:=[T0,T]) rfl λ w0=>?_;refine ae 1 [] λ _=>aak [12] []<|ag [] [0,4,1,2,3] [.ro 1,.ro 1,.ro 0]<|aac [] 5 (λ X_=>(re S bp gb mb M (k+20*m+20) T _ (zt WD) hM (aK 1)))<|ge 6 10 ?_ ?_
 ·refine aaf [] (Hp:=[]) (Tp:=[]) [] [] (hA_ _ (λ x hx=>az hx)) ?_;rintro _ ⟨A1,c2,T3⟩ ⟨rfl,hc4⟩;dsimp only at hc4;refine ag [] [7,8,9] []<|aae 10 (aag [] [] λ n5=>?_);refine ag [] [11] []<|aae 12 (aag [] (aab 4) λ _=>?_);refine aad<|ae 2 [] λ _=>aan (σ:=Nat × Nat × MemS × HL × HL) (λ ⟨r,i_,M_,T_,J_⟩=>⟨[(0,.func (.yield lp) #[] #[]),(1,vP q1 0),(2,vP q2 0),(4,vI j.2),(5,vP (n5+0) 0)],[((n5+0),.lit [.slice A1 (fQ j.1) c2,vI (cr j.1 0),vI (cr j.1 1),vI (cr j.1 2)] 142 (0,0))],[T_,J_,T3],i_+(r+1)=m+1 /\ dV (gE S j ni xs) (r+1) M_ /\ fU (gE S j ni xs) (r+1) M_=fU (gE S j ni xs) (m+1) M /\ MemH mb M_ (k+20*r+20) T_ /\ (i5 (gE S j ni xs) (m+1) M).drop i_=i5 (gE S j ni xs) (r+1) M_ /\ J i_ J_,r⟩) (m,0,M,T,T0) [0] [2,1,0] (⟨by omega,S5,rfl,hM,rfl,Ue⟩) ?_;rintro⟨r,i_,M_,T_,J_⟩ ⟨hd_,AT,RL,TT,Tc,R4⟩ XE;refine ae 2 [] λ _=>aak [12,19] []<|ag [] [0,5,9,10,11,1,6,2,7,3,8,4] [.ro 1,.ro 1,.own 0,.own 0,.own 0,.own 0,.ro 2,.ro 0,.ro 0,.ro 0,.ro 0,.ro 0,.ro 0,.ro 0,.ro 0,.ro 0,.ro 0,.ro 0,.ro 0,.ro 0,.ro 0,.ro 0,.ro 0,.ro 0]<|ge 12 17 ?_ ?_
  ·refine aaf [] [] [0] (oa (g:=(⟨S,A1,fQ j.1,c2,cr j.1 0,cr j.1 1,cr j.1 2,j.2,ib,io,ni,ic,N,full,kC j.1⟩:Gm)) (vA hx) mb M_ (k+20*r) T_ _ TT ⟨hS_.up,az S6,hir,az X0,hc4.code hj (au 1)⟩ AT.1 j.2 rfl) ?_;rintro _ T8 ⟨U6,rfl⟩;refine ag [] [13,14,15,16] []<|aae 17 (aag [] [] λ SZ=>?_);refine ag [] [18] []<|aae 19 (aag [] (aab 4) λ _=>?_);refine ag [] [20] []<|aad<|ae 7 (aab 4) λ _=>aar 1 (hY i_ ((eU (gE S j ni xs) M_).e,(eU (gE S j ni xs) M_).em) _ _ (gN Tc).1 R4) ?_;rintro b_ Rm (⟨rfl,Xt⟩|⟨rfl,Xt⟩)
   ·refine ae 6 [] λ _=>ij (jh (gE S j ni xs) M_) 44 (λ SV=>?_) λ SV=>?_
    ·refine ae 1 [] λ _=>aap [] [] [0,1] (v:=.tuple #[]) (H':=(ap [] [Rm,T8])) ?_;have er:r=0:=by
      rcases AT.2 with ⟨e,_⟩|⟨e,_⟩
      ·exact e
      ·have hh:jh (gE S j ni xs) M_=true:=by assumption
       rw[e] at hh;cases hh
     subst er;have ed:i_+1=(i5 (gE S j ni xs) (m+1) M).length:=by rw[i6];omega
     refine⟨(Rm,T8),rfl,.inl ⟨?_,?_⟩⟩
     ·rw[<- ed];exact Xt
     ·rw[<- RL];exact U6.weak (by omega)
    ·refine ae 3 [] λ _=>?_;have Ta:=AT.2;rcases Ta with ⟨_,e_⟩|⟨_,Ta⟩
     ·exact absurd e_ (by assumption)
     rcases r with _|r
     ·exact Ta.elim
     refine XE (r,i_+1,(ji (gE S j ni xs) M_),T8,Rm) [1] [1,0,2] ?_
     try dsimp only
     exact⟨⟨by omega,Ta,RL,U6.weak (by omega),(gN Tc).2,Xt⟩,by omega⟩
   ·refine ae 7 [] λ _=>aap [] [] [0,1] (v:=.tuple #[]) (H':=(ap [] [Rm,T8])) ?_;exact⟨(Rm,T8),rfl,.inr Xt⟩
  ·refine aag [] [] λ ZH=>aae 12 (aaf [] [] [0] (oa (g:=(⟨S,A1,fQ j.1,c2,cr j.1 0,cr j.1 1,cr j.1 2,j.2,ib,io,ni,ic,N,full,kC j.1⟩:Gm)) (vA hx) mb M_ (k+20*r) T_ _ TT ⟨hS_.up,az S6,hir,az X0,hc4.code hj (au 1)⟩ AT.1 j.2 rfl) ?_);rintro _ Sy ⟨SP,rfl⟩;refine ag [] [13,14,15,16,18] []<|aae 19 (aag [] (aab 4) λ _=>?_);refine ag [] [20] []<|aad<|ae 7 (aab 4) λ _=>aar 1 (hY i_ ((eU (gE S j ni xs) M_).e,(eU (gE S j ni xs) M_).em) _ _ (gN Tc).1 R4) ?_;rintro b_ Sx (⟨rfl,Xs⟩|⟨rfl,Xs⟩)
   ·refine ae 6 [] λ _=>ij (jh (gE S j ni xs) M_) 44 (λ Xy=>?_) λ Xy=>?_
    ·refine ae 1 [] λ _=>aap [] [] [0,1] (v:=.tuple #[]) (H':=(ap [] [Sx,Sy])) ?_;have er:r=0:=by
      rcases AT.2 with ⟨e,_⟩|⟨e,_⟩
      ·exact e
      ·have hh:jh (gE S j ni xs) M_=true:=by assumption
       rw[e] at hh;cases hh
     subst er;have ed:i_+1=(i5 (gE S j ni xs) (m+1) M).length:=by rw[i6];omega
     refine⟨(Sx,Sy),rfl,.inl ⟨?_,?_⟩⟩
     ·rw[<- ed];exact Xs
     ·rw[<- RL];exact SP.weak (by omega)
    ·refine ae 3 [] λ _=>?_;have Ta:=AT.2;rcases Ta with ⟨_,e_⟩|⟨_,Ta⟩
     ·exact absurd e_ (by assumption)
     rcases r with _|r
     ·exact Ta.elim
     refine XE (r,i_+1,(ji (gE S j ni xs) M_),Sy,Sx) [1] [1,0,2] ?_
     try dsimp only
     exact⟨⟨by omega,Ta,RL,SP.weak (by omega),(gN Tc).2,Xs⟩,by omega⟩
   ·refine ae 7 [] λ _=>aap [] [] [0,1] (v:=.tuple #[]) (H':=(ap [] [Sx,Sy])) ?_;exact⟨(Sx,Sy),rfl,.inr Xs⟩
 ·refine aag [] [] λ UE=>aae 6 (aaf [] (Hp:=[]) (Tp:=[]) [] [] (hA_ _ (λ x hx=>az hx)) ?_);rintro _ ⟨A21,c22,Yb⟩ ⟨rfl,Zb⟩;dsimp only at Zb;refine ag [] [7,8,9,11] []<|aae 12 (aag [] (aab 4) λ _=>?_);refine aad<|ae 2 [] λ _=>aan (σ:=Nat × Nat × MemS × HL × HL) (λ ⟨r,i_,M_,T_,J_⟩=>⟨[(0,.func (.yield lp) #[] #[]),(1,vP q1 0),(2,vP q2 0),(4,vI j.2),(5,vP (UE+0) 0)],[((UE+0),.lit [.slice A21 (fQ j.1) c22,vI (cr j.1 0),vI (cr j.1 1),vI (cr j.1 2)] 142 (0,0))],[T_,J_,Yb],i_+(r+1)=m+1 /\ dV (gE S j ni xs) (r+1) M_ /\ fU (gE S j ni xs) (r+1) M_=fU (gE S j ni xs) (m+1) M /\ MemH mb M_ (k+20*r+20) T_ /\ (i5 (gE S j ni xs) (m+1) M).drop i_=i5 (gE S j ni xs) (r+1) M_ /\ J i_ J_,r⟩) (m,0,M,T,T0) [0] [2,1,0] (⟨by omega,S5,rfl,hM,rfl,Ue⟩) ?_;rintro⟨r,i_,M_,T_,J_⟩ ⟨hd_,AT,RL,TT,Tc,R4⟩ aay;refine ae 2 [] λ _=>aak [12,19] []<|ag [] [0,5,9,10,11,1,6,2,7,3,8,4] [.ro 1,.ro 1,.own 0,.own 0,.own 0,.own 0,.ro 2,.ro 0,.ro 0,.ro 0,.ro 0,.ro 0,.ro 0,.ro 0,.ro 0,.ro 0,.ro 0,.ro 0,.ro 0,.ro 0,.ro 0,.ro 0,.ro 0,.ro 0]<|ge 12 17 ?_ ?_
  ·refine aaf [] [] [0] (oa (g:=(⟨S,A21,fQ j.1,c22,cr j.1 0,cr j.1 1,cr j.1 2,j.2,ib,io,ni,ic,N,full,kC j.1⟩:Gm)) (vA hx) mb M_ (k+20*r) T_ _ TT ⟨hS_.up,az S6,hir,az X0,Zb.code hj (au 1)⟩ AT.1 j.2 rfl) ?_;rintro _ UC ⟨SO,rfl⟩;refine ag [] [13,14,15,16] []<|aae 17 (aag [] [] λ n29=>?_);refine ag [] [18] []<|aae 19 (aag [] (aab 4) λ _=>?_);refine ag [] [20] []<|aad<|ae 7 (aab 4) λ _=>aar 1 (hY i_ ((eU (gE S j ni xs) M_).e,(eU (gE S j ni xs) M_).em) _ _ (gN Tc).1 R4) ?_;rintro b_ Z3 (⟨rfl,Xr⟩|⟨rfl,Xr⟩)
   ·refine ae 6 [] λ _=>ij (jh (gE S j ni xs) M_) 44 (λ Ws=>?_) λ Ws=>?_
    ·refine ae 1 [] λ _=>aap [] [] [0,1] (v:=.tuple #[]) (H':=(ap [] [Z3,UC])) ?_;have er:r=0:=by
      rcases AT.2 with ⟨e,_⟩|⟨e,_⟩
      ·exact e
      ·have hh:jh (gE S j ni xs) M_=true:=by assumption
       rw[e] at hh;cases hh
     subst er;have ed:i_+1=(i5 (gE S j ni xs) (m+1) M).length:=by rw[i6];omega
     refine⟨(Z3,UC),rfl,.inl ⟨?_,?_⟩⟩
     ·rw[<- ed];exact Xr
     ·rw[<- RL];exact SO.weak (by omega)
    ·refine ae 3 [] λ _=>?_;have Ta:=AT.2;rcases Ta with ⟨_,e_⟩|⟨_,Ta⟩
     ·exact absurd e_ (by assumption)
     rcases r with _|r
     ·exact Ta.elim
     refine aay (r,i_+1,(ji (gE S j ni xs) M_),UC,Z3) [1] [1,0,2] ?_
     try dsimp only
     exact⟨⟨by omega,Ta,RL,SO.weak (by omega),(gN Tc).2,Xr⟩,by omega⟩
   ·refine ae 7 [] λ _=>aap [] [] [0,1] (v:=.tuple #[]) (H':=(ap [] [Z3,UC])) ?_;exact⟨(Z3,UC),rfl,.inr Xr⟩
  ·refine aag [] [] λ n33=>aae 12 (aaf [] [] [0] (oa (g:=(⟨S,A21,fQ j.1,c22,cr j.1 0,cr j.1 1,cr j.1 2,j.2,ib,io,ni,ic,N,full,kC j.1⟩:Gm)) (vA hx) mb M_ (k+20*r) T_ _ TT ⟨hS_.up,az S6,hir,az X0,Zb.code hj (au 1)⟩ AT.1 j.2 rfl) ?_);rintro _ ZB ⟨Xo,rfl⟩;refine ag [] [13,14,15,16,18] []<|aae 19 (aag [] (aab 4) λ _=>?_);refine ag [] [20] []<|aad<|ae 7 (aab 4) λ _=>aar 1 (hY i_ ((eU (gE S j ni xs) M_).e,(eU (gE S j ni xs) M_).em) _ _ (gN Tc).1 R4) ?_;rintro b_ T36 (⟨rfl,Xq⟩|⟨rfl,Xq⟩)
   ·refine ae 6 [] λ _=>ij (jh (gE S j ni xs) M_) 44 (λ h38=>?_) λ h38=>?_
    ·refine ae 1 [] λ _=>aap [] [] [0,1] (v:=.tuple #[]) (H':=(ap [] [T36,ZB])) ?_;have er:r=0:=by
      rcases AT.2 with ⟨e,_⟩|⟨e,_⟩
      ·exact e
      ·have hh:jh (gE S j ni xs) M_=true:=by assumption
       rw[e] at hh;cases hh
     subst er;have ed:i_+1=(i5 (gE S j ni xs) (m+1) M).length:=by rw[i6];omega
     refine⟨(T36,ZB),rfl,.inl ⟨?_,?_⟩⟩
     ·rw[<- ed];exact Xq
     ·rw[<- RL];exact Xo.weak (by omega)
    ·refine ae 3 [] λ _=>?_;have Ta:=AT.2;rcases Ta with ⟨_,e_⟩|⟨_,Ta⟩
     ·exact absurd e_ (by assumption)
     rcases r with _|r
     ·exact Ta.elim
     refine aay (r,i_+1,(ji (gE S j ni xs) M_),ZB,T36) [1] [1,0,2] ?_
     try dsimp only
     exact⟨⟨by omega,Ta,RL,Xo.weak (by omega),(gN Tc).2,Xq⟩,by omega⟩
   ·refine ae 7 [] λ _=>aap [] [] [0,1] (v:=.tuple #[]) (H':=(ap [] [T36,ZB])) ?_;exact⟨(T36,ZB),rfl,.inr Xq⟩
theorem NY(S:Setup)(bp gb mb q1 q2 ib io N ni ic m k:Nat)(j:Nat × Int)(full xs:List Inp)(M:MemS)(F:HL)(hj:j.1<5)(hA:AtOk F bp (M.get 0) j)(hg:(gb,.lit (dC S bp mb) 121 (0,0))∈F)(h1:(q1,.lit [vP gb 0] 97 (0,0))∈F)(h2:(q2,.lit [vS ib (io*3) ni ic] 38 (0,0))∈F)(hS:SetIn F S)(hE:cG F)(hI:(ib,.rows 3 N (kK full) 40 (0,0))∈F)(hir:io+ni <= N /\ ni <= 1000000)(hx:∀k,k<ni -> full.getD (io+k) dI=xs.getD k dI)(T:HL)(hM:MemH mb M (k+20*m+20) T)(h0:0 <= M.get 0)(S5:dV (gE S j ni xs) (m+1) M):Qe Tryz.prog 105 #[vP q1 0,vP q2 0] T F PU (i5 (gE S j ni xs) (m+1) M) (λ T1=>MemH mb (fU (gE S j ni xs) (m+1) M) k T1) (λ _=>True):=by
 intro X l J Jx H0 hY h0';have e:∀A B:HL,ap [] [A,B]=A++B:=λ A B=>by simp[ap]
 have key:=Lo S bp gb mb q1 q2 ib io N ni ic m k j full xs M F hj hA hg h1 h2 hS hE hI hir hx T hM h0 S5 l X J Jx H0 hY h0';rw[e] at key;refine key.mono λ u H' h=>?_;obtain⟨x,rfl,h⟩:=h;refine⟨x.1,x.2,e _ _,?_⟩;rcases h with ⟨a,b⟩|a
 ·exact .inl ⟨a,b⟩
 ·exact .inr ⟨a,trivial⟩
theorem yu(e:Int)(S:Setup)(bp gb mb:Nat)(M:MemS)(k:Nat)(A:Option Addr)(n cap:Nat)(xs:List Inp)(T F:HL)(hg:(gb,.lit (dC S bp mb) 121 (0,0))∈F)(hM:MemH mb M k T)(hT:∀x∈T,x∈F)(hl:RowL cV 40 F A n xs)(hn:n <= 1000000)(he:dL S.players n xs (M.get 0)=e):Sp Tryz.prog 80 #[vP gb 0,.slice A n cap] [] F (λ u H'=>u=vI e /\ H'=[]):=he ▸ Ai S bp gb mb M k A n cap xs T F hg hM hT hl hn
theorem IC(c0 c1 c2 c3 c4:Value)(F:HL):SpD Tryz.prog 81 #[c0,c1,c2,c3,c4] (ap [] []) F (λ _ H'=>∃_:Unit,H'=ap [] [] /\ True):=by
 exact(IB c0 c1 c2 c3 c4 F).mono λ u H' h=>⟨(),h,trivial⟩
theorem yv(S:Setup)(rs:List Bx)(ds:List Dr)(bp gb mb ib io N ni ic m k:Nat)(j:Nat × Int)(full xs:List Inp)(M:MemS)(T U F:HL)(hj:j.1<5)(hA:AtOk F bp (M.get 0) j)(hU:tC S rs ds U)(hE:cG F)(hI:(ib,.rows 3 N (kK full) 40 (0,0))∈F)(hir:io+ni <= N)(SE:ni <= 1000000)(hmb:m <= 1000000)(hlen:xs.length=ni)(hx:∀k,k<ni -> full.getD (io+k) dI=xs.getD k dI)(hM:MemH mb M (k+20*m+20) T)(h0:0 <= M.get 0)(S5:dV (gE S j ni xs) (m+1) M)(hw:dL S.players ni xs (M.get 0)=0):Sp Tryz.prog 57 #[vP gb 0,vS ib (io*3) ni ic] (ap [(gb,.lit (dC S bp mb) 121 (0,0))] [T,U]) F (λ u H'=>∃x:HL × Option Addr × Nat × HL,H'=ap [(gb,.lit (dC S bp mb) 121 (0,0))] [x.1,U,x.2.2.2] /\ (MemH mb (fU (gE S j ni xs) (m+1) M) k x.1 /\ SlIs nP 111 (dQ (gE S j ni xs) (m+1) M) x.2.1 x.2.2.1 x.2.2.2 /\ u=.tuple #[.slice x.2.1 (dQ (gE S j ni xs) (m+1) M).length x.2.2.1,vI ((m+1:Nat):Int),vI 0])):=by
 have hl:RowL cV 40 F (some ⟨ib,io*3,none⟩) ni xs:=.rows ib io N full (0,0) ni xs hI hir hlen hx;have WH:=hM;refine Sp.runM Tryz.func57 rfl mn (A:=[(gb,.lit (dC S bp mb) 121 (0,0))]) (Ts:=[T,U]) rfl λ w0=>?_;refine ae 13 [.own 3] λ n1=>aah (yu 0 S bp gb mb M (k+20*m+20) (some ⟨ib,io*3,none⟩) ni ic xs T _ (av 4) hM (au 0) hl.up SE hw)<|ae 18 [.own 3,.own 4] λ _=>aah (xA hM (au 0))<|ae 7 [.own 0] λ n2=>OP (g:=81) (args:=#[]) (cap:=#[vP (n1+0) 0,vP (n2+0) 0,vP (n1+1) 0,vP (n1+2) 0,vP (n1+3) 0])<|ae 7 [.own 4] λ _=>aai (Hp:=[]) (Tp:=[]) [] [] (Eg gb ib io ni ic _) ?_;rintro _ n3 rfl;refine ae 3 [] λ _=>aao<|sS [1,0,2]<|C6 (σ:=Nat × List Eff × Option Addr × Nat × HL) (τ:=(Nat × List Eff × Option Addr × Nat × HL) × Nat × (Eff × Bool)) (encs:=λ (x_:Eff × Bool)=>#[.agg #[vI x_.1.t,vI x_.1.i,vI x_.1.k,vI x_.1.v,.bool x_.2]]) (xs:=(i5 (gE S j ni xs) (m+1) M)) (enters_of Tryz.func105 (by kernel_rfl) rfl) (λ ⟨c_,Sw,B_,b_,E_⟩=>([((n1+1),.lit [.slice B_ Sw.length b_] 58 (0,0)),((n1+2),.lit [vI (c_:Int)] 3 (0,0))],[E_])) (λ i_ ⟨c_,Sw,B_,b_,E_⟩=>c_=i_ /\ Sw=mg ((i5 (gE S j ni xs) (m+1) M).take i_) /\ SlIs nP 111 Sw B_ b_ E_) (λ c_ ⟨c_,Sw,B_,b_,E_⟩=>False) (λ ⟨⟨c_,Sw,B_,b_,E_⟩,nn_,y_⟩=>⟨[(4,vP (n1+1) 0),(5,vP (n1+2) 0),(6,vP (n1+3) 0),(9,vP (nn_+0) 0)],[((nn_+0),.lit [vI y_.1.t,vI y_.1.i,vI y_.1.k,vI y_.1.v,.bool y_.2] 159 (0,0)),((n1+1),.lit [.slice B_ Sw.length b_] 58 (0,0)),((n1+2),.lit [vI (c_:Int)] 3 (0,0))],[E_],True,0⟩) (λ i_ x_ ⟨⟨c_,Sw,B_,b_,E_⟩,nn_,y_⟩=>(c_=i_ /\ Sw=mg ((i5 (gE S j ni xs) (m+1) M).take i_) /\ SlIs nP 111 Sw B_ b_ E_) /\ y_=x_) (0,[],none,0,[]) (⟨rfl,rfl,aas _ _⟩) [5,4] [1] T (NY S bp gb mb (n3+0) (n3+1) ib io N ni ic m k j full xs M _ hj (hA.mono λ x hx=>az hx) (av 5) (av 1) (av 0) (hU _ (au 0)).1 (az hE) (az hI) ⟨hir,SE⟩ hx T WH h0 S5) ?_ ?_ ?_ ?_
 ·rintro l_ i_ x_ ⟨c_,Sw,B_,b_,E_⟩ Y4 w5 hx6 ⟨WE,SJ,RA⟩ XE;refine ae 4 (ow 0 5) λ n8=>?_;refine XE ((c_,Sw,B_,b_,E_),n8,x_) [0,1,2] [0] ?_
  try dsimp only
  exact⟨⟨WE,SJ,RA⟩,rfl⟩
 ·rintro l_ i_ x_ ⟨⟨c_,Sw,B_,b_,E_⟩,nn_,y_⟩ Y9 w10 VB ⟨⟨WE,SJ,RA⟩,ey_⟩;subst ey_;have akK:i_<m+1:=by have:=(List.getElem?_eq_some_iff.1 VB).1;rwa [i6] at this
  have akx:Sw.length <= i_:=by rw[SJ];have:=xe ((i5 (gE S j ni xs) (m+1) M).take i_);rw[abk] at this;omega
  refine aj 14 [.own 2,.nw,.own 2,.own 0] [bx ((c_:Int)+1)] λ _=>ij (y_.2) 29 (λ Sv=>?_) λ Sv=>?_
  ·refine ae 6 [.own 1,.own 0,.own 0,.own 0,.own 0] λ n13=>iU zN Sw [y_.1] 0 0 rfl RA (by simp;omega) ?_;rintro A14 c15 Ww ⟨aeg,ajm⟩;refine ae 3 [.own 2] λ _=>RN.bv 3 (congrArg (λ v_=>(.lit [vI v_] 3 (0,0):Blk)) (show ((c_:Int)+1)=((c_+1:Nat):Int) by omega))<|RN.bv 2 (congrArg (λ v_=>(.lit [.slice A14 v_ c15] 58 (0,0):Blk)) (show Sw.length+1=(Sw++[y_.1]).length by simp))<|RN.rn (c_+1,Sw++[y_.1],A14,c15,Ww) [2,3] [0] ?_
   try dsimp only
   exact⟨by omega,by rw[GO VB Sv,<- SJ],aeg⟩
  ·refine ae 3 [] λ _=>RN.bv 2 (congrArg (λ v_=>(.lit [vI v_] 3 (0,0):Blk)) (show ((c_:Int)+1)=((c_+1:Nat):Int) by omega))<|RN.rn (c_+1,Sw,B_,b_,E_) [1,2] [0] ?_
   try dsimp only
   exact⟨by omega,by rw[Kv VB Sv,<- SJ],RA⟩
 ·rintro d19 ⟨c_,Sw,B_,b_,E_⟩ UP ⟨WE,SJ,RA⟩ afx;refine ae 3 [] λ _=>aak [0,1,2,3,4] []<|k8 (σ:=Unit) (λ _=>⟨[(4,vP (n1+1) 0),(5,vP (n1+2) 0),(6,vP (n1+3) 0)],[(d19,.obj (.deferred (some []))),((n1+1),.lit [.slice B_ Sw.length b_] 58 (0,0)),((n1+2),.lit [vI (c_:Int)] 3 (0,0)),((n3+1),.lit [vS ib (io*3) ni ic] 38 (0,0)),((n3+0),.lit [vP gb 0] 97 (0,0)),((n2+0),.lit [vI (bd (M.base+(M.lg.length:Int)))] 3 (0,0)),((n1+3),.lit [vI 0] 43 (0,0)),((n1+0),.lit [vP gb 0] 97 (0,0)),(gb,.lit (dC S bp mb) 121 (0,0))],[E_,UP,U],True,0⟩) ?_ ?_
  ·rintro⟨⟩;refine ae 1 [] λ _=>LS ?_;refine LV.mark 0 ?_;refine OS (enters_of Tryz.func81 (by kernel_rfl) rfl) [] [] (IC _ _ _ _ _ _) ?_;rintro _ _ _;refine LV.ret [.own 0,.own 1,.own 5] [7] [1,2,0] (v:=.tuple #[.slice B_ Sw.length b_,vI (c_:Int),vI 0]) (H':=(ap [(gb,.lit (dC S bp mb) 121 (0,0))] [UP,U,E_])) ?_;have e1:Sw=dQ (gE S j ni xs) (m+1) M:=by rw[SJ,List.take_length,xd]
   have e2:c_=m+1:=by rw[WE,i6]
   subst e1;subst e2;exact⟨(UP,B_,b_,E_),rfl,afx,RA,rfl⟩
  ·intro Vw;refine ge 0 1 ?_ ?_
   ·refine aag [] [.own 1] λ _=>ge 1 2 ?_ ?_
    ·refine aag [] [.own 2] λ _=>aae 2 (aag [] [.own 1] λ _=>?_);refine aae 3 (aag [] [.own 2] λ _=>?_);refine aae 4 (aag [] [.own 6] λ _=>?_);exact Vw () [0,1,2,3,4,5,6,7,8] [0,1,2]
    ·refine aag [] [.own 1] λ _=>aae 1 (aag [] [.own 2] λ _=>?_);refine aae 3 (aag [] [.own 2] λ _=>?_);refine aae 4 (aag [] [.own 6] λ _=>?_);exact Vw () [0,1,2,3,4,5,6,7,8] [0,1,2]
   ·refine aag [] [.own 2] λ _=>aae 0 (aag [] [.own 1] λ _=>?_);refine aae 2 (aag [] [.own 1] λ _=>?_);refine aae 3 (aag [] [.own 2] λ _=>?_);refine aae 4 (aag [] [.own 6] λ _=>?_);exact Vw () [0,1,2,3,4,5,6,7,8] [0,1,2]
 ·exact λ _ _ _ _ h _=>h.elim
theorem EF(e:Int)(S:Setup)(bp gb mb n cap k:Nat)(A:Option Addr)(xs:List Inp)(M:MemS)(T U F:HL)(hl:RowL cV 40 F A n xs)(SE:n <= 1000000)(hM:MemH mb M k T)(hw:dL S.players n xs (M.get 0)=e)(At:¬ e=0):Sp Tryz.prog 57 #[vP gb 0,.slice A n cap] (ap [(gb,.lit (dC S bp mb) 121 (0,0))] [T,U]) F (λ u H'=>H'=ap [(gb,.lit (dC S bp mb) 121 (0,0))] [T,U] /\ u=.tuple #[.slice none 0 0,vI 0,vI e]):=by
 refine Sp.runM Tryz.func57 rfl mn (A:=[(gb,.lit (dC S bp mb) 121 (0,0))]) (Ts:=[T,U]) rfl λ w0=>?_;refine ae 13 [.own 3] λ n1=>aah (yu e S bp gb mb M k A n cap xs T _ (av 4) hM (au 0) hl.up SE hw)<|ae 9 [] λ _=>db 14 (nf (aco At))<|ae 9 [.own 2,.own 1,.own 0] λ _=>LS ?_;exact LV.ret [.own 2,.own 1,.own 0] [4] [0,1] ⟨rfl,rfl⟩
structure Rw where (A:Option Addr) (n c:Nat)
def jH:Enc Rw:=⟨1,λ p k=>match k with|0=>.slice p.A p.n p.c|_=>default,⟨none,0,0⟩⟩
noncomputable def PV:TypeInfo:=match Tryz.prog.info? 38 with | some i=>i | none=>⟨.bool,"",0,0,false,0,0,none,false,#[]⟩
noncomputable def PW:Value:=match PV.zero with|some z=>z|none=>.bool false
theorem IE:EncOk jH Tryz.prog 38 PV PW where
 info:=by kernel_rfl
 zero:=by kernel_rfl
 size:=by kernel_rfl
 zsize:=by kernel_rfl
 zcell:=λ k hk=>by
  have h:∀k<1,PW.cells[k]?=some (jH.cell jH.dflt k):=by intro k hk;(iterate 1 (rcases k with _|k;· kernel_rfl));omega
  exact h k hk
 one:=λ x k=>by unfold jH;dsimp only;split <;> rfl
 bytes:=aaN (by kernel_rfl)
inductive RwIn(F:HL)(xs:List Inp):Rw -> Prop
 | mk (b o N:Nat) (full:List Inp) (c:Nat) (hI:(b,.rows 3 N (kK full) 40 (0,0))∈F) (hir:o+xs.length <= N) (hx:∀k,k<xs.length -> full.getD (o+k) dI=xs.getD k dI) (hcap:xs.length <= c):RwIn F xs ⟨some ⟨b,o*3,none⟩,xs.length,c⟩
structure RwsIn(F:HL)(rs:List Rw)(xss:List (List Inp)):Prop where
 len:rs.length=xss.length
 row:∀k,k<rs.length -> RwIn F (xss.getD k []) (rs.getD k jH.dflt)
def RwsT(rs:List Rw)(xss:List (List Inp))(T:HL):Prop:=∀F,(∀x∈T,x∈F) -> RwsIn F rs xss
theorem RwsIn.get{F:HL}{rs:List Rw}{xss:List (List Inp)}(h:RwsIn F rs xss){k:Nat}(hk:k<rs.length):∃b o N full c,rs.getD k jH.dflt=⟨some ⟨b,o*3,none⟩,(xss.getD k []).length,c⟩ /\ (b,.rows 3 N (kK full) 40 (0,0))∈F /\ o+(xss.getD k []).length <= N /\ (∀i,i<(xss.getD k []).length -> full.getD (o+i) dI=(xss.getD k []).getD i dI) /\ (xss.getD k []).length <= c:=by
 have h1:=h.row k hk;generalize rs.getD k jH.dflt=p at h1 ⊢;cases h1 with
 | mk b o N full c hI hir hx hc=>exact⟨b,o,N,full,c,rfl,hI,hir,hx,hc⟩
theorem SlIs.rw{xs:List Inp}{A:Option Addr}{c:Nat}{T F:HL}(h:SlIs cV 40 xs A c T)(hF:∀x∈T,x∈F)(h1:1 <= xs.length){n:Nat}(hn:n=xs.length):RwIn F xs ⟨A,n,c⟩:=by
 subst hn;rcases h with ⟨_,_,rfl,_⟩|⟨b,o,full,rfl,rfl,h2,h3,h4⟩
 ·simp at h1
 ·refine .mk b o (o+c) full c (hF _ (List.mem_singleton.2 rfl)) (by omega) (λ k hk=>?_) h3;have h5:((full.drop o).take xs.length)[k]?=xs[k]?:=by rw[h4]
  rw[acm,if_pos hk,ack] at h5;rw[aaJ,aaJ,h5]
theorem RwsT.nil:RwsT [] [] []:=λ F _=>⟨rfl,λ k hk=>absurd hk (Nat.not_lt_zero _)⟩
theorem gx{α:Type}(l:List α)(x d:α)(k:Nat):(l++[x]).getD k d=if k<l.length then l.getD k d else if k=l.length then x else d:=by
 rw[aaJ,List.getElem?_append];split
 ·rw[aaJ]
 ·split
  ·next h=>subst h;simp
  ·rw[List.getElem?_eq_none (by simp;omega)];rfl
theorem RwsT.snoc{rs:List Rw}{xss:List (List Inp)}{T T1:HL}{xs:List Inp}{A:Option Addr}{c n:Nat}(h:RwsT rs xss T)(hs:SlIs cV 40 xs A c T1)(h1:1 <= xs.length)(hn:n=xs.length):RwsT (rs++[⟨A,n,c⟩]) (xss++[xs]) (T++T1):=λ F hF=>by
 have h2:=h F λ x hx=>hF x (aaw _ hx);refine⟨by simp[h2.len],λ k hk=>?_⟩;rw[gx,gx,<- h2.len]
 by_cases SA:k<rs.length
 ·rw[if_pos SA,if_pos SA];exact h2.row k SA
 ·have:k=rs.length:=by simp at hk;omega
  rw[if_neg SA,if_neg SA,if_pos this,if_pos this];exact hs.rw (λ x hx=>hF x (aav _ hx)) h1 hn
def kV(G:Nat -> Gm)(M:MemS):Nat -> MemS
 | 0=>M
 | k+1=>gm (G k) (kV G M k)
def plE(G:Nat -> Gm)(M:MemS):Nat -> List Eff
 | 0=>[]
 | k+1=>plE G M k++my (G k) (kV G M k)
theorem IG(g:Gm):∀ (f:Nat) (M:MemS),xc g f M <= f
 | 0,_=>aa0 _
 | f+1,M=>by
  rw[xc];split
  ·omega
  ·have:=IG g f (ji g M);omega
theorem Cu(g:Gm)(M:MemS):(my g M).length <= 1001:=by
 have h1:=s8 g (xc g 1000 M+1) M;have h2:=IG g 1000 M;unfold my;omega
theorem Cv(G:Nat -> Gm)(M:MemS):∀k,(plE G M k).length <= 1001*k
 | 0=>aa0 _
 | k+1=>by
  have h1:=Cv G M k;have h2:=Cu (G k) (kV G M k);rw[plE,abi];omega
abbrev kR(S:Setup)(j:Nat × Int)(xs:List Inp):Gm:=gE S j xs.length xs
abbrev rG(S:Setup)(J:Nat -> Nat × Int)(xss:List (List Inp)):Nat -> Gm:=λ k=>kR S (J k) (xss.getD k [])
structure TkOk(S:Setup)(j:Nat × Int)(xs:List Inp)(M:MemS):Prop where
 ex:∃m,m <= 999 /\ dV (kR S j xs) (m+1) M
 now:0 <= M.get 0
 ok:dL S.players xs.length xs (M.get 0)=0
theorem IH{g:Gm}{M:MemS}{m:Nat}(hm:m <= 999)(h:dV g (m+1) M):fU g (m+1) M=gm g M /\ dQ g (m+1) M=my g M:=by
 rw[gm,my,GL m 1000 M h (by omega)];exact⟨rfl,rfl⟩
theorem oZ{M N:MemS}(h:M.cs=N.cs)(i:Int):M.get i=N.get i:=by unfold MemS.get;rw[h]
theorem m8(g:Gm)(l:List (Int × Int))(b:Int):∀ (n:Nat) (M:MemS),dV g n (M.sh l b)↔dV g n M
 | 0,_=>Iff.rfl
 | n+1,M=>by rw[dV,dV,GK,ji,ji,uT,bJ,m8 g l b n];exact Iff.rfl
theorem AO{g:Gm}{M N:MemS}(h:M.cs=N.cs)(n:Nat)(hg:dV g n M):dV g n N:=by
 rw[<- ll M,m8] at hg;rw[<- ll N,m8,<- h];exact hg
theorem TkOk.cs{S:Setup}{j:Nat × Int}{xs:List Inp}{M N:MemS}(e:M.cs=N.cs)(h:TkOk S j xs M):TkOk S j xs N:=by
 obtain⟨m,h1,h2⟩:=h.ex;exact⟨⟨m,h1,AO e _ h2⟩,by rw[<- oZ e];exact h.now,by rw[<- oZ e];exact h.ok⟩
theorem jb(g:Gm)(M:MemS):(gm g M).base=M.base:=by
 have h:=congrArg MemS.base (congrArg (gm g) (ll M));rw[uU] at h;exact h.symm
theorem ub(mb cb n:Nat)(A:Option Addr)(m cap:Nat)(base:Int)(F:HL)(hm:(mb,.lit [vS cb 0 n n,.slice A m cap,vI base] 162 (0,0))∈F)(hb:0 <= base /\ base <= 1000000000)(hl:m <= 100000000):Sp Tryz.prog 59 #[vP mb 0] [] F (λ u H'=>u=vI (base+(m:Int)) /\ H'=[]):=by
 have h:=xz mb cb n A m cap base F hm;rwa [dh (by omega)] at h
theorem vB{mb:Nat}{M:MemS}{k:Nat}{T F:HL}(h:MemH mb M k T)(hs:∀x∈T,x∈F)(hb:0 <= M.base /\ M.base <= 1000000000):Sp Tryz.prog 59 #[vP mb 0] [] F (λ u H'=>u=vI (M.base+(M.lg.length:Int)) /\ H'=[]):=by
 have h1:=h.len2;have h2:=xA h hs;rwa [dh (by omega)] at h2
theorem NewS.sl0{A':Option Addr}{f_:Nat}{q_:HL}(h:NewS iY 195 ([]:List (Int × Int)) none A' f_ q_):SlIs iY 195 [] A' f_ q_:=by
 rcases h with ⟨_,rfl,rfl,rfl⟩|⟨b,rfl,rfl,_⟩
 ·exact aas _ _
 ·refine .inr ⟨b,0,List.replicate f_ iY.dflt,by simp,?_,by simp,aa9 _,rfl⟩;have:=qz (e:=iY) [] f_;rw[List.nil_append] at this;rw[this,Nat.zero_add]
theorem Sp.tl{P:Program}{f:FuncId}{args:Array Value}{H F:HL}{R:Value -> HL -> Prop}(h:Sp P f args H F R):Sp P f args H F (λ u H'=>∃x,H'=ap [] [x] /\ R u x):=h.mono λ u H' h=>⟨H',(bj H').symm,h⟩
theorem PX{P:Program}{sz:Nat}{tx e':TypeId}{a:Addr}{m c':Nat}{w:World}(hm:m=0)(hk:P.underlying tx=some (.slice e')):Src P sz tx (.slice (some a) m c') 0 [] w:=by
 subst hm;exact Src.ofSlice w hk a 0 c' [] (by simp) (λ j u h=>by simp at h) (λ u h=>by simp at h)
theorem m9(mb cb n:Nat)(A:Option Addr)(m cap:Nat)(base:Int)(F:HL)(hm:(mb,.lit [vS cb 0 n n,.slice A m cap,vI base] 162 (0,0))∈F)(hb:0 <= base /\ base <= 1000000000)(hl:m <= 100000000):Sp Tryz.prog 84 #[vP mb 0,vI (base+(m:Int))] [] F (λ u H'=>u=vI 0 /\ H'=[]):=by
 refine aat Tryz.func84 rfl (mc hm mn) (A:=[]) (Ts:=[]) rfl λ w0=>?_;refine ae 18 [.ro 0] λ _=>aal (base+(m:Int)<base) 5 (λ h1=>?_) λ h1=>?_
 ·(exfalso;omega)
 ·refine ae 5 [] λ _=>aah (ub mb cb n A m cap base _ (az hm) hb hl)<|ae 4 [] λ _=>aal (base+(m:Int)>base+(m:Int)) 12 (λ h2=>?_) λ h2=>?_
  ·(exfalso;omega)
  ·refine ae 9 [] λ _=>?_;exact aap [] [] [] ⟨rfl,rfl⟩
theorem II(mb cb k:Nat)(M:MemS)(F:HL)(hb:0 <= M.base /\ M.base <= 1000000000)(hc:M.cs.length <= 1000000)(hk:k <= 100000000):Sp Tryz.prog 58 #[vP mb 0,vI (M.base+((0:Nat):Int))] [(mb,.lit [vS cb 0 M.cs.length M.cs.length,.slice none 0 0,vI M.base] 162 (0,0)),(cb,.rows 1 M.cs.length (aU M.cs) 3 (0,0))] F (λ u H'=>u=vI 0 /\ MemH mb ⟨M.cs,[],M.base+((0:Nat):Int)⟩ k H'):=by
 refine aat Tryz.func58 rfl mn (A:=[(mb,.lit [vS cb 0 M.cs.length M.cs.length,.slice none 0 0,vI M.base] 162 (0,0)),(cb,.rows 1 M.cs.length (aU M.cs) 3 (0,0))]) (Ts:=[]) rfl λ w0=>?_;refine ae 10 [] λ _=>aah (m9 mb cb M.cs.length none 0 0 M.base _ (av 0) hb (by omega))<|aj 40 [.own 0,.nw,.own 0,.own 0] [bx ((M.base+((0:Nat):Int))-M.base)] λ _=>aN 28 (congrArg (λ v_=>(vI v_:Value)) (show (M.base+((0:Nat):Int))-M.base=0 by omega))<|ae 18 (aab 2) λ _=>aal (0<(M.base+((0:Nat):Int))-M.base) 38 (λ h1=>?_) λ h1=>?_
 ·(exfalso;omega)
 ·refine ae 8 [] λ _=>aap [] [0,1] [] (v:=vI 0) (H':=(ap [(mb,.lit [vS cb 0 M.cs.length M.cs.length,.slice none 0 0,vI (M.base+((0:Nat):Int))] 162 (0,0)),(cb,.rows 1 M.cs.length (aU M.cs) 3 (0,0))] [])) ?_;refine⟨rfl,?_⟩;have h_:=MemH.mk (mb:=mb) (M:=⟨M.cs,[],M.base+((0:Nat):Int)⟩) (k:=k) cb none 0 ([]) (aas _ _) hc (by simp;omega);simpa [ap] using h_
theorem IJ(mb cb k b o cap:Nat)(M:MemS)(full:List (Int × Int))(F:HL)(hb:0 <= M.base /\ M.base <= 1000000000)(hc:M.cs.length <= 1000000)(hk:k <= 100000000)(hf:full.length=o+cap)(hn:M.lg.length=cap)(hl:M.lg.length <= 100000000):Sp Tryz.prog 58 #[vP mb 0,vI (M.base+(M.lg.length:Int))] [(mb,.lit [vS cb 0 M.cs.length M.cs.length,vS b (o*2) M.lg.length cap,vI M.base] 162 (0,0)),(cb,.rows 1 M.cs.length (aU M.cs) 3 (0,0)),(b,.rows 2 (o+cap) (aQ iY full) 195 (0,0))] F (λ u H'=>u=vI 0 /\ MemH mb ⟨M.cs,[],M.base+(M.lg.length:Int)⟩ k H'):=by
 refine aat Tryz.func58 rfl mn (A:=[(mb,.lit [vS cb 0 M.cs.length M.cs.length,vS b (o*2) M.lg.length cap,vI M.base] 162 (0,0)),(cb,.rows 1 M.cs.length (aU M.cs) 3 (0,0)),(b,.rows 2 (o+cap) (aQ iY full) 195 (0,0))]) (Ts:=[]) rfl λ w0=>?_;refine ae 10 [] λ _=>aah (m9 mb cb M.cs.length (some ⟨b,o*2,none⟩) M.lg.length cap M.base _ (av 0) hb (by omega))<|aj 40 [.own 0,.nw,.own 0,.own 0] [bx ((M.base+(M.lg.length:Int))-M.base)] λ _=>aN 28 (congrArg (λ v_=>(vI v_:Value)) (show (M.base+(M.lg.length:Int))-M.base=(M.lg.length:Int) by omega))<|aj 18 [.sl M.lg.length M.lg.length true,.own 0,.own 0] [(M.lg.length:Int)=((M.lg.length:Nat):Int) /\ M.lg.length=M.lg.length /\ M.lg.length <= M.lg.length /\ M.lg.length <= cap /\ cap=M.lg.length] λ _=>aal ((((M.lg.length-M.lg.length):Nat):Int)<(M.base+(M.lg.length:Int))-M.base) 38 (λ h1=>?_) λ h1=>?_
 ·refine ae 7 [.own 0] λ _=>aao<|jn (A:=none) (B:=(some ⟨b,o*2,none⟩)) (c':=(cap-M.lg.length)) qC ([]:List (Int × Int)) 0 (λ a_ e_=>by cases e_) (m:=(M.lg.length-M.lg.length)) (tx:=160) (by simp) (by simp) (λ e_ he X w hR=>PX (by simp) he) ?_;rintro A2 c3 T4 SD;refine ae 10 [.own 0] λ _=>aap [] [0,1] [0] (v:=vI 0) (H':=(ap [(mb,.lit [vS cb 0 M.cs.length M.cs.length,.slice A2 0 c3,vI (M.base+(M.lg.length:Int))] 162 (0,0)),(cb,.rows 1 M.cs.length (aU M.cs) 3 (0,0))] [T4])) ?_;refine⟨rfl,?_⟩;have h_:=MemH.mk (mb:=mb) (M:=⟨M.cs,[],M.base+(M.lg.length:Int)⟩) (k:=k) cb A2 c3 T4 SD.sl0 hc (by simp;omega);exact h_
 ·refine ae 8 [] λ _=>aap [] [0,1,2] [] (v:=vI 0) (H':=(ap [(mb,.lit [vS cb 0 M.cs.length M.cs.length,vS b (o*2) (M.lg.length-M.lg.length) (cap-M.lg.length),vI (M.base+(M.lg.length:Int))] 162 (0,0)),(cb,.rows 1 M.cs.length (aU M.cs) 3 (0,0)),(b,.rows 2 (o+cap) (aQ iY full) 195 (0,0))] [])) ?_;refine⟨rfl,?_⟩;rw[Nat.sub_self];have h_:=MemH.mk (mb:=mb) (M:=⟨M.cs,[],M.base+(M.lg.length:Int)⟩) (k:=k) cb (some ⟨b,o*2,none⟩) (cap-M.lg.length) ([(b,.rows 2 (o+cap) (aQ iY full) 195 (0,0))]) (.inr ⟨b,o,full,rfl,by rw[show o+(cap-M.lg.length)=o+cap by omega];rfl,by omega,aa9 _,rfl⟩) hc (by simp;omega);simpa [ap] using h_
theorem IK(mb cb k b o cap:Nat)(M:MemS)(full:List (Int × Int))(F:HL)(hb:0 <= M.base /\ M.base <= 1000000000)(hc:M.cs.length <= 1000000)(hk:k <= 100000000)(hf:full.length=o+cap)(hn:M.lg.length<cap)(hl:M.lg.length <= 100000000):Sp Tryz.prog 58 #[vP mb 0,vI (M.base+(M.lg.length:Int))] [(mb,.lit [vS cb 0 M.cs.length M.cs.length,vS b (o*2) M.lg.length cap,vI M.base] 162 (0,0)),(cb,.rows 1 M.cs.length (aU M.cs) 3 (0,0)),(b,.rows 2 (o+cap) (aQ iY full) 195 (0,0))] F (λ u H'=>u=vI 0 /\ MemH mb ⟨M.cs,[],M.base+(M.lg.length:Int)⟩ k H'):=by
 refine aat Tryz.func58 rfl mn (A:=[(mb,.lit [vS cb 0 M.cs.length M.cs.length,vS b (o*2) M.lg.length cap,vI M.base] 162 (0,0)),(cb,.rows 1 M.cs.length (aU M.cs) 3 (0,0)),(b,.rows 2 (o+cap) (aQ iY full) 195 (0,0))]) (Ts:=[]) rfl λ w0=>?_;refine ae 10 [] λ _=>aah (m9 mb cb M.cs.length (some ⟨b,o*2,none⟩) M.lg.length cap M.base _ (av 0) hb (by omega))<|aj 40 [.own 0,.nw,.own 0,.own 0] [bx ((M.base+(M.lg.length:Int))-M.base)] λ _=>aN 28 (congrArg (λ v_=>(vI v_:Value)) (show (M.base+(M.lg.length:Int))-M.base=(M.lg.length:Int) by omega))<|aj 18 [.sl M.lg.length M.lg.length false,.own 0,.own 0] [(M.lg.length:Int)=((M.lg.length:Nat):Int) /\ M.lg.length=M.lg.length /\ M.lg.length <= M.lg.length /\ M.lg.length <= cap /\ cap≠M.lg.length] λ _=>aal ((((M.lg.length-M.lg.length):Nat):Int)<(M.base+(M.lg.length:Int))-M.base) 38 (λ h1=>?_) λ h1=>?_
 ·refine ae 7 [.own 0] λ _=>aao<|jn (A:=none) (B:=(some ⟨b,(o*2+M.lg.length*2),none⟩)) (c':=(cap-M.lg.length)) qC ([]:List (Int × Int)) 0 (λ a_ e_=>by cases e_) (m:=(M.lg.length-M.lg.length)) (tx:=160) (by simp) (by simp) (λ e_ he X w hR=>PX (by simp) he) ?_;rintro A2 c3 T4 SD;refine ae 10 [.own 0] λ _=>aap [] [0,1] [0] (v:=vI 0) (H':=(ap [(mb,.lit [vS cb 0 M.cs.length M.cs.length,.slice A2 0 c3,vI (M.base+(M.lg.length:Int))] 162 (0,0)),(cb,.rows 1 M.cs.length (aU M.cs) 3 (0,0))] [T4])) ?_;refine⟨rfl,?_⟩;have h_:=MemH.mk (mb:=mb) (M:=⟨M.cs,[],M.base+(M.lg.length:Int)⟩) (k:=k) cb A2 c3 T4 SD.sl0 hc (by simp;omega);exact h_
 ·refine ae 8 [] λ _=>aap [] [0,1,2] [] (v:=vI 0) (H':=(ap [(mb,.lit [vS cb 0 M.cs.length M.cs.length,vS b (o*2+M.lg.length*2) (M.lg.length-M.lg.length) (cap-M.lg.length),vI (M.base+(M.lg.length:Int))] 162 (0,0)),(cb,.rows 1 M.cs.length (aU M.cs) 3 (0,0)),(b,.rows 2 (o+cap) (aQ iY full) 195 (0,0))] [])) ?_;refine⟨rfl,?_⟩;rw[Nat.sub_self];have h_:=MemH.mk (mb:=mb) (M:=⟨M.cs,[],M.base+(M.lg.length:Int)⟩) (k:=k) cb (some ⟨b,o*2+M.lg.length*2,none⟩) (cap-M.lg.length) ([(b,.rows 2 (o+cap) (aQ iY full) 195 (0,0))]) (.inr ⟨b,o+M.lg.length,full,by rw[Nat.add_mul];rfl,by rw[show o+M.lg.length+(cap-M.lg.length)=o+cap by omega];rfl,by omega,aa9 _,rfl⟩) hc (by simp;omega);simpa [ap] using h_
theorem yw{mb:Nat}{M:MemS}{k k2:Nat}{T:HL}(F:HL)(h:MemH mb M k T)(hb:0 <= M.base /\ M.base <= 1000000000)(hk:k2 <= 100000000):Sp Tryz.prog 58 #[vP mb 0,vI (M.base+(M.lg.length:Int))] (ap [] [T]) F (λ u H'=>∃x,H'=ap [] [x] /\ (u=vI 0 /\ MemH mb ⟨M.cs,[],M.base+(M.lg.length:Int)⟩ k2 x)):=by
 rw[bj];cases h with
 | mk cb A cap Hl hs hc hl =>
  rcases hs with ⟨rfl,rfl,h1,rfl⟩|⟨b,o,full,rfl,rfl,h1,h2,h3⟩
  ·have e:M.lg.length=0:=by rw[h1];rfl
   rw[e];have key:=II mb cb k2 M F hb hc hk;exact key.tl
  ·rcases abX M.lg.length cap with h4|h4
   ·have key:=IK mb cb k2 b o cap M full F hb hc hk h1 h4 (by omega);exact key.tl
   ·have key:=IJ mb cb k2 b o cap M full F hb hc hk h1 (by omega) (by omega);exact key.tl
section
variable {r:Option Nat} {P:Program} {N:Nat} {D:List Deferred} {F:HL} {w0:World} {R:HL} {s:Cfg} {Q:Exit -> Act -> World -> Prop} {hards:List Nat} {Rd:HL}
theorem RDO.slA{i:Nat}{A:Option Addr}{n cap l sz:Nat}{li:Int}(hl:li=(l:Int))(h1:l <= n)(h2:n <= cap)(hk:RD r P N D F w0 R hards Rd (vX N i (.slice (slA A l sz cap) (n-l) (cap-l)) s) Q)
  (h:Qf P N (k9 i s) s=some (A,n,cap,li,sz):=by kernel_rfl) (hx:hards.contains i=false:=by kernel_rfl):RDO r P N D F w0 R hards Rd i s Q:=by
 unfold Qf at h;split at h
 case h_2=>cases h
 rename_i o q0;split at h
 case h_2=>cases h
 rename_i y hv hp;simp only[Option.some.injEq] at h;rw[h] at hv;clear h;obtain⟨t,x,lo,elem,inf,q1,q2,q3,q4,q5,q6,q7,q8⟩:=wp hv;obtain⟨c,k,L,Bs,Ts⟩:=s;unfold k9 at q0;cases c with
 | code c=>cases q0
 | ex c=>cases q0
 | ops _ _=>cases q0
 | drw ops XG =>
  refine⟨λ hR=>?_⟩;simp only at q0 q3 q5 q6 hp;have Ru:∀v L',eh N o.dst v L=some L' -> vX N i v ⟨.drw ops XG,k,L,Bs,Ts⟩=⟨.drw ops (bn XG i true),k,L',Bs,Ts⟩:=by
   intro v L' hl;unfold vX;simp only[q0,hl]
  refine(kZ (Q:=Q) (by simpa using q0) (σ:=Unit) (λ u _=>u=.slice (slA A l sz cap) (n-l) (cap-l)) (λ _=>ap Bs Ts) hp (λ a hF=>⟨by simp[Region.wanted,q1],λ w aT hB=>?_⟩) (λ _=>⟨λ _=>⟨[],rfl⟩,λ hi=>?_⟩) ?_:RDO r P N D F w0 R hards Rd i ⟨.drw ops XG,k,L,Bs,Ts⟩ Q).h hR
  ·simp only[ab1] at q3;have e1:=(hF.eval q3.1).trans q5;have e2:=(hF.eval q3.2).trans q6;have k1:=iK (P:=P) (ρ:=a.eval) (lo:=some lo) (hi:=none) (l:=l) (h:=n) (len:=n) (cap:=cap) (by show CT _ _ _ _;unfold CT;simp only[e2];exact hl) rfl h1 h2 w;have k2:=λ W=>cZ q7 W;have k3:=λ W=>aG q4 W;unfold dt;have he:(execOp a.eval o).run P w=.ok (.value (.slice (slA A l sz cap) (n-l) (cap-l))) w:=by
    rw[show Option.map a.eval none=none from rfl,show Option.map a.eval (some lo)=some (a.eval lo) from rfl] at k1;simp[execOp,q2,Instr.sliceAt,Instr.slice,e1,k3,Go.sizeOf,k2,ace,k1,slA,q8]
   rw[he];exact⟨(),rfl,aT,Below.refl _ _⟩
  ·have h3:hards.contains i=true:=List.contains_iff_mem.2 hi;rw[hx] at h3;cases h3
  ·rintro u _ rfl L' RX hs;have h3:=hk.h hR;rw[Ru _ L' RX] at h3;exact h3 hs
end
theorem yx(mb cb n:Nat)(A:Option Addr)(m cap:Nat)(base mk:Int)(F:HL)(hm:(mb,.lit [vS cb 0 n n,.slice A m cap,vI base] 162 (0,0))∈F)(hb:0 <= base /\ base <= 1000000000)(hl:m <= 100000000)(h1:base <= mk)(h2:mk <= base+(m:Int)):Sp Tryz.prog 84 #[vP mb 0,vI mk] [] F (λ u H'=>u=vI 0 /\ H'=[]):=by
 refine aat Tryz.func84 rfl (mc hm mn) (A:=[]) (Ts:=[]) rfl λ w0=>?_;refine ae 18 [.ro 0] λ _=>aal (mk<base) 5 (λ h1=>?_) λ h1=>?_
 ·(exfalso;omega)
 ·refine ae 5 [] λ _=>aah (ub mb cb n A m cap base _ (az hm) hb hl)<|ae 4 [] λ _=>aal (mk>base+(m:Int)) 12 (λ h2=>?_) λ h2=>?_
  ·(exfalso;omega)
  ·refine ae 9 [] λ _=>?_;exact aap [] [] [] ⟨rfl,rfl⟩
abbrev PY(x:Nat × Int × Int):Array Value:=#[vI (x.1:Int),.agg #[vI x.2.1,vI x.2.2]]
def JP(es:List (Int × Int)):List (Nat × Int × Int):=(List.range es.length).map λ k=>(es.length-1-k,es.getD (es.length-1-k) (0,0))
theorem vC(es:List (Int × Int)):(JP es).length=es.length:=by simp[JP]
theorem Cw{es:List (Int × Int)}{k:Nat}(h:k<es.length):(JP es)[k]?=some (es.length-1-k,es.getD (es.length-1-k) (0,0)):=by simp[JP,h]
theorem IL{es:List (Int × Int)}{i:Nat}{x:Nat × Int × Int}(e:(JP es)[i]?=some x):i<es.length /\ x=(es.length-1-i,es.getD (es.length-1-i) (0,0)):=by
 have h1:i<es.length:=by have:=(List.getElem?_eq_some_iff.1 e).1;rwa [vC] at this
 rw[Cw h1] at e;exact⟨h1,(Option.some.inj e).symm⟩
def mr(cs:List Int)(es:List (Int × Int))(j:Nat):List Int:=gO cs (es.drop (es.length-j))
theorem oc(cs:List Int):∀es:List (Int × Int),(gO cs es).length=cs.length
 | []=>rfl
 | e::es=>by
  show ((gO cs es).set _ _).length=_;rw[List.length_set,oc cs es]
theorem EG(cs:List Int)(es:List (Int × Int)):mr cs es 0=cs:=by unfold mr;rw[Nat.sub_zero,List.drop_length];rfl
theorem IM(cs:List Int)(es:List (Int × Int)):mr cs es es.length=gO cs es:=by unfold mr;rw[Nat.sub_self];rfl
theorem EH{cs:List Int}{es:List (Int × Int)}{j:Nat}(h:j<es.length):mr cs es (j+1)=(mr cs es j).set (es.getD (es.length-1-j) (0,0)).1.toNat (es.getD (es.length-1-j) (0,0)).2:=by
 have iF:es.length-1-j<es.length:=by omega
 unfold mr;rw[show es.length-(j+1)=es.length-1-j by omega,List.drop_eq_getElem_cons iF,show es.length-1-j+1=es.length-j by omega,aaJ,abt iF];rfl
theorem SlIs.capLe{α:Type}{e:Enc α}{T:TypeId}{l:List α}{A:Option Addr}{cap:Nat}{Hl:HL}(h:SlIs e T l A cap Hl):l.length <= cap:=by
 rcases h with ⟨_,rfl,rfl,_⟩|⟨b,o,full,_,_,h1,h2,h3⟩
 ·exact aa0 _
 ·exact h2
theorem iG{α:Type}{l:List α}{i:Nat}(h:i<l.length)(d:α):l.getD i d∈l:=by
 rw[aaJ,abt h];exact List.getElem_mem h
theorem SlIs.take{α:Type}{e:Enc α}{T:TypeId}{l:List α}{A:Option Addr}{cap:Nat}{Hl:HL}(h:SlIs e T l A cap Hl)(k:Nat):SlIs e T (l.take k) A cap Hl:=by
 rcases h with ⟨rfl,rfl,rfl,rfl⟩|⟨b,o,full,h1,h2,h3,h4,h5⟩
 ·rw[List.take_nil];exact aas _ _
 ·refine .inr ⟨b,o,full,h1,h2,h3,by rw[abk];omega,?_⟩;rw[abk]
  conv=>rhs;rw[<- h5]
  rw[List.take_take]
theorem IO{cs:List Int}{es:List (Int × Int)}{j:Nat}{a b:Int}(h:j<es.length)(e:(a,b)=es.getD (es.length-1-j) (0,0))(h2:a.toNat<cs.length):dD (aU (mr cs es j)) a.toNat 0 (vI b)=aU (mr cs es (j+1)):=by
 rw[fT (by unfold mr;rw[oc];exact h2),EH h,<- e]
theorem IP(es:List (Int × Int))(A:Option Addr)(c q lp:Nat)(X F:HL)(J:Nat -> HL -> Prop)(Jx:HL -> Prop)(T0:HL)(hn:es.length <= 100000000)(hl:RowL iY 195 F A es.length es)(hq:(q,.lit [.slice A es.length c] 160 (0,0))∈F)(hY:∀i x H Y,(JP es)[i]?=some x -> J i H -> YL Tryz.prog lp (PY x) H (Y++(X++F)) (λ b H'=>(b=true /\ J (i+1) H') \/ (b=false /\ Jx H')))(Ue:J 0 T0):Sp Tryz.prog 127 #[.func (.yield lp) #[] #[],vP q 0] (ap [] [T0]) (X++F) (λ _ H'=>J (JP es).length H' \/ Jx H'):=by
 refine aat Tryz.func127 rfl (mc (aav _ hq) mn) (A:=[]) (Ts:=[T0]) rfl λ w0=>?_;refine aj 9 [.ro 0,.nw] [bx ((es.length:Int)-1)] λ _=>aN 3 (congrArg (λ v_=>(vI v_:Value)) (show (es.length:Int)-1=(es.length:Int)-1-((0:Nat):Int) by omega))<|aan (σ:=Nat × HL) (λ ⟨k,T_⟩=>⟨[(0,.func (.yield lp) #[] #[]),(1,vP q 0),(3,vI ((es.length:Int)-1-(k:Int)))],[],[T_],k <= es.length /\ J k T_,es.length-k⟩) (0,T0) [] [0] (⟨aa9 _,Ue⟩) ?_;rintro⟨k,T_⟩ ⟨VS,R4⟩ R9;refine ae 7 [] λ _=>aal ((es.length:Int)-1-(k:Int) >= 0) 8 (λ h3=>?_) λ h3=>?_
 ·refine ae 11 [.ro 0] λ _=>?_;obtain⟨qx4,Tj,Z6,fx4,acq,Va,UZ,abd,VW⟩:=(hl.up (X:=X)).at (k:=(es.length-1-k)) (by omega);refine aN 13 (congrArg (λ v_=>(.slice v_ es.length c:Value)) Va)<|RN.ro (λ _=>(mc (aav _ hq) (mc UZ mn)))<|aj 2 [.ix (es.length-1-k),.rorow 1 (Tj+(es.length-1-k)) 0,.rorow 1 (Tj+(es.length-1-k)) 1] [((Tj*2+(es.length-1-k)*2)+1)=(Tj+(es.length-1-k))*2+1 /\ (Tj+(es.length-1-k))<Z6,(Tj*2+(es.length-1-k)*2)=(Tj+(es.length-1-k))*2+0 /\ (Tj+(es.length-1-k))<Z6,(es.length:Int)-1-(k:Int)=(((es.length-1-k):Nat):Int) /\ (es.length-1-k)<es.length] λ _=>aN 16 (congrArg (λ v_=>(.agg #[vI v_.1,vI v_.2]:Value)) VW)<|aN 12 (congrArg (λ v_=>(vI v_:Value)) (show (es.length:Int)-1-(k:Int)=((es.length-1-k:Nat):Int) by omega))<|aar 0 (hY k (es.length-1-k,es.getD (es.length-1-k) (0,0)) _ _ (Cw (by omega)) R4) ?_;rintro b_ T5 (⟨rfl,hJ6⟩|⟨rfl,hJ6⟩)
  ·refine aj 12 [.gen,.nw] [bx (((es.length:Int)-1-(k:Int))-1)] λ _=>aN 3 (congrArg (λ v_=>(vI v_:Value)) (show ((es.length:Int)-1-(k:Int))-1=(es.length:Int)-1-((k+1:Nat):Int) by omega)) ?_;refine R9 (k+1,T5) [] [0] ?_
   try dsimp only
   exact⟨⟨by omega,hJ6⟩,by omega⟩
  ·refine ae 4 [] λ _=>aap [] [] [0] (v:=.tuple #[]) (H':=(ap [] [T5])) ?_;rw[bj];exact .inr hJ6
 ·refine ae 5 [] λ _=>aap [] [] [0] (v:=.tuple #[]) (H':=(ap [] [T_])) ?_;rw[bj];obtain rfl:k=es.length:=by omega
  exact .inl (by rw[vC];exact R4)
theorem Lp(es:List (Int × Int))(n:Nat)(A:Option Addr)(c q:Nat)(F:HL)(hn:es.length <= 100000000)(e:es.length=n)(hl:RowL iY 195 F A n es)(hq:(q,.lit [.slice A n c] 160 (0,0))∈F):It Tryz.prog 127 #[vP q 0] F PY (JP es):=by
 subst e;intro X l J Jx H0 hY h0;have key:=IP es A c q l X F J Jx H0 hn hl hq hY h0;rw[bj] at key;exact key
theorem IQ(A:Option Addr)(m c:Nat)(F:HL):Sp Tryz.prog 104 #[.slice A m c] (ap [] []) F (λ u H'=>∃n:Nat,H'=ap [((n+0),.lit [.slice A m c] 160 (0,0))] [] /\ u=.func (.func 127) #[] #[vP (n+0) 0]):=by
 refine aat Tryz.func104 rfl mn (A:=[]) (Ts:=[]) rfl λ w0=>?_;refine ae 12 [] λ n1=>aap [] [0] [] (v:=.func (.func 127) #[] #[vP (n1+0) 0]) (H':=(ap [((n1+0),.lit [.slice A m c] 160 (0,0))] [])) ?_;exact⟨_,rfl,rfl⟩
theorem IR(mb cb n0 k cap:Nat)(M:MemS)(A:Option Addr)(Hl F:HL)(hs:SlIs iY 195 M.lg A cap Hl)(hc:M.cs.length <= 1000000)(hl:M.lg.length+k <= 100000000)(hb:0 <= M.base /\ M.base <= 1000000000)(Sd:n0 <= M.lg.length)(RG:∀e∈(M.lg.drop n0),0 <= e.1 /\ e.1<(M.cs.length:Int)):Sp Tryz.prog 82 #[vP mb 0,vI (M.base+(n0:Int))] (ap [(mb,.lit [vS cb 0 M.cs.length M.cs.length,.slice A M.lg.length cap,vI M.base] 162 (0,0)),(cb,.rows 1 M.cs.length (aU M.cs) 3 (0,0))] [Hl]) F (λ u H'=>u=vI 0 /\ MemH mb ⟨gO M.cs (M.lg.drop n0),M.lg.take n0,M.base⟩ k H'):=by
 have Y0:M.lg.length <= cap:=hs.capLe;refine Sp.runM Tryz.func82 rfl mn (A:=[(mb,.lit [vS cb 0 M.cs.length M.cs.length,.slice A M.lg.length cap,vI M.base] 162 (0,0)),(cb,.rows 1 M.cs.length (aU M.cs) 3 (0,0))]) (Ts:=[Hl]) rfl λ w0=>?_;refine ae 11 [.own 0] λ n1=>aah (yx mb cb M.cs.length A M.lg.length cap M.base (M.base+(n0:Int)) _ (av 1) hb (by omega) (by omega) (by omega))<|aj 25 [.own 0,.own 1,.nw] [bx ((M.base+(n0:Int))-M.base)] λ _=>aN 6 (congrArg (λ v_=>(vI v_:Value)) (show M.base+(n0:Int)-M.base=(n0:Int) by omega))<|ae 6 [.own 0,.own 1] λ _=>RN.slA (A:=A) (n:=M.lg.length) (cap:=cap) (l:=n0) (sz:=2) rfl (by omega) Y0<|aai (Hp:=[]) (Tp:=[]) [] [] (IQ (slA A n0 2 cap) (M.lg.length-n0) (cap-n0) _) ?_;rintro _ m2 rfl;refine ae 3 [] λ _=>RN.bv 3 (congrArg (λ v_=>(.rows 1 M.cs.length v_ 3 (0,0):Blk)) (show (aU M.cs)=(aU (mr M.cs (M.lg.drop n0) 0)) from (congrArg aU (EG M.cs (M.lg.drop n0)).symm)))<|RN.range (σ:=Nat) (τ:=Nat × Nat × Int × Int) (encs:=λ (x_:Nat × Int × Int)=>#[vI (x_.1:Int),.agg #[vI x_.2.1,vI x_.2.2]]) (xs:=(JP (M.lg.drop n0))) (enters_of Tryz.func127 (by kernel_rfl) rfl) (λ m_=>([(cb,.rows 1 M.cs.length (aU (mr M.cs (M.lg.drop n0) m_)) 3 (0,0))],[])) (λ i_ m_=>m_=i_) (λ c_ m_=>False) (λ ⟨m_,p_,a_,b_⟩=>⟨[(2,vP (n1+0) 0),(6,vI (n0:Int)),(8,vP p_ 0)],[(cb,.rows 1 M.cs.length (aU (mr M.cs (M.lg.drop n0) m_)) 3 (0,0)),(p_,.lit [vI a_,vI b_] 195 (0,0))],[],True,0⟩) (λ i_ x_ ⟨m_,p_,a_,b_⟩=>m_=i_ /\ i_<(M.lg.drop n0).length /\ (a_,b_)=(M.lg.drop n0).getD ((M.lg.drop n0).length-1-i_) (0,0)) 0 rfl [3] [] (Lp (M.lg.drop n0) (M.lg.length-n0) _ (cap-n0) (m2+0) _ (by rw[abq];omega) (by rw[abq]) (hs.drop (au 0) rfl (by omega)) (av 0)) ?_ ?_ ?_ ?_
 ·rintro l_ i_ x_ m_ Y3 w4 hx5 rfl WK;refine ae 4 (aab 2) λ n7=>?_;refine WK (m_,(n7+0),x_.2.1,x_.2.2) [1,0] [] ?_
  try dsimp only
  exact⟨rfl,(IL hx5).1,by rw[(IL hx5).2]⟩
 ·rintro l_ i_ x_ ⟨m_,p_,a_,b_⟩ Y8 w9 aaM ⟨rfl,aeN,V8⟩;have YU:=RG _ (iG (l:=(M.lg.drop n0)) (i:=(M.lg.drop n0).length-1-m_) (by omega) (0,0));rw[<- V8] at YU
  replace YU:0 <= a_ /\ a_<(M.cs.length:Int):=YU
  refine ae 1 [] λ _=>aak [9] []<|aD [] [0,4,6,1,5,7,2,3,8] [.ro 1,.own 1,.own 1,.ro 2,.ix a_.toNat] [a_=((a_.toNat:Nat):Int) /\ a_.toNat<M.cs.length]<|aae 9 (fS [] [.row 0 a_.toNat 0] [(0+a_.toNat*1)=a_.toNat*1+0 /\ a_.toNat<M.cs.length] λ _=>?_);refine aad<|ae 1 [] λ _=>RN.bv 0 (congrArg (λ v_=>(.rows 1 M.cs.length v_ 3 (0,0):Blk)) (show (dD (aU (mr M.cs (M.lg.drop n0) m_)) a_.toNat 0 (vI b_))=(aU (mr M.cs (M.lg.drop n0) (m_+1))) from (IO aeN V8 (by omega))))<|RN.rn (m_+1) [0] [] ?_
  try dsimp only
  first|done|rfl
 ·rintro d11 m_  rfl;refine ae 3 [] λ _=>aak [9] []<|aD [] [0,1,5,2,3,4,6,7,8] [.own 3,.own 3,.own 4,.sl0 n0] [(n0:Int)=((n0:Nat):Int) /\ n0 <= cap]<|aae 9 (aag [] [.own 4] λ _=>?_);refine aad<|ae 6 [] λ _=>RN.retM [d11] [0] [] [3,0] [0] (v:=vI 0) (H':=(ap [(mb,.lit [vS cb 0 M.cs.length M.cs.length,.slice A n0 cap,vI M.base] 162 (0,0)),(cb,.rows 1 M.cs.length (aU (mr M.cs (M.lg.drop n0) (JP (M.lg.drop n0)).length)) 3 (0,0))] [Hl])) ?_;refine⟨rfl,?_⟩;rw[vC,IM];have h_:=MemH.mk (mb:=mb) (M:=⟨gO M.cs (M.lg.drop n0),M.lg.take n0,M.base⟩) (k:=k) cb A cap Hl (hs.take n0) (by show (gO _ _).length <= _;rw[oc];exact hc) (by rw[abk];omega);have X5:(gO M.cs (M.lg.drop n0)).length=M.cs.length:=oc _ _;have Vo:(M.lg.take n0).length=n0:=by rw[abk];omega
  dsimp only at h_;rw[X5,Vo] at h_;exact h_
 ·exact λ _ _ _ h=>h.elim
theorem IU{mb n0 k k2:Nat}{M:MemS}{T:HL}(F:HL)(h:MemH mb M k T)(hk:k2 <= k)(hb:0 <= M.base /\ M.base <= 1000000000)(Sd:n0 <= M.lg.length)(RG:∀e∈(M.lg.drop n0),0 <= e.1 /\ e.1<(M.cs.length:Int)):Sp Tryz.prog 82 #[vP mb 0,vI (M.base+(n0:Int))] (ap [] [T]) F (λ u H'=>∃x,H'=ap [] [x] /\ (u=vI 0 /\ MemH mb ⟨gO M.cs (M.lg.drop n0),M.lg.take n0,M.base⟩ k2 x)):=by
 rw[bj];cases h with
 | mk cb A cap Hl hs hc hl=>exact(IR mb cb n0 k2 cap M A Hl F hs hc (by omega) hb Sd RG).tl
theorem yz(cs:List Int)(a b:List (Int × Int)):gO cs (a++b)=gO (gO cs b) a:=by unfold gO;rw[List.foldr_append]
theorem ud(cs:List Int):∀es:List (Int × Int),(gO cs es).length=cs.length
 | []=>rfl
 | e::es=>by
  show ((gO cs es).set _ _).length=_;rw[List.length_set,ud cs es]
def lz(M:MemS)(n:Nat):MemS:=⟨gO M.cs (M.lg.drop n),M.lg.take n,M.base⟩
def ig(M:MemS)(n:Nat):MemS:=⟨M.cs,M.lg.drop n,M.base+(n:Int)⟩
structure Rst(M:MemS)(mk:Int)(c:List Int):Prop where
 lo:M.base <= mk
 hi:mk <= M.base+(M.lg.length:Int)
 und:gO M.cs (M.lg.drop (mk-M.base).toNat)=c
 ent:∀e∈M.lg.drop (mk-M.base).toNat,0 <= e.1 /\ e.1<(M.cs.length:Int)
theorem Rst.now(M:MemS):Rst M (M.base+(M.lg.length:Int)) M.cs:=by
 have e:(M.base+(M.lg.length:Int)-M.base).toNat=M.lg.length:=by omega
 refine⟨by omega,by omega,?_,?_⟩
 ·rw[e,List.drop_length];rfl
 ·rw[e,List.drop_length];intro e he;cases he
theorem Rst.tick{M:MemS}{mk:Int}{c:List Int}(g:Gm)(h:Rst M mk c):Rst (gm g M) mk c:=by
 obtain⟨es,h1,h2,h3⟩:=Ni g M;have hl:=h.lo;have hh:=h.hi;have e:(gm g M).lg.drop (mk-M.base).toNat=M.lg.drop (mk-M.base).toNat++es:=by rw[h1,List.drop_append_of_le_length (by omega)]
 refine⟨by rw[h2];exact hl,by rw[h1,h2,abi];omega,?_,?_⟩
 ·rw[h2,e,yz];have:=h3.und;rw[show gO (gm g M).cs es=M.cs from this];exact h.und
 ·rw[h2,e];have hlen:(gm g M).cs.length=M.cs.length:=h3.len;intro x hx;rw[hlen];rcases List.mem_append.1 hx with hx|hx
  ·exact h.ent x hx
  ·exact h3.ent x hx
theorem Rst.undo{M:MemS}{mk:Int}{c:List Int}{n:Nat}(h:Rst M mk c)(h1:mk <= M.base+(n:Int))(h2:n <= M.lg.length):Rst (lz M n) mk c:=by
 have hl:=h.lo;have e:M.lg.drop (mk-M.base).toNat=(M.lg.take n).drop (mk-M.base).toNat++M.lg.drop n:=by
  conv=>lhs;rw[<- acn n M.lg]
  rw[List.drop_append_of_le_length (by rw[abk];omega)]
 refine⟨hl,by show mk <= M.base+((M.lg.take n).length:Int);rw[abk,Nat.min_eq_left h2];exact h1,?_,?_⟩
 ·show gO (gO M.cs (M.lg.drop n)) ((M.lg.take n).drop (mk-M.base).toNat)=c;rw[<- yz,<- e];exact h.und
 ·intro x hx;show 0 <= x.1 /\ x.1<((gO M.cs (M.lg.drop n)).length:Int);rw[ud];exact h.ent x (by rw[e];exact aaw _ hx)
theorem Rst.disc{M:MemS}{mk:Int}{c:List Int}{n:Nat}(h:Rst M mk c)(h1:M.base+(n:Int) <= mk)(h2:n <= M.lg.length):Rst (ig M n) mk c:=by
 have hh:=h.hi;have hl:=h.lo;have e:(M.lg.drop n).drop (mk-(M.base+(n:Int))).toNat=M.lg.drop (mk-M.base).toNat:=by
  rw[List.drop_drop];congr 1;omega
 refine⟨h1,by show mk <= M.base+(n:Int)+((M.lg.drop n).length:Int);rw[abq];omega,?_,?_⟩
 ·show gO M.cs ((M.lg.drop n).drop (mk-(M.base+(n:Int))).toNat)=c;rw[e];exact h.und
 ·show ∀x∈(M.lg.drop n).drop (mk-(M.base+(n:Int))).toNat,_;rw[e];exact h.ent
section
variable {ρ:Type} (g:Nat -> ρ -> Gm)
def AP:Nat -> List Int -> List ρ -> List Int
 | _,c,[]=>c
 | t,c,r::V=>AP (t+1) (gm (g t r) ⟨c,[],0⟩).cs V
def Fh:Nat -> List Int -> List ρ -> List (List Eff)
 | _,_,[]=>[]
 | t,c,r::V=>my (g t r) ⟨c,[],0⟩::Fh (t+1) (gm (g t r) ⟨c,[],0⟩).cs V
theorem rP(r:ρ):∀ (V:List ρ) (t:Nat) (c:List Int),AP g t c (V++[r])=(gm (g (t+V.length) r) ⟨AP g t c V,[],0⟩).cs
 | [],_,_=>rfl
 | x::V,t,c=>by
  show AP g (t+1) _ (V++[r])=_;rw[rP r V (t+1)];show _=(gm (g (t+(V.length+1)) r) ⟨AP g (t+1) _ V,[],0⟩).cs;rw[show t+1+V.length=t+(V.length+1) by omega]
theorem yA(r:ρ):∀ (V:List ρ) (t:Nat) (c:List Int),Fh g t c (V++[r])=Fh g t c V++[my (g (t+V.length) r) ⟨AP g t c V,[],0⟩]
 | [],_,_=>rfl
 | x::V,t,c=>by
  show _::Fh g (t+1) _ (V++[r])=_;rw[yA r V (t+1)];show _=_::(Fh g (t+1) _ V++[my (g (t+(V.length+1)) r) ⟨AP g (t+1) _ V,[],0⟩]);rw[show t+1+V.length=t+(V.length+1) by omega]
theorem Cx:∀ (V:List ρ) (t:Nat) (c:List Int),(Fh g t c V).length=V.length
 | [],_,_=>rfl
 | x::V,t,c=>by
  show (Fh g (t+1) _ V).length+1=V.length+1;rw[Cx V]
theorem yB:∀ (V:List ρ) (t:Nat) (c:List Int) (n:Nat),(Fh g t c V).take n=Fh g t c (V.take n)
 | [],_,_,n=>by cases n <;> rfl
 | x::V,t,c,0=>rfl
 | x::V,t,c,n+1=>by
  show _::(Fh g (t+1) _ V).take n=_::Fh g (t+1) _ (V.take n);rw[yB V]
structure PS(ρ:Type) where
 M:MemS
 a:Nat
 ms:List Int
 rows:List ρ
 ck:Nat
 used:List ρ
 effs:List (List Eff)
 rb:Nat
variable (c0:List Int) (w:Nat)
structure PInv(S:PS ρ)(V:List ρ)(m:Nat):Prop where
 cs:S.M.cs=AP g 0 c0 V
 effs:S.effs=Fh g 0 c0 V
 ck:S.ck <= m
 mV:m <= V.length
 mR:m <= S.rows.length
 eq:V.take m=S.rows.take m
 used:S.used=V.drop S.ck
 win:V.length <= S.rows.length+w
 ring:(S.ms=[] /\ V=[]) \/ (S.ms≠[] /\ (S.a+S.ms.length=V.length \/ S.a+S.ms.length=V.length+1))
 rst:∀ (i:Nat) (k:Int),S.ms[i]?=some k -> Rst S.M k (AP g 0 c0 (V.take (S.a+i)))
 mono:∀ (i j:Nat) (k l:Int),i <= j -> S.ms[i]?=some k -> S.ms[j]?=some l -> k <= l
 back:S.ms≠[] -> S.a <= m
 room:S.ms.length <= w
variable {g c0 w}
variable {S:PS ρ} {V:List ρ} {m:Nat}
theorem rQ(M:MemS)(a:Nat):PInv g M.cs w (⟨M,a,[],[],0,[],[],0⟩:PS ρ) [] 0 :=
 ⟨rfl,rfl,aa0 _,aa0 _,aa0 _,rfl,rfl,aa9 _,.inl ⟨rfl,rfl⟩,λ i k h=>(by cases i <;> cases h),λ i j k l _ h=>(by cases i <;> cases h),λ h=>absurd rfl h,aa9 _⟩
def fY(S:PS ρ)(r:ρ):PS ρ:={ S with rows:=S.rows++[r] }
theorem PInv.conf(h:PInv g c0 w S V m)(r:ρ):PInv g c0 w (fY S r) V m:=by
 have h1:=h.mR;refine⟨h.cs,h.effs,h.ck,h.mV,by show m <= (S.rows++[r]).length;rw[abi];omega,?_,h.used,by show _ <= (S.rows++[r]).length+w;rw[abi];have:=h.win;omega,h.ring,h.rst,h.mono,h.back,h.room⟩;show V.take m=(S.rows++[r]).take m;rw[List.take_append_of_le_length h1];exact h.eq
def yC(S:PS ρ)(x:Nat):PS ρ:={ S with M:=lz S.M ((S.ms.getD (x-S.a) 0)-S.M.base).toNat,ms:=S.ms.take (x-S.a+1),used:=S.used.take (x-S.ck),effs:=S.effs.take x,rb:=S.rb+1 }
theorem PInv.roll(h:PInv g c0 w S V m){x:Nat}(h1:m <= x)(h2:x<V.length)(h3:∀t,m <= t -> t<x -> V[t]?=S.rows[t]?)(h4:x <= S.rows.length):PInv g c0 w (yC S x) (V.take x) x:=by
 have UN:=h.ck;have hmV:=h.mV;have At:S.ms≠[]:=by
  rcases h.ring with ⟨_,e⟩|⟨e,_⟩
  ·rw[e] at h2;simp at h2
  ·exact e
 have ZT:=h.back At;have hlen:x-S.a<S.ms.length:=by
  rcases h.ring with ⟨e,_⟩|⟨_,e|e⟩
  ·exact absurd e At
  ·omega
  ·omega
 obtain⟨mk,TY⟩:∃mk,S.ms[x-S.a]?=some mk:=⟨_,abt hlen⟩;have hr:=h.rst _ _ TY;have YK:=hr.lo;have hhi:=hr.hi;have eg:S.ms.getD (x-S.a) 0=mk:=by rw[aaJ,TY];rfl
 have ex:S.a+(x-S.a)=x:=by omega
 rw[ex] at hr;have hn:(mk-S.M.base).toNat <= S.M.lg.length:=by omega
 have hn2:S.M.base+((mk-S.M.base).toNat:Int)=mk:=by omega
 have lV:(V.take x).length=x:=by rw[abk];omega
 refine⟨?_,?_,by show S.ck <= x;omega,by rw[lV];exact aa0 _,h4,?_,?_,by rw[lV];show x <= S.rows.length+w;omega,?_,?_,?_,λ _=>by show S.a <= x;omega,by show (S.ms.take _).length <= w;rw[abk];have:=h.room;omega⟩
 ·show gO S.M.cs (S.M.lg.drop (S.ms.getD (x-S.a) 0-S.M.base).toNat)=_;rw[eg];exact hr.und
 ·show S.effs.take x=_;rw[h.effs,yB]
 ·show (V.take x).take x=S.rows.take x;rw[List.take_take,Nat.min_self];apply List.ext_getElem?;intro t;rw[acm,acm];split
  ·next ht =>
   by_cases hm:m <= t
   ·exact h3 t hm ht
   ·have:=congrArg (·[t]?) h.eq;simpa [acm,show t<m by omega] using this
  ·rfl
 ·show S.used.take (x-S.ck)=(V.take x).drop S.ck;rw[h.used,List.drop_take]
 ·right;refine⟨?_,.inr ?_⟩
  ·show S.ms.take (x-S.a+1)≠[];intro e;have:=congrArg List.length e;rw[abk,List.length_nil] at this;omega
  ·show S.a+(S.ms.take (x-S.a+1)).length=_;rw[abk,lV];omega
 ·intro i k hk;have hk:(S.ms.take (x-S.a+1))[i]?=some k:=hk;rw[acm] at hk;split at hk
  ·next hi =>
   have hri:=h.rst i k hk;have hle:=h.mono i (x-S.a) k mk (by omega) hk TY;have:=hri.undo (n:=(S.ms.getD (x-S.a) 0-S.M.base).toNat) (by rw[eg];omega) (by rw[eg];exact hn);show Rst (lz S.M _) k (AP g 0 c0 ((V.take x).take (S.a+i)));rw[List.take_take,Nat.min_eq_left (by omega)];exact this
  ·cases hk
 ·intro i j k l Xa hk hl;have hk:(S.ms.take (x-S.a+1))[i]?=some k:=hk;have hl:(S.ms.take (x-S.a+1))[j]?=some l:=hl;rw[acm] at hk hl;split at hk
  ·split at hl
   ·exact h.mono i j k l Xa hk hl
   ·cases hl
  ·cases hk
def ee(w:Nat)(S:PS ρ)(now:Nat):PS ρ :=
 if S.ms≠[] /\ S.a+S.ms.length=now+1 then S else
 let mk:=S.M.base+(S.M.lg.length:Int)
 let a:=if S.ms=[] then now else S.a
 if w<S.ms.length+1 then { S with M:=ig S.M (((S.ms++[mk]).getD 1 0)-S.M.base).toNat,a:=a+1,ms:=(S.ms++[mk]).drop 1 } else { S with a:=a,ms:=S.ms++[mk] }
def lA(g:Nat -> ρ -> Gm)(w:Nat)(S:PS ρ)(now:Nat)(r:ρ):PS ρ :=
 { ee w S now with M:=gm (g now r) (ee w S now).M,used:=S.used++[r],effs:=S.effs++[my (g now r) (ee w S now).M] }
structure PInvP(S:PS ρ)(V:List ρ)(m:Nat):Prop where
 inv:PInv g c0 w S V m
 full:S.ms≠[] /\ S.a+S.ms.length=V.length+1
theorem ne(w:Nat)(S:PS ρ)(now:Nat):(ee w S now).M.cs=S.M.cs /\ (ee w S now).rows=S.rows /\ (ee w S now).ck=S.ck /\ (ee w S now).used=S.used /\ (ee w S now).effs=S.effs /\ (ee w S now).rb=S.rb:=by
 unfold ee;split
 ·exact⟨rfl,rfl,rfl,rfl,rfl,rfl⟩
 ·dsimp only;split <;> exact⟨rfl,rfl,rfl,rfl,rfl,rfl⟩
theorem PInv.push(h:PInv g c0 w S V m)(hw:1 <= w)(hm:m=min V.length S.rows.length)(hv:V.length<S.rows.length+w):PInvP (g:=g) (c0:=c0) (w:=w) (ee w S V.length) V m:=by
 obtain⟨r1,r2,r3,r4,r5,r6⟩:=ne w S V.length
 by_cases hk:S.ms≠[] /\ S.a+S.ms.length=V.length+1
 ·have e:ee w S V.length=S:=by unfold ee;rw[if_pos hk]
  rw[e];exact⟨h,hk⟩
 ·-- one mark more
  have Sl:=Rst.now S.M;generalize TY:S.M.base+(S.M.lg.length:Int)=mk at Sl;obtain⟨a,ha⟩:∃a,a=if S.ms=[] then V.length else S.a:=⟨_,rfl⟩
  have hal:a+S.ms.length=V.length:=by
   rcases h.ring with ⟨e1,e2⟩|⟨e1,e2|e2⟩
   ·rw[ha,if_pos e1,e1];simp
   ·rw[ha,if_neg e1];exact e2
   ·exact absurd ⟨e1,e2⟩ hk
  have UJ:∀ (i:Nat) (k:Int),(S.ms++[mk])[i]?=some k -> Rst S.M k (AP g 0 c0 (V.take (a+i))):=by
   intro i k hi;rcases abX i S.ms.length with iF|To
   ·rw[abD iF] at hi;have At:S.ms≠[]:=by intro e;rw[e] at iF;simp at iF
    have:=h.rst i k hi;rw[ha,if_neg At];exact this
   ·rw[abG To] at hi;have h0:i-S.ms.length=0:=by
     rcases Nat.eq_zero_or_pos (i-S.ms.length) with h0|h0
     ·exact h0
     ·rw[List.getElem?_eq_none (by simp;omega)] at hi;cases hi
    rw[h0] at hi;have e:k=mk:=by simpa using hi.symm
    subst e;rw[show a+i=V.length by omega,List.take_length,<- h.cs];exact Sl
  have C_:∀ (i j:Nat) (k l:Int),i <= j -> (S.ms++[mk])[i]?=some k -> (S.ms++[mk])[j]?=some l -> k <= l:=by
   intro i j k l Xa hi hj;rcases abX j S.ms.length with iF|To
   ·rw[abD iF] at hj;rw[abD (by omega)] at hi;exact h.mono i j k l Xa hi hj
   ·rw[abG To] at hj;have h0:j-S.ms.length=0:=by
     rcases Nat.eq_zero_or_pos (j-S.ms.length) with h0|h0
     ·exact h0
     ·rw[List.getElem?_eq_none (by simp;omega)] at hj;cases hj
    rw[h0] at hj;have e:l=mk:=by simpa using hj.symm
    subst e;have:=(UJ i k hi).hi;omega
  by_cases hlen:w<S.ms.length+1
  ·-- the adB goes
   have e:ee w S V.length={ S with M:=ig S.M (((S.ms++[mk]).getD 1 0)-S.M.base).toNat,a:=a+1,ms:=(S.ms++[mk]).drop 1 }:=by
    unfold ee;rw[if_neg hk];dsimp only;rw[TY,if_pos hlen,<- ha]
   rw[e];have AI:=h.room;have W8:1<(S.ms++[mk]).length:=by rw[abi,List.length_singleton];omega
   obtain⟨k1,SA⟩:∃k1,(S.ms++[mk])[1]?=some k1:=⟨_,abt W8⟩;have eg:(S.ms++[mk]).getD 1 0=k1:=by rw[aaJ,SA];rfl
   have VJ:=UJ 1 k1 SA;have YK:=VJ.lo;have hhi:=VJ.hi;refine⟨⟨h.cs,h.effs,h.ck,h.mV,h.mR,h.eq,h.used,h.win,.inr ⟨?_,.inr ?_⟩,?_,?_,λ _=>?_,?_⟩,?_,?_⟩
   ·intro e2;have e3:((S.ms++[mk]).drop 1).length=0:=congrArg List.length e2;rw[abq,abi,List.length_singleton] at e3;omega
   ·show a+1+((S.ms++[mk]).drop 1).length=_;rw[abq,abi,List.length_singleton];omega
   ·intro i k hi;have hi:((S.ms++[mk]).drop 1)[i]?=some k:=hi;rw[ack] at hi;have h5:=UJ (1+i) k hi;have h6:=C_ 1 (1+i) k1 k (by omega) SA hi;have:=h5.disc (n:=((S.ms++[mk]).getD 1 0-S.M.base).toNat) (by rw[eg];omega) (by rw[eg];omega);show Rst (ig S.M _) k (AP g 0 c0 (V.take (a+1+i)));rw[show a+1+i=a+(1+i) by omega];exact this
   ·intro i j k l Xa hi hj;have hi:((S.ms++[mk]).drop 1)[i]?=some k:=hi;have hj:((S.ms++[mk]).drop 1)[j]?=some l:=hj;rw[ack] at hi hj;exact C_ (1+i) (1+j) k l (by omega) hi hj
   ·show a+1 <= m;omega
   ·show ((S.ms++[mk]).drop 1).length <= w;rw[abq,abi,List.length_singleton];omega
   ·intro e2;have e3:((S.ms++[mk]).drop 1).length=0:=congrArg List.length e2;rw[abq,abi,List.length_singleton] at e3;omega
   ·show a+1+((S.ms++[mk]).drop 1).length=_;rw[abq,abi,List.length_singleton];omega
  ·have e:ee w S V.length={ S with a:=a,ms:=S.ms++[mk] }:=by
    unfold ee;rw[if_neg hk];dsimp only;rw[TY,if_neg hlen,<- ha]
   rw[e];refine⟨⟨h.cs,h.effs,h.ck,h.mV,h.mR,h.eq,h.used,h.win,.inr ⟨by simp,.inr ?_⟩,UJ,C_,λ _=>?_,?_⟩,by simp,?_⟩
   ·show a+(S.ms++[mk]).length=_;rw[abi,List.length_singleton];omega
   ·show a <= m
    by_cases e0:S.ms=[]
    ·rcases h.ring with ⟨_,e2⟩|⟨e1,_⟩
     ·rw[ha,if_pos e0,e2];simp
     ·exact absurd e0 e1
    ·rw[ha,if_neg e0];exact h.back e0
   ·show (S.ms++[mk]).length <= w;rw[abi,List.length_singleton];omega
   ·show a+(S.ms++[mk]).length=_;rw[abi,List.length_singleton];omega
theorem PInv.sim(h:PInv g c0 w S V m)(hw:1 <= w)(hm:m=min V.length S.rows.length)(hv:V.length<S.rows.length+w)(r:ρ)(hr:V.length<S.rows.length -> S.rows[V.length]?=some r):PInv g c0 w (lA g w S V.length r) (V++[r]) (min (V++[r]).length S.rows.length):=by
 obtain⟨r1,r2,r3,r4,r5,r6⟩:=ne w S V.length;obtain⟨hp,At,TP⟩:=h.push hw hm hv;unfold lA;generalize ee w S V.length=S1 at *;have hmR:=h.mR;have UN:=h.ck;have lV:(V++[r]).length=V.length+1:=by rw[abi];rfl
 rw[lV];refine⟨?_,?_,by show S1.ck <= _;rw[r3];omega,by rw[lV];omega,by show _ <= S1.rows.length;rw[r2];omega,?_,?_,by rw[lV];show _ <= S1.rows.length+w;rw[r2];omega,.inr ⟨At,.inl (by rw[lV];exact TP)⟩,?_,hp.mono,λ hn=>by have:=hp.back hn;show S1.a <= _;omega,hp.room⟩
 ·show (gm (g V.length r) S1.M).cs=_;rw[rP,Nat.zero_add];exact uV _ hp.cs
 ·show S.effs++[my (g V.length r) S1.M]=_;rw[yA,Nat.zero_add,h.effs];congr 2;exact zZ _ hp.cs
 ·show (V++[r]).take (min (V.length+1) S.rows.length)=S1.rows.take _;rw[r2]
  by_cases iF:V.length<S.rows.length
  ·have e1:min (V.length+1) S.rows.length=V.length+1:=by omega
   have e2:m=V.length:=by omega
   have heq:=h.eq;rw[e2,List.take_length] at heq;rw[e1,List.take_of_length_le (by rw[lV];exact aa0 _),List.take_add_one,hr iF,<- heq];rfl
  ·have e1:min (V.length+1) S.rows.length=m:=by omega
   rw[e1,List.take_append_of_le_length (by omega)];exact h.eq
 ·show S.used++[r]=(V++[r]).drop S1.ck;rw[r3,List.drop_append_of_le_length (by have:=h.mV;omega),h.used]
 ·intro i k hi;have h5:=(hp.rst i k hi).tick (g V.length r);have VT:i<S1.ms.length:=(List.getElem?_eq_some_iff.1 hi).1;show Rst (gm (g V.length r) S1.M) k (AP g 0 c0 ((V++[r]).take (S1.a+i)));rw[List.take_append_of_le_length (by omega)];exact h5
def Lq(S:PS ρ)(now:Nat):PS ρ:={ S with used:=S.used.drop (min now S.rows.length-S.ck),ck:=min now S.rows.length }
theorem PInv.settle(h:PInv g c0 w S V m)(hm:m=min V.length S.rows.length):PInv g c0 w (Lq S V.length) V m:=by
 have UN:=h.ck;refine⟨h.cs,h.effs,by show min V.length S.rows.length <= m;omega,h.mV,h.mR,h.eq,?_,h.win,h.ring,h.rst,h.mono,h.back,h.room⟩;show S.used.drop (min V.length S.rows.length-S.ck)=V.drop (min V.length S.rows.length);rw[h.used,List.drop_drop];congr 1;omega
theorem PInv.clean(h:PInv g c0 w S V m)(hc:∀t,m <= t -> t<V.length -> t<S.rows.length -> V[t]?=S.rows[t]?):PInv g c0 w S V (min V.length S.rows.length):=by
 have h1:=h.mV;have h2:=h.mR;have h3:=h.ck;refine⟨h.cs,h.effs,by omega,by omega,by omega,?_,h.used,h.win,h.ring,h.rst,h.mono,λ e=>by have:=h.back e;omega,h.room⟩;apply List.ext_getElem?;intro t;rw[acm,acm];split
 ·next ht =>
  by_cases hm:m <= t
  ·exact hc t hm (by omega) (by omega)
  ·have:=congrArg (·[t]?) h.eq;simpa [acm,show t<m by omega] using this
 ·rfl
def wr [DecidableEq ρ](rows:List ρ):Nat -> List ρ -> Option Nat
 | _,[]=>none
 | t,u::l=>match rows[t]? with
  | none=>none
  | some r=>if u=r then wr rows (t+1) l else some t
theorem Cy [DecidableEq ρ]{rows:List ρ}:∀ {l:List ρ} {t:Nat},wr rows t l=none -> ∀i,i<l.length -> t+i<rows.length -> l[i]?=rows[t+i]?
 | [],_,_,i,hi,_=>by cases hi
 | u::l,t,h,i,hi,hr=>by
  rw[wr] at h;have ht:t<rows.length:=by omega
  rw[abt ht] at h;simp only at h;split at h
  ·next e =>
   cases i with
   | zero=>rw[Nat.add_zero,abt ht,<- e];rfl
   | succ i =>
    have:=Cy h i (by simpa using hi) (by omega);rw[List.getElem?_cons_succ,this];congr 1;omega
  ·cases h
theorem vD [DecidableEq ρ]{rows:List ρ}:∀ {l:List ρ} {t x:Nat},wr rows t l=some x -> t <= x /\ x<t+l.length /\ x<rows.length /\ (∀i,t+i<x -> l[i]?=rows[t+i]?) /\ l[x-t]? ≠ rows[x]?
 | [],_,_,h=>by cases h
 | u::l,t,x,h=>by
  rw[wr] at h;split at h
  ·cases h
  ·next r hr =>
   have ht:t<rows.length:=(List.getElem?_eq_some_iff.1 hr).1;split at h
   ·next e =>
    obtain⟨h1,h2,h3,h4,h5⟩:=vD h;refine⟨by omega,by simp only[abr];omega,h3,?_,?_⟩
    ·intro i hi;cases i with
     | zero=>rw[Nat.add_zero,hr,<- e];rfl
     | succ i =>
      rw[List.getElem?_cons_succ,h4 i (by omega)];congr 1;omega
    ·rw[show x-t=(x-(t+1))+1 by omega,List.getElem?_cons_succ];exact h5
   ·next e =>
    simp only[Option.some.injEq] at h;subst h;refine⟨aa0 _,by simp,ht,λ i hi=>absurd hi (by omega),?_⟩;rw[Nat.sub_self,hr];intro e2;exact e (by simpa using e2)
def ga(g:Nat -> ρ -> Gm)(w:Nat)(rf:Nat -> ρ):Nat -> PS ρ -> Nat -> PS ρ
 | 0,S,_=>S
 | n+1,S,now=>ga g w rf n (lA g w S now (rf now)) (now+1)
def jy(rf:Nat -> ρ):Nat -> Nat -> List ρ
 | 0,_=>[]
 | n+1,now=>rf now::jy rf n (now+1)
theorem o0(rf:Nat -> ρ):∀ (n now:Nat),(jy rf n now).length=n
 | 0,_=>rfl
 | n+1,now=>by rw[jy,abr,o0 rf n]
theorem gy(S:PS ρ)(now:Nat)(r:ρ):(lA g w S now r).rows=S.rows /\ (lA g w S now r).rb=S.rb /\ (lA g w S now r).ck=S.ck:=by
 obtain⟨r1,r2,r3,r4,r5,r6⟩:=ne w S now;exact⟨r2,r6,r3⟩
theorem ng(rf:Nat -> ρ):∀ (n:Nat) (S:PS ρ) (now:Nat),(ga g w rf n S now).rows=S.rows /\ (ga g w rf n S now).rb=S.rb /\ (ga g w rf n S now).ck=S.ck
 | 0,_,_=>⟨rfl,rfl,rfl⟩
 | n+1,S,now=>by
  rw[ga];obtain⟨h1,h2,h3⟩:=ng rf n (lA g w S now (rf now)) (now+1);obtain⟨k1,k2,k3⟩:=gy (g:=g) (w:=w) S now (rf now);exact⟨h1.trans k1,h2.trans k2,h3.trans k3⟩
theorem o7(hw:1 <= w)(rf:Nat -> ρ):∀ (n:Nat) (S:PS ρ) (V:List ρ),PInv g c0 w S V (min V.length S.rows.length) -> V.length+n <= S.rows.length+w -> (∀t,t<S.rows.length -> S.rows[t]?=some (rf t)) ->
  PInv g c0 w (ga g w rf n S V.length) (V++jy rf n V.length) (min (V.length+n) S.rows.length)
 | 0,S,V,h,_,_=>by rw[ga,jy,List.append_nil];exact h
 | n+1,S,V,h,hn,hr=>by
  rw[ga,jy];obtain⟨k1,k2,k3⟩:=gy (g:=g) (w:=w) S V.length (rf V.length);have h1:=h.sim hw rfl (by omega) (rf V.length) (hr V.length);have lV:(V++[rf V.length]).length=V.length+1:=by rw[abi];rfl
  have h2:=o7 hw rf n (lA g w S V.length (rf V.length)) (V++[rf V.length]) (by rw[k1];exact h1) (by rw[k1,lV];omega) (by rw[k1];exact hr);rw[lV,k1,aaC] at h2;rw[show V.length+(n+1)=V.length+1+n by omega];exact h2
def adv1 [DecidableEq ρ](S:PS ρ):PS ρ:=match wr S.rows S.ck S.used with
 | some x=>yC S x
 | none=>S
def eD [DecidableEq ρ](S:PS ρ)(now:Nat):Nat:=(wr S.rows S.ck S.used).getD now
def rR [DecidableEq ρ](g:Nat -> ρ -> Gm)(w:Nat)(S:PS ρ)(now T:Nat)(rf:Nat -> ρ):PS ρ :=
 Lq (ga g w rf (T-eD S now) (adv1 S) (eD S now)) T
def yD [DecidableEq ρ](S:PS ρ)(V:List ρ)(T:Nat)(rf:Nat -> ρ):List ρ:=V.take (eD S V.length)++jy rf (T-eD S V.length) (eD S V.length)
theorem PInv.adv1 [DecidableEq ρ](h:PInv g c0 w S V m):PInv g c0 w (adv1 S) (V.take (eD S V.length)) (min (eD S V.length) S.rows.length) /\ (Go.Proofs.YtdppjkjbghbnjaaGreatDoor.adv1 S).rows=S.rows /\ eD S V.length <= V.length /\ m <= eD S V.length /\ (Go.Proofs.YtdppjkjbghbnjaaGreatDoor.adv1 S).rb=S.rb+(if eD S V.length<V.length then 1 else 0):=by
 have hu:=h.used;have h1:=h.mV;have h2:=h.ck;have h3:=h.mR;unfold Go.Proofs.YtdppjkjbghbnjaaGreatDoor.adv1 eD;cases hx:wr S.rows S.ck S.used with
 | none =>
  have hc:=Cy hx;simp only[Option.getD_none];refine⟨?_,by trivial,aa0 _,h1,by simp⟩;rw[List.take_length];refine h.clean λ t ht1 ht2 ht3=>?_;have:=hc (t-S.ck) (by rw[hu,abq];omega) (by omega);rw[hu,ack,show S.ck+(t-S.ck)=t by omega] at this;exact this
 | some x =>
  obtain⟨k1,k2,k3,k4,k5⟩:=vD hx;rw[hu,abq] at k2;simp only[Option.getD_some];have ZL:x<V.length:=by omega
  have YH:m <= x:=by
   rcases abX x m with iF|To
   ·exfalso;apply k5;rw[hu,ack,show S.ck+(x-S.ck)=x by omega];have:=congrArg (·[x]?) h.eq;simpa [acm,iF] using this
   ·exact To
  have hr:=h.roll YH ZL (λ t ht1 ht2=>by
   have:=k4 (t-S.ck) (by omega);rw[hu,ack,show S.ck+(t-S.ck)=t by omega] at this;exact this) (by omega)
  refine⟨?_,rfl,by omega,YH,?_⟩
  ·rw[show min x S.rows.length=x by omega];exact hr
  ·rw[if_pos ZL];rfl
theorem PInv.adv [DecidableEq ρ](h:PInv g c0 w S V m)(hw:1 <= w){T:Nat}(h1:V.length <= T)(h2:T <= S.rows.length+w)(rf:Nat -> ρ)(hr:∀t,t<S.rows.length -> S.rows[t]?=some (rf t)) :
  PInv g c0 w (rR g w S V.length T rf) (yD S V T rf) (min T S.rows.length) /\ (yD S V T rf).length=T /\ (rR g w S V.length T rf).rows=S.rows /\ (rR g w S V.length T rf).rb=S.rb+(if eD S V.length<V.length then 1 else 0):=by
 obtain⟨k1,k2,k3,k4,k5⟩:=h.adv1;unfold rR yD;generalize Go.Proofs.YtdppjkjbghbnjaaGreatDoor.adv1 S=S1 at *;generalize eD S V.length=n1 at *;have lV:(V.take n1).length=n1:=by rw[abk];omega
 have h3:=o7 hw rf (T-n1) S1 (V.take n1) (by rw[lV,k2];exact k1) (by rw[lV,k2];omega) (by rw[k2];exact hr);rw[lV,k2] at h3;obtain⟨r1,r2,r3⟩:=ng (g:=g) (w:=w) rf (T-n1) S1 n1;have lT:(V.take n1++jy rf (T-n1) n1).length=T:=by rw[abi,o0,lV];omega
 have e:n1+(T-n1)=T:=by omega
 rw[e] at h3;have h4:=h3.settle (by rw[lT,r1,k2]);rw[lT] at h4;exact⟨h4,lT,r1.trans k2,r2.trans k5⟩
end
end Go.Proofs.YtdppjkjbghbnjaaGreatDoor
