import Derived.Test.YtjokannbjmndfaaGreatDoorZ02
import Derived.RangeFuncLeaves
import Derived.RecoverIn
import Derived.OrdersIn
set_option linter.all false
set_option maxHeartbeats 4000000
set_option maxRecDepth 100000
namespace Go.Proofs.YtjokannbjmndfaaGreatDoor
open Go.RowKit
noncomputable section
inductive Tr(α:Type) where
 |lf
 |nd (v:α) (l r:Tr α)
noncomputable def fY{α:Type}(d:α)(p:List Bool):Tr α->α :=
 List.rec (motive:=λ _=>Tr α->α) (λ t=>Tr.rec (motive:=λ _=>α) d (λ v _ _ _ _=>v) t) (λ b _ ih t=>Tr.rec (motive:=λ _=>α) d (λ _ l r _ _=>Bool.rec (motive:=λ _=>α) (ih l) (ih r) b) t) p
noncomputable def dL{α:Type}(d x:α)(p:List Bool):Tr α->Tr α :=
 List.rec (motive:=λ _=>Tr α->Tr α) (λ t=>Tr.rec (motive:=λ _=>Tr α) (.nd x .lf .lf) (λ _ l r _ _=>.nd x l r) t)
  (λ b _ ih t=>Tr.rec (motive:=λ _=>Tr α) (Bool.rec (motive:=λ _=>Tr α) (.nd d (ih .lf) .lf) (.nd d .lf (ih .lf)) b) (λ v l r _ _=>Bool.rec (motive:=λ _=>Tr α) (.nd v (ih l) r) (.nd v l (ih r)) b) t) p
noncomputable def I1(k:Nat):Nat->List Bool :=
 Nat.rec (motive:=λ _=>Nat->List Bool) (λ _=>[]) (λ _ ih i=>Nat.rec (motive:=λ _=>List Bool) [] (λ i _=>Nat.beq (i%2) 1::ih (i/2)) i) k
noncomputable def pth(i:Nat):List Bool:=I1 i i
noncomputable def Tr.get{α:Type}(d:α)(t:Tr α)(i:Nat):α:=fY d (pth i) t
noncomputable def Tr.set{α:Type}(d x:α)(t:Tr α)(i:Nat):Tr α:=dL d x (pth i) t
def dE{α:Type}(d:α):List α->Nat->Tr α->Tr α
 | [],_,t=>t
 |x::l,i,t=>match Tr.set d x t i with
  | .lf=>dE d l (i+1) .lf
  | .nd a b c=>dE d l (i+1) (.nd a b c)
def Pr{α:Type}(d:α)(t:Tr α)(i:Nat):Nat->List α
 |0=>[]
 |n+1=>t.get d i::Pr d t (i+1) n
mutual
def pl:Value->Bool
 | .pointer (some _)=>false
 | .slice (some _) _ _=>false
 | .map (some _)=>false
 | .chan _=>false
 | .func fn first captured=>match fn with
  | .func _=>match Oi first with
   |true=>Oi captured
   |false=>false
  |_=>false
 | .iface _ v=>pl v
 | .agg cs=>Oi cs
 | .tuple cs=>Oi cs
 |_=>true
def Oi:Array Value->Bool
 | ⟨l⟩=>yP l
def yP:List Value->Bool
 | []=>true
 |v::l=>match pl v with
  |true=>yP l
  |false=>false
end
inductive AB where
 |cells (n:Nat) (t:Tr Value) (ty:TypeId) (w:Nat) (ro:Bool)
 |map (es:List (Value×Value×Nat)) (clock:Nat)
 |loop (st:LoopState) (pend:Option Code) (T:Tr Value) (N:Nat) (ps:Array Tmp) (assign body:Code) (defers:Nat)
 |dfr (shut:Bool)
abbrev AH:=Tr (Option AB)
structure St where
 T:Tr Value
 D:List Deferred
 H:AH
 n:Nat
abbrev bS(H:AH)(h:Nat):Option AB:=Tr.get none H h
abbrev cJ(H:AH)(h:Nat)(b:Option AB):AH:=Tr.set none b H h
abbrev cK(T:Tr Value)(t:Nat):Value:=Tr.get undef T t
abbrev tK(T:Tr Value)(t:Nat)(v:Value):Tr Value:=Tr.set undef v T t
def l9:Nat:=9223372036854775808
def ael(T:Tr Value):Operand->Value
 | .tmp t=>cK T t
 | .const v=>v
 | .global g=>.pointer (some ⟨g,0,none⟩)
 | .func f=>.func (.func f) #[] #[]
def SA(G:Nat):Operand->Bool
 | .tmp _=>true
 | .const v=>pl v
 | .global g=>Nat.blt g G
 | .func _=>true
def i9:Op->Option (List Operand)
 | .defer c=>match c.callee with
  | .value f=>some (f::c.args.toList)
  |_=>none
 |o=>bV o
def tL(G:Nat):List Operand->Bool
 | []=>true
 |x::l=>match SA G x with
  |true=>tL G l
  |false=>false
def wu(T:Tr Value):List Operand->Bool
 | []=>true
 |x::l=>match pl (ael T x) with
  |true=>wu T l
  |false=>false
def yQ(P:Program){α:Type}:Sem α->Option α
 | .pure a=>some a
 | .program k=>yQ P (k P)
 | .mark _ k=>yQ P k
 |_=>none
def I2(op:BinOp)(a b:Int):Option Bool:=match op with
 | .lss=>some (decide (a<b))
 | .leq=>some (decide (a<=b))
 | .gtr=>some (decide (a>b))
 | .geq=>some (decide (a>=b))
 | .eql=>some (a == b)
 | .neq=>some (a !=b)
 |_=>none
def I3:Value->Value->Option Bool
 | .pointer none,.pointer b=>some b.isNone
 | .pointer (some _),.pointer none=>some false
 | .slice none _ _,.slice b _ _=>some b.isNone
 | .slice (some _) _ _,.slice none _ _=>some false
 | .map none,.map b=>some b.isNone
 | .map (some _),.map none=>some false
 | .nilFunc,.nilFunc=>some true
 | .nilFunc,.func _ _ _=>some false
 | .func _ _ _,.nilFunc=>some false
 | .nilIface,.iface _ _=>some false
 | .iface _ _,.nilIface=>some false
 |_,_=>none
def Mr(P:Program)(t:TypeId)(u:Value):Bool:=match P.underlying t with
 |some (.pointer _)=>match u with | .pointer _=>true|_=>false
 |some (.slice _)=>match u with | .slice _ _ _=>true|_=>false
 |some (.map _ _)=>match u with | .map _=>true|_=>false
 |some (.func _ _ _)=>match u with | .nilFunc=>true | .func _ _ _=>true|_=>false
 |some (.interface _)=>match u with | .nilIface=>true | .iface _ _=>true|_=>false
 |_=>false
def yR(P:Program)(t:TypeId):Bool:=match P.underlying t with
 |some (.struct _)=>false
 |some (.array _ _)=>false
 |some _=>true
 |none=>false
def BN(P:Program)(t:TypeId):Option Nat:=match P.underlying t with
 |some (.struct _)=>(P.info? t).map (·.size)
 |some (.array _ _)=>(P.info? t).map (·.size)
 |_=>none
def eZ(P:Program)(t:TypeId):Option Nat:=(P.info? t).map (·.size)
def yS(P:Program)(t:TypeId)(j:Nat):Option (Nat×TypeId):=match P.underlying t with
 |some (.struct fs)=>match fs[j]? with
  |some f=>match P.info? f.type with
   |some inf=>match inf.size with
    |0=>none
    |_+1=>some (f.offset,f.type)
   |none=>none
  |none=>none
 |_=>none
def ox:List Value->Nat->Option Value
 | [],_=>none
 |v::l,i=>match i with
  |0=>some v
  |i+1=>ox l i
def uI:List Value->Nat->List Value
 | [],_=>[]
 |v::l,i=>match i with
  |0=>v::l
  |i+1=>uI l i
def uJ:List Value->Nat->List Value
 | [],_=>[]
 |v::l,i=>match i with
  |0=>[]
  |i+1=>v::uJ l i
def kU:List Value->List Value->Option (List Value)
 | [],l=>some l
 |_::_,[]=>none
 |v::vs,_::l=>match kU vs l with
  |some l=>some (v::l)
  |none=>none
def fc(vs:List Value):List Value->Nat->Option (List Value)
 | [],i=>match i with
  |0=>kU vs []
  |_+1=>none
 |x::l,i=>match i with
  |0=>kU vs (x::l)
  |i+1=>match fc vs l i with
   |some l=>some (x::l)
   |none=>none
def hO:Value->List Value
 | .agg cs=>cs.toList
 |v=>[v]
def gv:List Value->Nat
 | []=>0
 |_::l=>Nat.succ (gv l)
def oy(P:Program)(t:TypeId)(cs:List Value)(off:Nat):Option Value:=match yR P t with
 |true=>ox cs off
 |false=>match BN P t with
  |some k=>some (.agg ⟨uJ (uI cs off) k⟩)
  |none=>none
def kV(place:Nat->Option (Nat×Nat)):List (Nat×Value)->List Value->Option (List Value)
 | [],l=>some l
 | (i,v)::ps,l=>match place i with
  |some (off,k+1)=>match Nat.beq (gv (hO v)) (k+1) with
   |false=>none
   |true=>match fc (hO v) l off with
    |some l=>kV place ps l
    |none=>none
  |_=>none
def wv(T:Tr Value):List (Nat×Operand)->List (Nat×Value)
 | []=>[]
 | (i,x)::l=>(i,ael T x)::wv T l
def kW(P:Program)(t:TypeId):Option (List Value):=match P.info? t with
 |some i=>match i.zero with
  |some z=>match pl z with
   |true=>some (hO z)
   |false=>none
  |none=>none
 |none=>none
def jU(P:Program):List Field->Option (List (Nat×Nat))
 | []=>some []
 |f::fs=>match eZ P f.type,jU P fs with
  |some k,some l=>some ((f.offset,k)::l)
  |_,_=>none
def I4:List (Nat×Nat)->Nat->Option (Nat×Nat)
 | [],_=>none
 |v::l,i=>match i with
  |0=>some v
  |i+1=>I4 l i
def BO(P:Program)(t:TypeId)(parts:List (Nat×Value)):Option Value:=match kW P t with
 |some z=>match P.underlying t with
  |some (.struct fs)=>match jU P fs.toList with
   |some pls=>match kV (I4 pls) parts z with
    |some l=>some (.agg ⟨l⟩)
    |none=>none
   |none=>none
  |some (.array _ el)=>match eZ P el with
   |some k=>match kV (λ i=>some (i*k,k)) parts z with
    |some l=>some (.agg ⟨l⟩)
    |none=>none
   |none=>none
  |_=>none
 |none=>none
def mE(z:List Value):Nat->List Value
 |0=>[]
 |n+1=>z++mE z n
def nj(T:Tr Value):List Operand->List Value
 | []=>[]
 |x::l=>ael T x::nj T l
def Ly:Value->Option Nat
 | .int _ (.ofNat n)=>some n
 |_=>none
def wx(T:Tr Value)(d:Nat):Option Operand->Option Nat
 |none=>some d
 |some x=>Ly (ael T x)
def BP(a:Addr)(k:Nat):Addr:=match k with
 |0=>a
 |k+1=>⟨a.block,a.off+(k+1),none⟩
def BQ(P:Program)(t:TypeId)(v:Value):Option Nat:=match P.underlying t,v with
 |some (.slice _),.slice _ n _=>some n
 |some .string,.string s=>some s.size
 |_,_=>none
def Ps(P:Program):Call->Option (Operand×TypeId)
 | ⟨.builtin .len,⟨[x]⟩,⟨[t]⟩⟩=>match P.underlying t with
  |some (.slice _)=>some (x,t)
  |some .string=>some (x,t)
  |_=>none
 |_=>none
def Td:Call->Bool
 | ⟨.builtin .min,_,_⟩=>true
 | ⟨.builtin .max,_,_⟩=>true
 |_=>false
inductive Cl where
 |pu|lo|nw|ef
def Tf(P:Program)(c:Call):Cl:=match Ps P c with
 |some _=>.pu
 |none=>match Td c with
  |true=>.pu
  |false=>.ef
def tj(P:Program):Op->Cl
 | .alloc _ | .box _ _ | .buildSlice _ _ _ | .makeSlice _ _ _ | .makeMap _ _=>.nw
 | .load _ _ | .lookup _ _ _ _ | .slice _ _ _ _ _=>.lo
 | .store _ _ _ | .mapUpdate _ _ _ _ | .insert _ _ _ _ | .defer _=>.ef
 | .call c=>Tf P c
 |_=>.pu
def gw(P:Program)(T:Tr Value)(o:Oper):Option Value:=match bV o.op with
 |some l=>match wu T l with
  |true=>match yQ P (execOp (ael T) o) with
   |some (.value v)=>match pl v with
    |true=>some v
    |false=>none
   |_=>none
  |false=>none
 |none=>none
def gQ(P:Program)(o:Oper)(T:Tr Value):Option Value:=match o.op with
 | .move x=>some (ael T x)
 | .assign x=>some (ael T x)
 | .pick c a b=>match ael T c with
  | .bool true=>some (ael T a)
  | .bool false=>some (ael T b)
  |_=>none
 | .build t parts=>BO P t (wv T parts.toList)
 | .nilCheck x=>match ael T x with
  | .pointer (some a)=>some (.pointer (some a))
  | .func (.func f) first captured=>some (.func (.func f) first captured)
  | .iface t v=>some (.iface t v)
  |_=>none
 | .binOp op t x y _=>match ael T x,ael T y with
  | .int k a,.int k' b=>match I2 op a b with
   |some r=>match decide (k=k') with
    |true=>some (.bool r)
    |false=>none
   |none=>gw P T o
  |u,v=>match I3 u v with
   |some r=>match Mr P t u,op with
    |true,.eql=>some (.bool r)
    |true,.neq=>some (.bool (!r))
    |_,_=>none
   |none=>gw P T o
 | .makeInterface t x=>match P.underlying t with
  |some (.interface _)=>none
  |some _=>some (.iface t (ael T x))
  |none=>none
 | .makeFunc fn first captured=>match fn with
  | .func f=>some (.func (.func f) ⟨nj T first.toList⟩ ⟨nj T captured.toList⟩)
  |_=>none
 | .fieldAddr t x j=>match ael T x,yS P t j with
  | .pointer (some a),some (k,_)=>some (.pointer (some (BP a k)))
  |_,_=>none
 | .field t x j=>match ael T x,yS P t j with
  | .agg cs,some (k,ft)=>oy P ft cs.toList k
  |_,_=>none
 | .indexAddr t x i=>match P.underlying t,ael T x,Ly (ael T i) with
  |some (.slice el),.slice (some a) n _,some i=>match Nat.blt i n,eZ P el with
   |true,some k=>some (.pointer (some (BP a (i*k))))
   |_,_=>none
  |some (.array n el),.pointer (some a),some i=>match Nat.blt i n,eZ P el with
   |true,some k=>some (.pointer (some (BP a (i*k))))
   |_,_=>none
  |_,_,_=>none
 | .index t x i=>match P.underlying t,ael T x,Ly (ael T i) with
  |some (.array n el),.agg cs,some i=>match Nat.blt i n,eZ P el with
   |true,some k=>oy P el cs.toList (i*k)
   |_,_=>none
  |_,_,_=>gw P T o
 | .extract x i=>match ael T x with
  | .tuple cs=>ox cs.toList i
  |_=>none
 | .call c=>match Ps P c with
  |some (x,t)=>match BQ P t (ael T x) with
   |some n=>some (.int .i64 (.ofNat n))
   |none=>none
  |none=>gw P T o
 |_=>gw P T o
def gR(t:Tr Value)(i:Nat):Nat->List Value
 |0=>[]
 |k+1=>cK t i::gR t (i+1) k
def uK(P:Program)(t:TypeId)(H:AH)(a:Addr):Option Value:=match a.spot,bS H a.block with
 |none,some (.cells n tr _ _ _)=>match yR P t with
  |true=>match Nat.blt a.off n with
   |true=>some (cK tr a.off)
   |false=>none
  |false=>match BN P t with
   |some k=>match Nat.ble (a.off+k) n with
    |true=>some (.agg ⟨gR tr a.off k⟩)
    |false=>none
   |none=>none
 |_,_=>none
def lF:Value->Value->Option Bool
 | .int k a,.int k' b=>match decide (k=k') with
  |true=>some (a == b)
  |false=>none
 | .string a,.string b=>some (a == b)
 | .bool a,.bool b=>some (a == b)
 |_,_=>none
def I5(P:Program)(t:TypeId)(k:Value):Bool:=match P.underlying t,k with
 |some (.int _),.int _ _=>true
 |some .string,.string _=>true
 |some .bool,.bool _=>true
 |_,_=>false
def yT(k:Value):List (Value×Value×Nat)->Option (Option Value)
 | []=>some none
 | (k',v,_)::l=>match lF k k' with
  |some true=>some (some v)
  |some false=>yT k l
  |none=>none
def Db(P:Program)(t:TypeId):Option Value:=match P.info? t with
 |some i=>match i.zero with
  |some z=>match pl z with
   |true=>some z
   |false=>none
  |none=>none
 |none=>none
def Dc(ok:Bool)(v:Value)(b:Bool):Value:=match ok with
 |true=>.tuple ⟨[v,.bool b]⟩
 |false=>v
def I6(P:Program)(t:TypeId)(H:AH)(m k:Value)(ok:Bool):Option Value:=match P.underlying t with
 |some (.map kt et)=>match I5 P kt k with
  |true=>match m with
   | .map none=>match Db P et with
    |some z=>some (Dc ok z false)
    |none=>none
   | .map (some r)=>match bS H r with
    |some (.map es _)=>match yT k es with
     |some (some v)=>some (Dc ok v true)
     |some none=>match Db P et with
      |some z=>some (Dc ok z false)
      |none=>none
     |none=>none
    |_=>none
   |_=>none
  |false=>none
 |_=>none
def Dd(a:Addr)(m l k:Nat):Addr:=match Nat.beq m l with
 |true=>a
 |false=>BP a (l*k)
def wy(k:Nat)(base:Option Addr)(l h m c:Nat):Option Value:=match Nat.ble l h,Nat.ble h m,Nat.ble m c with
 |true,true,true=>match base with
  |none=>some (.slice none (h-l) (m-l))
  |some a=>match a.spot with
   |none=>some (.slice (some (Dd a m l k)) (h-l) (m-l))
   |some _=>none
 |_,_,_=>none
def I7(H:AH)(k:Nat)(a:Addr)(l h c:Nat)(m:Option Nat):Option Value:=match a.spot,bS H a.block with
 |none,some (.cells nn _ _ w _)=>match Nat.beq w k,Nat.blt 0 w,Nat.ble l h,Nat.ble ((c-l9+h)*w) nn with
  |true,true,true,true=>match m with
   |none=>match Nat.blt l h with
    |true=>some (.slice (some (BP a (l*k))) (h-l) (c+l))
    |false=>match l with
     |0=>some (.slice (some a) 0 c)
     |_+1=>none
   |some m=>match Nat.ble h m,Nat.ble ((c-l9+m)*w) nn,Nat.blt m l9 with
    |true,true,true=>some (.slice (some (Dd a m l k)) (h-l) (m-l))
    |_,_,_=>none
  |_,_,_,_=>none
 |_,_=>none
def Ry(hi mx:Option Operand):Bool:=match mx,hi with
 |some _,none=>false
 |_,_=>true
def Pt(T:Tr Value):Option Operand->Option (Option Nat)
 |none=>some none
 |some x=>match Ly (ael T x) with
  |some n=>some (some n)
  |none=>none
def BR(P:Program)(t:TypeId)(H:AH)(T:Tr Value)(x:Value)(lo hi mx:Option Operand):Option Value:=match Ry hi mx with
 |false=>none
 |true=>match P.underlying t with
  |some (.slice el)=>match x with
   | .slice base n c=>match eZ P el,wx T 0 lo,wx T n hi with
    |some k,some l,some h=>match Nat.blt c l9 with
     |true=>match wx T c mx with
      |some m=>wy k base l h m c
      |none=>none
     |false=>match base,Pt T mx with
      |some a,some m=>I7 H k a l h c m
      |_,_=>none
    |_,_,_=>none
   |_=>none
  |some (.array n el)=>match x with
   | .pointer (some a)=>match eZ P el,wx T 0 lo,wx T n hi,wx T n mx with
    |some k,some l,some h,some m=>match Nat.blt n l9 with
     |true=>wy k (some a) l h m n
     |false=>none
    |_,_,_,_=>none
   |_=>none
  |_=>none
def jy(P:Program)(o:Oper)(T:Tr Value)(H:AH):Option Value:=match o.op with
 | .load t x=>match ael T x with
  | .pointer (some a)=>uK P t H a
  |_=>none
 | .lookup t m k ok=>I6 P t H (ael T m) (ael T k) ok
 | .slice t x lo hi mx=>match P.underlying t with
  |some .string=>gw P T o
  |_=>BR P t H T (ael T x) lo hi mx
 |_=>none
inductive Mk where
 |ptr|sl (n c:Nat)|mp
def Mk.val:Mk->Nat->Value
 | .ptr,h=>.pointer (some ⟨h,0,none⟩)
 | .sl n c,h=>.slice (some ⟨h,0,none⟩) n c
 | .mp,h=>.map (some h)
def jG(l:List Value)(ty:TypeId):AB:=match dE undef l 0 .lf with
 | .lf=>.cells (gv l) .lf ty 0 false
 | .nd a b c=>.cells (gv l) (.nd a b c) ty 0 false
def uL(P:Program)(t:TypeId):Option TypeId:=match P.underlying t with
 |some (.slice el)=>some el
 |_=>none
def tM(P:Program)(o:Oper)(T:Tr Value):Option (AB×Mk):=match o.op with
 | .alloc t=>match kW P t with
  |some z=>some (jG z t,.ptr)
  |none=>none
 | .box t x=>some (jG (hO (ael T x)) t,.ptr)
 | .buildSlice t len parts=>match uL P t with
  |some el=>match eZ P el,kW P el with
   |some k,some z=>match Nat.ble (len*k) 16777216,Nat.beq (gv z) k,Nat.blt 0 k with
    |true,true,true=>match kV (λ i=>some (i*k,k)) (wv T parts.toList) (mE z len) with
     |some l=>some (jG l el,.sl len len)
     |none=>none
    |_,_,_=>none
   |_,_=>none
  |none=>none
 | .makeSlice t l c=>match uL P t with
  |some el=>match P.info? el with
   |some inf=>match kW P el,Ly (ael T l),Ly (ael T c) with
    |some z,some n,some m=>match Nat.ble n m,Nat.ble (inf.bytes*m) 281474976710656,Nat.blt m l9,Nat.beq (gv z) inf.size,Nat.blt 0 inf.size,Nat.blt 0 inf.bytes with
     |true,true,true,true,true,true=>some (jG (mE z m) el,.sl n m)
     |_,_,_,_,_,_=>none
    |_,_,_=>none
   |none=>none
  |none=>none
 | .makeMap t r=>match r with
  |none=>some (.map [] 0,.mp)
  |some r=>match P.underlying t,ael T r with
   |some (.map _ _),.int _ _=>some (.map [] 0,.mp)
   |_,_=>none
 |_=>none
inductive AN where
 |val (v:Value) (H:AH) (n:Nat)
 |ent (f:FuncId) (args:List Value)
 |rnd (l:Nat) (args:List Value)
 |dfr (d:Deferred)
 |rcv
def kq(t:Tr Value)(i:Nat):List Value->Tr Value
 | []=>t
 |v::l=>kq (tK t i v) (i+1) l
def jV:List Value->Bool
 | []=>true
 |v::l=>match v with
  | .agg _=>false
  | .tuple _=>false
  |_=>jV l
def pC(H:AH)(a:Addr)(vs:List Value):Option AH:=match a.spot,bS H a.block with
 |none,some (.cells n tr ty w false)=>match Nat.ble (a.off+gv vs) n,jV vs with
  |true,true=>some (cJ H a.block (some (.cells n (kq tr a.off vs) ty w false)))
  |_,_=>none
 |_,_=>none
def wz(P:Program)(t:TypeId)(H:AH)(a:Addr)(v:Value):Option AH:=match eZ P t with
 |some k=>match Nat.beq (gv (hO v)) k with
  |true=>pC H a (hO v)
  |false=>none
 |none=>none
def sd(k v:Value)(clock:Nat):List (Value×Value×Nat)->Option (List (Value×Value×Nat)×Nat)
 | []=>some ([(k,v,clock)],clock+1)
 | (k',v',b)::l=>match lF k k' with
  |some true=>some ((k,v,b)::l,clock)
  |some false=>match sd k v clock l with
   |some (l,c)=>some ((k',v',b)::l,c)
   |none=>none
  |none=>none
def Ms(P:Program)(t:TypeId)(H:AH)(m k v:Value):Option AH:=match P.underlying t with
 |some (.map kt _)=>match I5 P kt k,m with
  |true,.map (some r)=>match bS H r with
   |some (.map es c)=>match sd k v c es with
    |some (es,c)=>some (cJ H r (some (.map es c)))
    |none=>none
   |_=>none
  |_,_=>none
 |_=>none
def qF(H:AH)(k:Nat):Value->Option (List Value)
 | .slice none n _=>match n with
  |0=>some []
  |_+1=>none
 | .slice (some a) n _=>match a.spot,bS H a.block with
  |none,some (.cells nn tr _ _ _)=>match Nat.ble (a.off+n*k) nn with
   |true=>some (gR tr a.off (n*k))
   |false=>none
  |_,_=>none
 |_=>none
def dR:Value->Nat
 | .slice _ n _=>n
 |_=>0
def wA(l:List Value)(ty:TypeId)(w:Nat):AB:=match dE undef l 0 .lf with
 | .lf=>.cells (gv l) .lf ty w false
 | .nd a b c=>.cells (gv l) (.nd a b c) ty w false
def se(H:AH)(n k len add cap:Nat)(base:Option Addr)(new:List Value):Option AN:=match base with
 |some a=>match a.spot with
  |none=>match pC H ⟨a.block,a.off+len*k,none⟩ new with
   |some H=>some (.val (.slice (some a) (len+add) cap) H n)
   |none=>none
  |some _=>none
 |none=>match new with
  | []=>some (.val (.slice none (len+add) cap) H n)
  |_=>none
def ja(H:AH)(n k len add:Nat)(el:TypeId)(AT new:List Value):AN:=.val (.slice (some ⟨n,0,none⟩) (len+add) l9) (cJ H n (some (wA (AT++new) el k))) (n+1)
def SB(H:AH)(a:Addr):Option (Nat×Nat×TypeId):=match bS H a.block with
 |some (.cells nn _ ty w false)=>some (nn,w,ty)
 |_=>none
def I8(H:AH)(n k len add cap:Nat)(a:Addr)(el:TypeId)(new:List Value):Option AN:=match a.spot,a.off,Nat.beq cap l9,SB H a with
 |none,0,true,some (nn,w,ty)=>match Nat.beq w k,Nat.ble (len*k) nn,Nat.beq ty el with
  |true,true,true=>match Nat.ble ((len+add)*k) nn with
   |true=>se H n k len add cap (some a) new
   |false=>match qF H k (.slice (some a) len cap) with
    |some AT=>some (ja (cJ H a.block none) n k len add el AT new)
    |none=>none
  |_,_,_=>none
 |_,_,_,_=>none
def I9(tr:Tr Value)(i:Nat)(new:List Value)(el:TypeId)(k:Nat):AB:=match kq tr i new with
 | .lf=>.cells (i+gv new) .lf el k false
 | .nd a b c=>.cells (i+gv new) (.nd a b c) el k false
def uM(H:AH)(n k len add cap:Nat)(a:Addr)(el:TypeId)(new:List Value):Option AN:=match a.spot,a.off,Nat.beq cap l9,bS H a.block with
 |none,0,true,some (.cells nn tr ty w false)=>match Nat.beq w k,Nat.ble (len*k) nn,Nat.beq ty el with
  |true,true,true=>match Nat.ble ((len+add)*k) nn with
   |true=>se H n k len add cap (some a) new
   |false=>some (.val (.slice (some ⟨n,0,none⟩) (len+add) l9) (cJ (cJ H a.block none) n (some (I9 tr (len*k) new el k))) (n+1))
  |_,_,_=>none
 |_,_,_,_=>none
def yU(P:Program)(H:AH)(n:Nat)(el:TypeId)(x y:Value):Option AN:=match P.info? el,kW P el with
 |some inf,some z=>match inf.size,inf.bytes,x with
  |k+1,by_+1,.slice base len cap=>match qF H (k+1) y,Nat.beq (gv z) (k+1),Nat.blt (len+dR y) 1000000,Nat.blt by_ 1000000 with
   |some new,true,true,true=>match jV new,Nat.blt cap l9 with
    |true,true=>match Nat.ble (len+dR y) cap with
     |true=>se H n (k+1) len (dR y) cap base new
     |false=>match qF H (k+1) (.slice base len cap) with
      |some AT=>some (ja H n (k+1) len (dR y) el AT new)
      |none=>none
    |true,false=>match base with
     |some a=>uM H n (k+1) len (dR y) cap a el new
     |none=>none
    |_,_=>none
   |_,_,_,_=>none
  |_,_,_=>none
 |_,_=>none
def Rz(P:Program)(t:TypeId):Bool:=match P.underlying t with
 |some (.slice _)=>true
 |_=>false
def Ja(P:Program)(H:AH)(n:Nat)(c:Call)(T:Tr Value):Option AN:=match c with
 | ⟨_,⟨[x,y]⟩,⟨[t,u]⟩⟩=>match uL P t,Rz P u with
  |some el,true=>yU P H n el (ael T x) (ael T y)
  |_,_=>none
 |_=>none
def sf(P:Program)(f:FuncId):Bool:=match P.funcs[f]? with
 | some fn=>!(fn.name == "runtime.NumGoroutine") && fn.body.isSome
 |none=>false
def qW(P:Program)(v:Value)(args:List Value):Option AN:=match v with
 | .func fn first captured=>match fn with
  | .func f=>match sf P f with
   |true=>some (.ent f (first.toList++(args++captured.toList)))
   |false=>none
  | .yield l=>match first.toList with
   | []=>some (.rnd l args)
   |_=>none
  |_=>none
 |_=>none
def Jb(P:Program)(t:TypeId)(name:String):Option FuncId:=match P.info? t,Nat.blt 0 (P.types.size+Made.depth) with
 |some i,true=>match i.methods.find? (·.name == name) with
  |some m=>match m.path.toList,m.func,P.underlying t with
   | [],some (f,true),some (.pointer _)=>some f
   | [],some (_,false),some (.pointer _)=>none
   | [],some (f,false),some _=>some f
   |_,_,_=>none
  |none=>none
 |_,_=>none
def yV(P:Program)(H:AH)(n:Nat)(el:TypeId)(x y:Value):Option AN:=match eZ P el with
 |some k=>match x,y with
  | .slice (some a) dl _,.slice b sl cc=>match a.spot,qF H k (.slice b (Nat.min sl dl) cc) with
   |none,some vs=>match pC H a vs with
    |some H=>some (.val (.int .i64 (.ofNat (Nat.min sl dl))) H n)
    |none=>none
   |_,_=>none
  |_,_=>none
 |none=>none
def yW(P:Program)(H:AH)(n:Nat)(c:Call)(T:Tr Value):Option AN:=match c with
 | ⟨_,⟨[x,y]⟩,⟨[t,_]⟩⟩=>match uL P t with
  |some el=>yV P H n el (ael T x) (ael T y)
  |none=>none
 |_=>none
def nk(P:Program)(o:Oper)(T:Tr Value)(H:AH)(n:Nat):Option AN:=match o.op with
 | .store t x y=>match ael T x with
  | .pointer (some a)=>match wz P t H a (ael T y) with
   |some H=>some (.val undef H n)
   |none=>none
  |_=>none
 | .mapUpdate t m k v=>match Ms P t H (ael T m) (ael T k) (ael T v) with
  |some H=>some (.val undef H n)
  |none=>none
 | .insert t m k v=>match Ms P t H (ael T m) (ael T k) (ael T v) with
  |some H=>some (.val undef H n)
  |none=>none
 | .defer c=>match c.callee with
  | .value f=>match ael T f with
   | .func fn first captured=>some (.dfr { target:=.fn fn captured,args:=⟨first.toList++nj T c.args.toList⟩ })
   |_=>none
  |_=>none
 | .call c=>match c.callee with
  | .value f=>match qW P (ael T f) (nj T c.args.toList) with
   |some x=>some x
   |none=>match gw P T o with
    |some v=>some (.val v H n)
    |none=>none
  | .builtin b=>match b with
   | .append=>Ja P H n c T
   | .copy=>yW P H n c T
   | .recover=>some .rcv
   |_=>none
  | .invoke recv name=>match ael T recv with
   | .iface t v=>match Jb P t name with
    |some f=>match sf P f with
     |true=>some (.ent f (v::nj T c.args.toList))
     |false=>none
    |none=>none
   |_=>none
 |_=>none
def Pu(b:AB)(m:Mk)(H:AH)(n:Nat):AN:=.val (m.val n) (cJ H n (some b)) (n+1)
def De(P:Program)(G:Nat)(o:Oper)(T:Tr Value)(H:AH)(n:Nat):Option AN:=match i9 o.op with
 |none=>none
 |some l=>match tL G l with
  |false=>none
  |true=>match tj P o.op with
   | .pu=>match gQ P o T with
    |some v=>some (.val v H n)
    |none=>none
   | .lo=>match jy P o T H with
    |some v=>some (.val v H n)
    |none=>none
   | .nw=>match tM P o T with
    |some (b,m)=>some (Pu b m H n)
    |none=>none
   | .ef=>nk P o T H n
inductive Ex where
 |normal
 |exit (id:Nat)
 |ret
inductive Task where
 |code (r:Option Nat) (N:Nat) (c:Code) (s:St)
 |loop (r:Option Nat) (N:Nat) (c:Code) (s:St)
 |fn (f:FuncId) (args:List Value) (H:AH) (n:Nat)
 |rnd (l:Nat) (T:Tr Value) (N:Nat) (assign body:Code) (H:AH) (n:Nat)
 |dfn (f:FuncId) (args:List Value) (H:AH) (n:Nat)
inductive Rs where
 |cd (e:Ex) (s:St)
 |fn (v:Value) (H:AH) (n:Nat)
def eD(ops:Array Oper)(o:Oper)(T:Tr Value):Option Bool:=match o.guard with
 |none=>some true
 |some (j,want)=>match (ops[j]?).bind (·.dst) with
  |some d=>match cK T d with
   | .bool b=>some (b == want)
   | .tuple _=>some false
   |_=>none
  |none=>none
def fm(N:Nat)(dst:Option Tmp)(v:Value)(T:Tr Value):Option (Tr Value):=match dst with
 |none=>some T
 |some d=>match Nat.blt d N with
  |true=>some (tK T d v)
  |false=>none
def Jc:List Tmp->List Value->Tr Value->Tr Value
 |p::ps,v::vs,T=>Jc ps vs (tK T p v)
 |_,_,T=>T
def Df(N:Nat):List Tmp->Bool
 | []=>true
 |p::ps=>match Nat.blt p N with
  |true=>Df N ps
  |false=>false
inductive OpR where
 |val (v:Value) (H:AH) (n:Nat)
 |dfr (d:Deferred)
def jW(P:Program)(G:Nat)(ih:Task->Option Rs)(r:Option Nat)(o:Oper)(T:Tr Value)(H:AH)(n:Nat):Option OpR:=match De P G o T H n with
 |none=>none
 |some x=>match x with
  | .val v H n=>some (.val v H n)
  | .ent f args=>match ih (.fn f args H n) with
   |some (.fn v H n)=>some (.val v H n)
   |_=>none
  | .rnd l args=>match bS H l with
   |some (.loop _ _ T N' ps assign body _)=>match Nat.beq (gv args) ps.size,Df N' ps.toList with
    |true,true=>match ih (.rnd l (Jc ps.toList args T) N' assign body H n) with
     |some (.fn v H n)=>some (.val v H n)
     |_=>none
    |_,_=>none
   |_=>none
  | .dfr d=>match r with
   |none=>some (.dfr d)
   |some _=>none
  | .rcv=>none
def mN(P:Program)(G:Nat)(ih:Task->Option Rs)(r:Option Nat)(N:Nat)(ops:Array Oper):List Oper->St->Option St
 | [],s=>some s
 |o::rest,s=>match eD ops o s.T with
  |none=>none
  |some false=>match fm N o.dst undef s.T with
   |some T=>mN P G ih r N ops rest ⟨T,s.D,s.H,s.n⟩
   |none=>none
  |some true=>match jW P G ih r o s.T s.H s.n with
   |none=>none
   |some (.val v H n)=>match fm N o.dst v s.T with
    |some T=>mN P G ih r N ops rest ⟨T,s.D,H,n⟩
    |none=>none
   |some (.dfr d)=>match fm N o.dst undef s.T with
    |some T=>mN P G ih r N ops rest ⟨T,d::s.D,s.H,s.n⟩
    |none=>none
mutual
def tn:Value->Value->Bool
 | .bool a,.bool b=>a == b
 | .int k a,.int k' b=>match decide (k=k') with
  |true=>a == b
  |false=>false
 | .string a,.string b=>a == b
 | .pointer a,.pointer b=>decide (a=b)
 | .slice a n c,.slice b n' c'=>match decide (a=b),Nat.beq n n',Nat.beq c c' with
  |true,true,true=>true
  |_,_,_=>false
 | .map a,.map b=>decide (a=b)
 | .func fn f c,.func fn' f' c'=>match decide (fn=fn'),FD f f' with
  |true,true=>FD c c'
  |_,_=>false
 | .nilFunc,.nilFunc=>true
 | .iface t v,.iface t' v'=>match Nat.beq t t' with
  |true=>tn v v'
  |false=>false
 | .nilIface,.nilIface=>true
 | .agg c,.agg c'=>FD c c'
 | .tuple c,.tuple c'=>FD c c'
 |_,_=>false
def FD:Array Value->Array Value->Bool
 | ⟨l⟩,⟨l'⟩=>qG l l'
def qG:List Value->List Value->Bool
 | [],[]=>true
 |v::l,v'::l'=>match tn v v' with
  |true=>qG l l'
  |false=>false
 |_,_=>false
end
def yX(e:Edge):Bool:=match e.ground with
 | .textOnly _=>false
 | .gcOnly _=>false
 |_=>true
def jX(i:Nat):List Nat->Bool
 | []=>false
 |j::l=>match Nat.beq i j with
  |true=>true
  |false=>jX i l
def Mt{α:Type}:List α->Nat->Option α
 | [],_=>none
 |b::l,i=>match i with
  |0=>some b
  |i+1=>Mt l i
def BS(bs:List (List Nat)):List Edge->Option (List Nat)
 | []=>some []
 |e::es=>match BS bs es with
  |none=>none
  |some l=>match yX e with
   |false=>some l
   |true=>match Mt bs e.on with
    |some b=>some (e.on::(b++l))
    |none=>none
def Jd:List Oper->List (List Nat)->Option (List (List Nat))
 | [],bs=>some bs
 |o::l,bs=>match BS bs o.after.toList with
  |some b=>Jd l (bs++[b])
  |none=>none
def si:List Operand->List Tmp
 | []=>[]
 |x::l=>match x with
  | .tmp t=>t::si l
  |_=>si l
def looks(ops:Array Oper)(o:Oper):Option (List Tmp):=match i9 o.op with
 |none=>none
 |some l=>match o.guard with
  |none=>some (si l)
  |some (j,_)=>match (ops[j]?).bind (·.dst) with
   |some d=>some (d::si l)
   |none=>none
def isE(P:Program)(o:Oper):Bool:=match tj P o.op with
 | .ef=>true
 |_=>false
def isN(P:Program)(o:Oper):Bool:=match tj P o.op with
 | .nw=>true
 |_=>false
def sj(P:Program)(ops:Array Oper)(i:Nat)(o o':Oper)(b':List Nat):Bool:=match jX i b' with
 |true=>match o.dst,o'.dst with
  |some d,some d'=>!(Nat.beq d d')
  |_,_=>true
 |false=>match isE P o',isE P o || isN P o with
  |true,true=>false
  |_,_=>match looks ops o,looks ops o' with
   |some l,some l'=>match o.dst,o'.dst with
    |some d,some d'=>!(Nat.beq d d') && !(jX d l') && !(jX d' l)
    |some d,none=>!(jX d l')
    |none,some d'=>!(jX d' l)
    |none,none=>true
   |_,_=>false
def sk(P:Program)(ops:Array Oper)(o':Oper)(b':List Nat):Nat->List Oper->Bool
 |_,[]=>true
 |i,o::l=>match sj P ops i o o' b' with
  |true=>sk P ops o' b' (i+1) l
  |false=>false
def nH(G:Nat)(o:Oper):Bool:=match i9 o.op with
 |some l=>tL G l
 |none=>false
def uN(P:Program)(G:Nat)(ops:Array Oper)(all:List Oper):Nat->List Oper->List (List Nat)->Bool
 |_,[],[]=>true
 |i,o::l,b::bs=>match nH G o,sk P ops o b 0 (all.take i),(looks ops o).isSome with
  |true,true,true=>uN P G ops all (i+1) l bs
  |_,_,_=>false
 |_,_,_=>false
def BT(P:Program)(G:Nat)(ops:Array Oper):Option (List (List Nat)):=match Jd ops.toList [] with
 |some bs=>match uN P G ops ops.toList 0 ops.toList bs with
  |true=>some bs
  |false=>none
 |none=>none
structure DLd where
 i:Nat
 o:Oper
 b:List Nat
 T:Tr Value
 v:Value
structure DSt where
 T:Tr Value
 H:AH
 n:Nat
 pend:List (Nat×AB)
 stg:List (Nat×List Nat×AH)
 lds:List DLd
def hZ(H:AH):List (Nat×AB)->AH
 | []=>H
 | (h,b)::l=>hZ (cJ H h (some b)) l
def Th(P:Program)(G:Nat)(ih:Task->Option Rs)(r:Option Nat)(N:Nat)(ops:Array Oper)(i:Nat)(o:Oper)(b:List Nat)(s:DSt):Option DSt:=match eD ops o s.T with
 |none=>none
 |some false=>match fm N o.dst undef s.T with
  |some T=>some { s with T:=T }
  |none=>none
 |some true=>match tj P o.op with
  | .pu=>match gQ P o s.T with
   |some v=>match fm N o.dst v s.T with
    |some T=>some { s with T:=T }
    |none=>none
   |none=>none
  | .lo=>match jy P o s.T s.H with
   |some v=>match fm N o.dst v s.T with
    |some T=>some { s with T:=T,lds:=⟨i,o,b,s.T,v⟩::s.lds }
    |none=>none
   |none=>none
  | .nw=>match tM P o s.T with
   |some (bl,m)=>match fm N o.dst (m.val s.n) s.T with
    |some T=>some { s with T:=T,n:=s.n+1,pend:=s.pend++[(s.n,bl)] }
    |none=>none
   |none=>none
  | .ef=>match hZ s.H s.pend with
   |H=>match jW P G ih r o s.T H s.n with
    |some (.val v H' n')=>match fm N o.dst v s.T with
     |some T=>some { s with T:=T,H:=H',n:=n',pend:=[],stg:=s.stg++[(i,b,H')] }
     |none=>none
    |_=>none
def yY(P:Program)(G:Nat)(ih:Task->Option Rs)(r:Option Nat)(N:Nat)(ops:Array Oper):Nat->List Oper->List (List Nat)->DSt->Option DSt
 |_,[],_,s=>some s
 |i,o::l,b::bs,s=>match Th P G ih r N ops i o b s with
  |some s=>yY P G ih r N ops (i+1) l bs s
  |none=>none
 |_,_,_,_=>none
def SC(P:Program)(d:DLd)(H:AH):Bool:=match jy P d.o d.T H with
 |some v=>tn d.v v
 |none=>false
def tN(P:Program)(d:DLd):List Nat->AH->List (Nat×List Nat×AH)->Bool
 |be,H,[]=>match jX d.i be with
  |true=>true
  |false=>SC P d H
 |be,H,(e,be',H')::l=>match jX d.i be || jX e d.b with
  |true=>tN P d be' H' l
  |false=>match SC P d H with
   |true=>tN P d be' H' l
   |false=>false
def Dg(P:Program)(H:AH)(stg:List (Nat×List Nat×AH)):List DLd->Bool
 | []=>true
 |d::l=>match tN P d [] H stg with
  |true=>Dg P H stg l
  |false=>false
def Pv(P:Program)(G:Nat)(ih:Task->Option Rs)(r:Option Nat)(N:Nat)(ops:Array Oper)(s:St):Option St:=match BT P G ops with
 |none=>none
 |some bs=>match yY P G ih r N ops 0 ops.toList bs ⟨s.T,s.H,s.n,[],[],[]⟩ with
  |none=>none
  |some d=>match Dg P s.H d.stg d.lds with
   |true=>some ⟨d.T,s.D,hZ d.H d.pend,d.n⟩
   |false=>none
def Dh:Code->Option Ex
 | .ret=>some .ret
 | .exit id=>some (.exit id)
 |_=>none
def jh(P:Program)(G:Nat)(ih:Task->Option Rs)(r:Option Nat)(N:Nat):Code->St->Option (Ex×St)
 | .skip,s=>some (.normal,s)
 | .label _,s=>some (.normal,s)
 | .region _ ops draw,s=>match draw with
  |false=>match mN P G ih r N ops ops.toList s with
   |some s=>some (.normal,s)
   |none=>none
  |true=>match Pv P G ih r N ops s with
   |some s=>some (.normal,s)
   |none=>none
 | .seq a b,s=>match jh P G ih r N a s with
  |some (.normal,s)=>jh P G ih r N b s
  |x=>x
 | .cond c x y,s=>match ael s.T c with
  | .bool true=>jh P G ih r N x s
  | .bool false=>jh P G ih r N y s
  |_=>none
 | .block id c,s=>match jh P G ih r N c s with
  |some (.exit W_,s)=>match Nat.beq W_ id with
   |true=>some (.normal,s)
   |false=>some (.exit W_,s)
  |x=>x
 | .loop c,s=>match jh P G ih r N c s with
  |some (.normal,s)=>match ih (.loop r N c s) with
   |some (.cd e s)=>some (e,s)
   |_=>none
  |x=>x
 | .rangeFunc g ps assign body,s=>match ael s.T g,SA G g with
  | .func (.func f) first captured,true=>match sf P f with
   |true=>match (match r with
    |none=>some (s.n,(⟨{ target:=.collected s.n,args:=#[] },[]⟩:Deferred×List Deferred).1::s.D,cJ s.H s.n (some (.dfr false)),s.n+1)
    |some l0=>match bS s.H l0 with
     |some (.loop _ _ _ _ _ _ _ d)=>some (d,s.D,s.H,s.n)
     |_=>none) with
    |some (d,D,H,n)=>match ih (.fn f (first.toList++(.func (.yield n) #[] #[]::captured.toList)) (cJ H n (some (.loop .ready none s.T N ps assign body d))) (n+1)) with
     |some (.fn _ H' n')=>match bS H' n with
      |some (.loop st pend T' N' Yc X0 bo' d')=>match st with
       | .busy=>none
       |_=>match pend with
        |none=>some (.normal,⟨s.T,D,cJ H' n (some (.loop .exhausted pend T' N' Yc X0 bo' d')),n'⟩)
        |some c=>match Dh c with
         |some e=>some (e,⟨s.T,D,cJ H' n (some (.loop .exhausted pend T' N' Yc X0 bo' d')),n'⟩)
         |none=>none
      |_=>none
     |_=>none
    |none=>none
   |false=>none
  |_,_=>none
 | .exit id,s=>some (.exit id,s)
 | .scope c,s=>jh P G ih r N c s
 | .goto _,_=>none
 | .ret,s=>some (.ret,s)
 | .refuse _,_=>none
def pD(P:Program)(T:Tr Value)(H:AH):List ResultVar->Option (List Value)
 | []=>some []
 | .tmp t::l=>match pD P T H l with
  |some vs=>some (cK T t::vs)
  |none=>none
 | .cell a t::l=>match cK T a with
  | .pointer (some a)=>match uK P t H a,pD P T H l with
   |some v,some vs=>some (v::vs)
   |_,_=>none
  |_=>none
def yZ:List Value->Value
 | [v]=>v
 |l=>.tuple ⟨l⟩
def kr(P:Program)(ih:Task->Option Rs):List Deferred->AH->Nat->Option (AH×Nat)
 | [],H,n=>some (H,n)
 |d::ds,H,n=>match d.target with
  | .collected h=>match bS H h with
   |some (.dfr false)=>kr P ih ds (cJ H h (some (.dfr true))) n
   |_=>none
  | .fn (.func f) captured=>match sf P f with
   |true=>match ih (.dfn f (d.args.toList++captured.toList) H n) with
    |some (.fn _ H n)=>kr P ih ds H n
    |_=>none
   |false=>none
  |_=>none
def nl(P:Program)(G:Nat)(N:Nat)(ops:Array Oper):List Oper->St->Option St
 | [],s=>some s
 |o::rest,s=>match eD ops o s.T with
  |none=>none
  |some false=>match fm N o.dst undef s.T with
   |some T=>nl P G N ops rest ⟨T,s.D,s.H,s.n⟩
   |none=>none
  |some true=>match De P G o s.T s.H s.n with
   |some (.val v H n)=>match fm N o.dst v s.T with
    |some T=>nl P G N ops rest ⟨T,s.D,H,n⟩
    |none=>none
   |some .rcv=>match fm N o.dst .nilIface s.T with
    |some T=>nl P G N ops rest ⟨T,s.D,s.H,s.n⟩
    |none=>none
   |_=>none
def Je(P:Program)(G:Nat)(ih:Task->Option Rs)(N:Nat):Code->St->Option (Ex×St)
 | .seq a b,s=>match Je P G ih N a s with
  |some (.normal,s)=>Je P G ih N b s
  |x=>x
 | .cond c x y,s=>match ael s.T c with
  | .bool true=>Je P G ih N x s
  | .bool false=>Je P G ih N y s
  |_=>none
 | .region id ops false,s=>match nl P G N ops ops.toList s with
  |some s=>some (.normal,s)
  |none=>match jh P G ih none N (.region id ops false) s with
   |some x=>some x
   |none=>none
 |c,s=>jh P G ih none N c s
def mO(args:List Value):Tr Value:=dE undef args 0 .lf
def so(P:Program)(f:FuncId):Option (Func×Code):=match P.funcs[f]? with
 |some fn=>match fn.body with
  |some c=>some (fn,c)
  |none=>none
 |none=>none
def gS(P:Program)(G:Nat)(ih:Task->Option Rs):Task->Option Rs
 | .code r N c s=>match jh P G ih r N c s with
  |some (e,s)=>some (.cd e s)
  |none=>none
 | .loop r N c s=>match jh P G ih r N (.loop c) s with
  |some (e,s)=>some (.cd e s)
  |none=>none
 | .fn f args H n=>match so P f with
  |some (fn,c)=>match Nat.ble (gv args) fn.ntmps with
   |true=>match jh P G ih none fn.ntmps c ⟨mO args,[],H,n⟩ with
    |some (.exit _,_)=>none
    |some (_,s)=>match kr P ih s.D s.H s.n with
     |some (H,n)=>match pD P s.T H fn.results.toList with
      |some vs=>some (.fn (yZ vs) H n)
      |none=>none
     |none=>none
    |none=>none
   |false=>none
  |none=>none
 | .rnd l T N assign body H n=>match jh P G ih (some l) N assign ⟨T,[],H,n⟩ with
  |some (.normal,s)=>match bS s.H l,s.D with
   |some (.loop .ready pend T' N' ps X0 bo d),[]=>match jh P G ih (some l) N body ⟨s.T,[],cJ s.H l (some (.loop .busy pend T' N' ps X0 bo d)),s.n⟩ with
    |some (e,s)=>match bS s.H l with
     |some (.loop _ _ T' N' ps X0 bo d)=>match e with
      | .normal=>some (.fn (.bool true) (cJ s.H l (some (.loop .ready none T' N' ps X0 bo d))) s.n)
      | .ret=>some (.fn (.bool false) (cJ s.H l (some (.loop .done (some .ret) T' N' ps X0 bo d))) s.n)
      | .exit id=>some (.fn (.bool false) (cJ s.H l (some (.loop .done (some (.exit id)) T' N' ps X0 bo d))) s.n)
     |_=>none
    |none=>none
   |_,_=>none
  |_=>none
 | .dfn f args H n=>match so P f with
  |some (fn,c)=>match Nat.ble (gv args) fn.ntmps with
   |true=>match Je P G ih fn.ntmps c ⟨mO args,[],H,n⟩ with
    |some (.exit _,_)=>none
    |some (_,s)=>match s.D with
     | []=>match pD P s.T s.H fn.results.toList with
      |some vs=>some (.fn (yZ vs) s.H s.n)
      |none=>none
     |_=>none
    |none=>none
   |false=>none
  |none=>none
def Jf(P:Program)(G:Nat):Nat->Task->Option Rs
 |0,_=>none
 |k+1,t=>gS P G (Jf P G k) t
end
end Go.Proofs.YtjokannbjmndfaaGreatDoor
