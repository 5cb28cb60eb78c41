import Derived.Test.YtjboagogechleaaGreatTC
namespace Go.Ab.M
open Go.Proofs
set_option linter.unusedVariables false
set_option linter.defProp false
set_option maxRecDepth 100000
structure Whole where
 Neg:Bool
 Mag:List Int
 deriving DecidableEq,Inhabited
abbrev Whole.D (x:Whole):List D:=[.v (.bool x.Neg),.sl (x.Mag.map (cI .u32))]
structure Link where
 From:Int
 To:Int
 N:Int
 D_:Int
 deriving DecidableEq,Inhabited
abbrev Link.D (x:Link):List D:=[.v (.int .u8 x.From),.v (.int .u8 x.To),.v (.int .i8 x.N),.v (.int .u8 x.D_)]
structure Edge where
 From:Int
 To:Int
 W:Rat
 deriving DecidableEq,Inhabited
abbrev Edge.D (x:Edge):List D:=[.v (.int .i64 x.From)]++[.v (.int .i64 x.To)]++Rat.D x.W
structure Graph where
 Ins:Int
 aG:Int
 aH:Int
 ah:List Edge
 Gone:List Int
 deriving DecidableEq,Inhabited
abbrev Graph.D (x:Graph):List D:=[.v (.int .i64 x.Ins),.v (.int .i64 x.aG),.v (.int .i64 x.aH),.sl (x.ah.map Edge.D),.sl (x.Gone.map (cI .i64))]
def Uz (n1:Int) (out:List Int):St:=⟨15,0,[(0,NI .u64 n1),(3,eX 100001 out)],[(100001,fB 1 (cI .u32) out)]⟩
def UW (out:List Int):St:=⟨15,0,[(3,eX 100001 out)],[(100001,fB 1 (cI .u32) out)]⟩
def Fe (n1:Int) (out:List Int):Option ((Int×List Int)⊕(List Int)):=bif decide (n1>0) then bif decide (0<=n1) then bif decide (0<4294967296) then bif decide (out.length+1<=2147483648) then bif decide (0<=n1) then bif decide (0<4294967296) then bif decide (n1<=Go.Ab.hi .u64) then some (.inl (n1/4294967296,out++[IntKind.wrap .u32 (n1%4294967296)])) else none else none else none else none else none else none else some (.inr out)
theorem UE:∀σ:Int×List Int,aN Tryz.prog (nav [1,1,0,0,0] (aj Tryz.f163)) (fun (σ:Int×List Int)=>Uz σ.1 σ.2) (fun (_:List Int)=>(.exit 0)) (fun (y:List Int)=>UW y) σ (Fe σ.1 σ.2)
 | (n1,[])=>aF 1010 (.br 100000005 (.op 30006 .wr (.op 30010 (.ap (cI .u32) [] [IntKind.wrap .u32 (n1%4294967296)] 1 fun _=>⟨rfl,rfl⟩) (.ps 1000003 [.k [0,3] [1011],.m 1011 100001] (.ret (.inl (n1/4294967296,[IntKind.wrap .u32 (n1%4294967296)])))))) (.ps 1000003 [.k [3] [100001]] (.ret (.inr []))))
 | (n1,qF::qG)=>aF 1010 (.br 100000005 (.op 30006 .wr (.op 30010 (.ap (cI .u32) (qF::qG) [IntKind.wrap .u32 (n1%4294967296)] 1 fun _=>⟨rfl,rfl⟩) (.ps 1000003 [.k [0,3] [1011],.m 1011 100001] (.ret (.inl (n1/4294967296,(qF::qG)++[IntKind.wrap .u32 (n1%4294967296)])))))) (.ps 1000003 [.k [3] [100001]] (.ret (.inr (qF::qG)))))
def Zq (n1:Int) (out:List Int):Option (List Int):=aO (fun (σ:Int×List Int)=>Fe σ.1 σ.2) FU (n1,out)
def U2 (n1:Int) (out:List Int):=
 aS (UE) (fun _ h=>by cases h) FU (n1,out)
def QW (n:Int):Option (List Int):=(Zq n []).bind fun x0=>some x0
theorem LV (n:Int):∀r,QW n=some r->au Tryz.prog 163 0 [NI .u64 n] [] (SL (cI .u32) r) []:=
 ay 10 (.ps 1000001 [.k [0,3] [100001]] (.lp1 0 (U2 n []) fun x0=>.oz 1 3 100001 1 (cI .u32) x0 (.ps 1 [.k [3] []] (.ret x0)))) Tryz.func163
def Yl (n:Int):Option Whole:=bif decide (n>=0) then (QW (IntKind.wrap .u64 n)).bind fun x0=>some (Whole.mk false x0) else (QW (IntKind.wrap .u64 (0-(IntKind.wrap .u64 n)))).bind fun x0=>some (Whole.mk true x0)
theorem X7 (n:Int):∀r,Yl n=some r->au Tryz.prog 113 0 [I n] [] (AG Whole.D r) []:=
 ay 10 (.br 100000005 (.op 20002 .wr (.call [] [] (LV (IntKind.wrap .u64 n)) .no fun x0=>.ret (Whole.mk false x0))) (.op 30002 .wr (.call [] [] (LV (IntKind.wrap .u64 (0-(IntKind.wrap .u64 n)))) .no fun x0=>.ret (Whole.mk true x0)))) Tryz.func113
def QL (l:List Int) (n:Nat) (i:Nat):St:=⟨19,0,[(0,SL (cI .u32) l),(3,I ((n:Nat):Int)),(4,I ((i:Nat):Int))],[]⟩
def Qm (l:List Int) (n:Nat):St:=⟨19,0,[(3,I ((n:Nat):Int))],[]⟩
def jB (l:List Int) (n:Nat) (i:Nat):Option ((Nat×Nat)⊕Nat):=bif decide (((i:Nat):Int)<((l.length:Nat):Int)) then bif decide (i<l.length) then bif (nth l i) != 0 then bif inK .i64 (((i:Nat):Int)+1) then bif inK .i64 (((i:Nat):Int)+1) then some (.inl (i+1,i+1)) else none else none else bif inK .i64 (((i:Nat):Int)+1) then some (.inl (n,i+1)) else none else none else some (.inr n)
theorem Ro (l:List Int):∀σ:Nat×Nat,aN Tryz.prog (nav [1,1,0,1,0,0] (aj Tryz.f242)) (fun (σ:Nat×Nat)=>QL l σ.1 σ.2) (fun (_:Nat)=>(.exit 0)) (fun (y:Nat)=>Qm l y) σ (jB l σ.1 σ.2)
 | (n,i)=>aF 1010 (.op 30004 (.ln (cI .u32) l) (.br 100000008 (.op 50004 (.el (cI .u32) l (.up i)) (.br 100000015 (.ps 1000003 [.k [0,3,4] []] (.ret (.inl (i+1,i+1)))) (.ps 1000003 [.k [0,3,4] []] (.ret (.inl (n,i+1)))))) (.ps 1000003 [.k [3] []] (.ret (.inr n)))))
def Dl (l:List Int) (n:Nat) (i:Nat):Option Nat:=aO (fun (σ:Nat×Nat)=>jB l σ.1 σ.2) FU (n,i)
def Sr (l:List Int) (n:Nat) (i:Nat):=
 aS (Ro l) (fun _ h=>by cases h) FU (n,i)
def Eu (l:List Int):Option Int:=(Dl l 0 0).bind fun x0=>some ((x0:Nat):Int)
theorem Ws (l:List Int):∀r,Eu l=some r->au Tryz.prog 242 0 [SL (cI .u32) l] [] (I r) []:=
 ay 10 (.ps 1000001 [.k [0,3,4] []] (.lp1 0 (Sr l 0 0) fun x0=>.ret ((x0:Nat):Int))) Tryz.func242
def Ns (a:List Int) (x0:Int) (out:List Int) (i:Nat):St:=⟨21,0,[(0,SL (cI .u32) a),(3,I x0),(4,eX 100002 out),(5,I ((i:Nat):Int))],[(100002,fB 1 (cI .u32) out)]⟩
def NZ (a:List Int) (x0:Int) (out:List Int):St:=⟨21,0,[(4,eX 100002 out)],[(100002,fB 1 (cI .u32) out)]⟩
def kT (a:List Int) (x0:Int) (out:List Int) (i:Nat):Option ((List Int×Nat)⊕(List Int)):=bif decide (((i:Nat):Int)<x0) then bif decide (i<a.length) then bif decide (out.length+1<=2147483648) then bif inK .i64 (((i:Nat):Int)+1) then some (.inl (out++[nth a i],i+1)) else none else none else none else some (.inr out)
theorem OG (a:List Int) (x0:Int):∀σ:List Int×Nat,aN Tryz.prog (nav [1,1,1,0,1,0,0] (aj Tryz.f210)) (fun (σ:List Int×Nat)=>Ns a x0 σ.1 σ.2) (fun (_:List Int)=>(.exit 0)) (fun (y:List Int)=>NZ a x0 y) σ (kT a x0 σ.1 σ.2)
 | ([],i)=>aF 1010 (.br 100000010 (.op 60006 (.el (cI .u32) a (.up i)) (.op 60012 (.ap (cI .u32) [] [nth a i] 1 fun _=>⟨rfl,rfl⟩) (.ps 1000003 [.k [0,3,4,5] [1011],.m 1011 100002] (.ret (.inl ([nth a i],i+1)))))) (.ps 1000003 [.k [4] [100002]] (.ret (.inr []))))
 | (qF::qG,i)=>aF 1010 (.br 100000010 (.op 60006 (.el (cI .u32) a (.up i)) (.op 60012 (.ap (cI .u32) (qF::qG) [nth a i] 1 fun _=>⟨rfl,rfl⟩) (.ps 1000003 [.k [0,3,4,5] [1011],.m 1011 100002] (.ret (.inl ((qF::qG)++[nth a i],i+1)))))) (.ps 1000003 [.k [4] [100002]] (.ret (.inr (qF::qG)))))
def zJ (a:List Int) (x0:Int) (out:List Int) (i:Nat):Option (List Int):=aO (fun (σ:List Int×Nat)=>kT a x0 σ.1 σ.2) FU (out,i)
def ND (a:List Int) (x0:Int) (out:List Int) (i:Nat):=
 aS (OG a x0) (fun _ h=>by cases h) FU (out,i)
def iD (a:List Int):Option (List Int):=(Eu a).bind fun x0=>(zJ a x0 [] 0).bind fun x1=>some x1
theorem gZ (a:List Int):∀r,iD a=some r->au Tryz.prog 210 0 [SL (cI .u32) a] [] (SL (cI .u32) r) []:=
 ay 10 (.call [] [] (Ws a) .no fun x0=>.ps 1000001 [.k [0,3,4,5] [100002]] (.lp1 0 (ND a x0 [] 0) fun x1=>.oz 1 4 100002 1 (cI .u32) x1 (.ps 1 [.k [4] []] (.ret x1)))) Tryz.func210
def QV (a:List Int) (w:Int) (out:List Int) (carry:Int) (i:Nat):St:=⟨44,0,[(0,SL (cI .u32) a),(1,NI .u32 w),(7,eX 100003 out),(8,NI .u64 carry),(9,I ((i:Nat):Int))],[(100003,fB 1 (cI .u32) out)]⟩
def Pq (a:List Int) (w:Int) (out:List Int) (carry:Int):St:=⟨44,0,[(7,eX 100003 out),(8,NI .u64 carry)],[(100003,fB 1 (cI .u32) out)]⟩
def lS (a:List Int) (w:Int) (out:List Int) (carry:Int) (i:Nat):Option ((List Int×Int×Nat)⊕(List Int×Int)):=bif decide (((i:Nat):Int)<((a.length:Nat):Int)) then bif decide (i<a.length) then bif inK .u64 (nth a i) then bif inK .u64 w then bif decide (0<=IntKind.wrap .u64 ((IntKind.wrap .u64 ((nth a i)*w))+carry)) then bif decide (0<4294967296) then bif decide (out.length+1<=2147483648) then bif decide (0<=IntKind.wrap .u64 ((IntKind.wrap .u64 ((nth a i)*w))+carry)) then bif decide (0<4294967296) then bif decide (IntKind.wrap .u64 ((IntKind.wrap .u64 ((nth a i)*w))+carry)<=Go.Ab.hi .u64) then bif inK .i64 (((i:Nat):Int)+1) then some (.inl (out++[IntKind.wrap .u32 ((IntKind.wrap .u64 ((IntKind.wrap .u64 ((nth a i)*w))+carry))%4294967296)],(IntKind.wrap .u64 ((IntKind.wrap .u64 ((nth a i)*w))+carry))/4294967296,i+1)) else none else none else none else none else none else none else none else none else none else none else some (.inr (out,carry))
theorem RQ (a:List Int) (w:Int):∀σ:List Int×Int×Nat,aN Tryz.prog (nav [1,1,1,0,1,0,0] (aj Tryz.f171)) (fun (σ:List Int×Int×Nat)=>QV a w σ.1 σ.2.1 σ.2.2) (fun (_:List Int×Int)=>(.exit 0)) (fun (y:List Int×Int)=>Pq a w y.1 y.2) σ (lS a w σ.1 σ.2.1 σ.2.2)
 | ([],carry,i)=>aF 1010 (.op 40004 (.ln (cI .u32) a) (.br 100000016 (.op 60004 (.el (cI .u32) a (.up i)) (.op 70006 .wr (.op 70010 (.ap (cI .u32) [] [IntKind.wrap .u32 ((IntKind.wrap .u64 ((IntKind.wrap .u64 ((nth a i)*w))+carry))%4294967296)] 1 fun _=>⟨rfl,rfl⟩) (.ps 1000003 [.k [0,1,7,8,9] [1011],.m 1011 100003] (.ret (.inl ([IntKind.wrap .u32 ((IntKind.wrap .u64 ((IntKind.wrap .u64 ((nth a i)*w))+carry))%4294967296)],(IntKind.wrap .u64 ((IntKind.wrap .u64 ((nth a i)*w))+carry))/4294967296,i+1))))))) (.ps 1000003 [.k [7,8] [100003]] (.ret (.inr ([],carry))))))
 | (qF::qG,carry,i)=>aF 1010 (.op 40004 (.ln (cI .u32) a) (.br 100000016 (.op 60004 (.el (cI .u32) a (.up i)) (.op 70006 .wr (.op 70010 (.ap (cI .u32) (qF::qG) [IntKind.wrap .u32 ((IntKind.wrap .u64 ((IntKind.wrap .u64 ((nth a i)*w))+carry))%4294967296)] 1 fun _=>⟨rfl,rfl⟩) (.ps 1000003 [.k [0,1,7,8,9] [1011],.m 1011 100003] (.ret (.inl ((qF::qG)++[IntKind.wrap .u32 ((IntKind.wrap .u64 ((IntKind.wrap .u64 ((nth a i)*w))+carry))%4294967296)],(IntKind.wrap .u64 ((IntKind.wrap .u64 ((nth a i)*w))+carry))/4294967296,i+1))))))) (.ps 1000003 [.k [7,8] [100003]] (.ret (.inr ((qF::qG),carry))))))
def Dq (a:List Int) (w:Int) (out:List Int) (carry:Int) (i:Nat):Option (List Int×Int):=aO (fun (σ:List Int×Int×Nat)=>lS a w σ.1 σ.2.1 σ.2.2) FU (out,carry,i)
def Sj (a:List Int) (w:Int) (out:List Int) (carry:Int) (i:Nat):=
 aS (RQ a w) (fun _ h=>by cases h) FU (out,carry,i)
def jC (a:List Int) (w:Int) (c:Int):Option (List Int):=bif inK .u64 c then (Dq a w [] c 0).bind fun x0=>bif x0.1.isEmpty then (iD [IntKind.wrap .u32 x0.2]).bind fun x1=>some x1 else bif decide (x0.1.length+1<=2147483648) then (iD (x0.1++[IntKind.wrap .u32 x0.2])).bind fun x1=>some x1 else none else none
theorem um (a:List Int) (w:Int) (c:Int):∀r,jC a w c=some r->au Tryz.prog 171 0 [SL (cI .u32) a,NI .u32 w,NI .u32 c] [] (SL (cI .u32) r) []:=
 ay 10 (.ps 1000001 [.k [0,1,7,8,9] [100003]] (.lp1 0 (Sj a w [] c 0) fun x0=>.cl 1 7 100003 1 (cI .u32) x0.1 (.ps 1 [.k [7,8] []] (.op 90004 .wr (.op 90008 (.ap (cI .u32) [] [IntKind.wrap .u32 x0.2] 1 fun _=>⟨rfl,rfl⟩) (.call [] [] (gZ [IntKind.wrap .u32 x0.2]) .no fun x1=>.ret x1)))) (.ps 1 [.k [7,8] [100003]] (.op 90004 .wr (.op 90008 (.ap (cI .u32) x0.1 [IntKind.wrap .u32 x0.2] 1 fun _=>⟨rfl,rfl⟩) (.call [] [] (gZ (x0.1++[IntKind.wrap .u32 x0.2])) .no fun x1=>.ret x1)))))) Tryz.func171
def Ee (a:List Int) (i:Int):Option Int:=bif decide (0<=i) then bif decide (0<32) then bif decide (i<=Go.Ab.hi .i64) then bif decide (0<=i/32) then bif decide ((i/32).toNat<a.length) then bif decide (0<=i) then bif decide (0<32) then bif decide (0<=i%32) then some (af9 .u32 (kS .u32 (nth a ((i/32).toNat)) (i%32)) 1) else none else none else none else none else none else none else none else none
theorem XJ (a:List Int) (i:Int):∀r,Ee a i=some r->au Tryz.prog 245 0 [SL (cI .u32) a,I i] [] (NI .u32 r) []:=
 ay 10 (.op 10006 (.el (cI .u32) a .dn) (.ret (af9 .u32 (kS .u32 (nth a ((i/32).toNat)) (i%32)) 1))) Tryz.func245
def nJ (a:List Int) (i:Int):Option Int:=bif decide (i<0) then some 0 else bif decide (i>=((a.length:Nat):Int)) then some 0 else bif decide (0<=i) then bif decide (i.toNat<a.length) then bif inK .u64 (nth a i.toNat) then some (nth a i.toNat) else none else none else none
theorem jU (a:List Int) (i:Int):∀r,nJ a i=some r->au Tryz.prog 217 0 [SL (cI .u32) a,I i] [] (NI .u64 r) []:=
 ay 10 (.br 10006 (.ret 0) (.op 10010 (.ln (cI .u32) a) (.br 100000012 (.ret 0) (.op 30004 (.el (cI .u32) a .dn) (.ret (nth a i.toNat)))))) Tryz.func217
def TQ (a:List Int) (b:List Int) (i:Int):St:=⟨32,0,[(0,SL (cI .u32) a),(1,SL (cI .u32) b),(6,I i)],[]⟩
def PX (a:List Int) (b:List Int) (i:Int):St:=⟨32,0,[(4,I i)],[]⟩
def Tn (a:List Int) (b:List Int):St:=⟨32,0,[],[]⟩
def jF (a:List Int) (b:List Int) (i:Int):Option (Int⊕(Int⊕Unit)):=bif decide (i>=0) then (nJ a i).bind fun x0=>(nJ b i).bind fun x1=>bif decide (x0<x1) then some (.inr (.inl (-1))) else (nJ a i).bind fun x2=>(nJ b i).bind fun x3=>bif decide (x2>x3) then some (.inr (.inl 1)) else bif inK .i64 (i-1) then some (.inl (i-1)) else none else some (.inr (.inr ()))
theorem Ul (a:List Int) (b:List Int):∀σ:Int,aN Tryz.prog (nav [1,1,0,1,0,0] (aj Tryz.f174)) (fun (σ:Int)=>TQ a b σ) (fun (y:Int⊕Unit)=>bn y (fun _=>.ret) (fun _=>(.exit 0))) (fun (y:Int⊕Unit)=>bn y (fun y=>PX a b y) (fun y=>Tn a b)) σ (jF a b σ)
 | i=>aF 1010 (.br 100000015 (.call [] [] (jU a i) .no fun x0=>.call [] [] (jU b i) .no fun x1=>.br 100000024 (.ps 1000003 [.k [4] []] (.ret (.inr (.inl (-1))))) (.call [] [] (jU a i) .no fun x2=>.call [] [] (jU b i) .no fun x3=>.br 100000031 (.ps 1000003 [.k [4] []] (.ret (.inr (.inl 1)))) (.ps 1000003 [.k [0,1,6] []] (.ret (.inl (i-1)))))) (.ps 1000003 [.k [] []] (.ret (.inr (.inr ())))))
def LM (a:List Int) (b:List Int) (i:Int):Option (Int⊕Unit):=aO (fun (σ:Int)=>jF a b σ) FU i
def Ry (a:List Int) (b:List Int) (i:Int):=
 aS (Ul a b) (fun y h=>by rcases y with y | y<;>cases h) FU i
def rE (a:List Int) (b:List Int):Option Int:=bif inK .i64 ((mxI ((a.length:Nat):Int) ((b.length:Nat):Int))-1) then (LM a b ((mxI ((a.length:Nat):Int) ((b.length:Nat):Int))-1)).bind fun y_=>bn y_ (fun x0=>some x0) (fun x1=>some 0) else none
theorem uF (a:List Int) (b:List Int):∀r,rE a b=some r->au Tryz.prog 174 0 [SL (cI .u32) a,SL (cI .u32) b] [] (I r) []:=
 ay 10 (.op 10002 (.ln (cI .u32) a) (.op 10006 (.ln (cI .u32) b) (.ps 1000001 [.k [0,1,6] []] (.lp2 0 (Ry a b ((mxI ((a.length:Nat):Int) ((b.length:Nat):Int))-1)) (fun x0=>.ret x0) (fun x1=>.ret 0))))) Tryz.func174
def Rx (a:List Int) (b:List Int) (out:List Int) (borrow:Int) (i:Nat):St:=⟨41,0,[(0,SL (cI .u32) a),(1,SL (cI .u32) b),(6,eX 100004 out),(7,NI .u64 borrow),(8,I ((i:Nat):Int))],[(100004,fB 1 (cI .u32) out)]⟩
def Qy (a:List Int) (b:List Int) (out:List Int):St:=⟨41,0,[(6,eX 100004 out)],[(100004,fB 1 (cI .u32) out)]⟩
def lN (a:List Int) (b:List Int) (out:List Int) (borrow:Int) (i:Nat):Option ((List Int×Int×Nat)⊕(List Int)):=bif decide (((i:Nat):Int)<((a.length:Nat):Int)) then (nJ a ((i:Nat):Int)).bind fun x1=>(nJ b ((i:Nat):Int)).bind fun x2=>bif decide (0<=IntKind.wrap .u64 ((IntKind.wrap .u64 ((IntKind.wrap .u64 (4294967296+x1))-x2))-borrow)) then bif decide (0<4294967296) then bif decide (out.length+1<=2147483648) then bif decide (0<=IntKind.wrap .u64 ((IntKind.wrap .u64 ((IntKind.wrap .u64 (4294967296+x1))-x2))-borrow)) then bif decide (0<4294967296) then bif decide (IntKind.wrap .u64 ((IntKind.wrap .u64 ((IntKind.wrap .u64 (4294967296+x1))-x2))-borrow)<=Go.Ab.hi .u64) then bif inK .i64 (((i:Nat):Int)+1) then some (.inl (out++[IntKind.wrap .u32 ((IntKind.wrap .u64 ((IntKind.wrap .u64 ((IntKind.wrap .u64 (4294967296+x1))-x2))-borrow))%4294967296)],IntKind.wrap .u64 (1-((IntKind.wrap .u64 ((IntKind.wrap .u64 ((IntKind.wrap .u64 (4294967296+x1))-x2))-borrow))/4294967296)),i+1)) else none else none else none else none else none else none else none else some (.inr out)
theorem Qv (a:List Int) (b:List Int):∀σ:List Int×Int×Nat,aN Tryz.prog (nav [1,1,1,1,0,1,0,0] (aj Tryz.f175)) (fun (σ:List Int×Int×Nat)=>Rx a b σ.1 σ.2.1 σ.2.2) (fun (_:List Int)=>(.exit 0)) (fun (y:List Int)=>Qy a b y) σ (lN a b σ.1 σ.2.1 σ.2.2)
 | ([],borrow,i)=>aF 1010 (.op 60004 (.ln (cI .u32) a) (.br 100000017 (.call [] [] (jU a ((i:Nat):Int)) .no fun x1=>.call [] [] (jU b ((i:Nat):Int)) .no fun x2=>.op 90006 .wr (.op 90010 (.ap (cI .u32) [] [IntKind.wrap .u32 ((IntKind.wrap .u64 ((IntKind.wrap .u64 ((IntKind.wrap .u64 (4294967296+x1))-x2))-borrow))%4294967296)] 1 fun _=>⟨rfl,rfl⟩) (.ps 1000003 [.k [0,1,6,7,8] [1011],.m 1011 100004] (.ret (.inl ([IntKind.wrap .u32 ((IntKind.wrap .u64 ((IntKind.wrap .u64 ((IntKind.wrap .u64 (4294967296+x1))-x2))-borrow))%4294967296)],IntKind.wrap .u64 (1-((IntKind.wrap .u64 ((IntKind.wrap .u64 ((IntKind.wrap .u64 (4294967296+x1))-x2))-borrow))/4294967296)),i+1)))))) (.ps 1000003 [.k [6] [100004]] (.ret (.inr [])))))
 | (qF::qG,borrow,i)=>aF 1010 (.op 60004 (.ln (cI .u32) a) (.br 100000017 (.call [] [] (jU a ((i:Nat):Int)) .no fun x1=>.call [] [] (jU b ((i:Nat):Int)) .no fun x2=>.op 90006 .wr (.op 90010 (.ap (cI .u32) (qF::qG) [IntKind.wrap .u32 ((IntKind.wrap .u64 ((IntKind.wrap .u64 ((IntKind.wrap .u64 (4294967296+x1))-x2))-borrow))%4294967296)] 1 fun _=>⟨rfl,rfl⟩) (.ps 1000003 [.k [0,1,6,7,8] [1011],.m 1011 100004] (.ret (.inl ((qF::qG)++[IntKind.wrap .u32 ((IntKind.wrap .u64 ((IntKind.wrap .u64 ((IntKind.wrap .u64 (4294967296+x1))-x2))-borrow))%4294967296)],IntKind.wrap .u64 (1-((IntKind.wrap .u64 ((IntKind.wrap .u64 ((IntKind.wrap .u64 (4294967296+x1))-x2))-borrow))/4294967296)),i+1)))))) (.ps 1000003 [.k [6] [100004]] (.ret (.inr (qF::qG))))))
def Cm (a:List Int) (b:List Int) (out:List Int) (borrow:Int) (i:Nat):Option (List Int):=aO (fun (σ:List Int×Int×Nat)=>lN a b σ.1 σ.2.1 σ.2.2) FU (out,borrow,i)
def Ru (a:List Int) (b:List Int) (out:List Int) (borrow:Int) (i:Nat):=
 aS (Qv a b) (fun _ h=>by cases h) FU (out,borrow,i)
def vk (a:List Int) (b:List Int):Option (List Int×Bool):=(rE a b).bind fun x0=>bif decide (x0<0) then some ([],false) else (Cm a b [] 0 0).bind fun x1=>(iD x1).bind fun x2=>some (x2,true)
theorem zU (a:List Int) (b:List Int):∀r,vk a b=some r->au Tryz.prog 175 0 [SL (cI .u32) a,SL (cI .u32) b] [] (.tup [SL (cI .u32) r.1,B r.2]) []:=
 ay 10 (.call [] [] (uF a b) .no fun x0=>.br 100000013 (.ps 1000003 [.n 4] (.ret ([],false))) (.ps 1000001 [.k [0,1,6,7,8] [100004]] (.lp1 0 (Ru a b [] 0 0) fun x1=>.oz 1 6 100004 1 (cI .u32) x1 (.ps 1 [.k [6] []] (.call [] [] (gZ x1) .no fun x2=>.ret (x2,true)))))) Tryz.func175
def QC (a:List Int) (x0:List Int) (q:List Int) (r:List Int) (i:Int):St:=⟨45,0,[(0,SL (cI .u32) a),(7,SL (cI .u32) x0),(8,SL (cI .u32) q),(9,SL (cI .u32) r),(10,I i)],[]⟩
def QG (a:List Int) (x0:List Int) (q:List Int) (r:List Int):St:=⟨45,0,[(8,SL (cI .u32) q),(9,SL (cI .u32) r)],[]⟩
def iI (a:List Int) (x0:List Int) (q:List Int) (r:List Int) (i:Int):Option ((List Int×List Int×Int)⊕(List Int×List Int)):=bif decide (i>=0) then (jC q 2 0).bind fun x1=>(Ee a i).bind fun x2=>(jC r 2 x2).bind fun x3=>(rE x3 x0).bind fun x4=>bif decide (x4>=0) then (vk x3 x0).bind fun x5=>(jC x1 1 1).bind fun x6=>bif inK .i64 (i-1) then some (.inl (x6,x5.1,i-1)) else none else bif inK .i64 (i-1) then some (.inl (x1,x3,i-1)) else none else some (.inr (q,r))
theorem SC (a:List Int) (x0:List Int):∀σ:List Int×List Int×Int,aN Tryz.prog (nav [1,1,1,1,1,0,1,0,0] (aj Tryz.f212)) (fun (σ:List Int×List Int×Int)=>QC a x0 σ.1 σ.2.1 σ.2.2) (fun (_:List Int×List Int)=>(.exit 0)) (fun (y:List Int×List Int)=>QG a x0 y.1 y.2) σ (iI a x0 σ.1 σ.2.1 σ.2.2)
 | (q,r,i)=>aF 1010 (.br 100000021 (.call [] [] (um q 2 0) .no fun x1=>.call [] [] (XJ a i) .no fun x2=>.call [] [] (um r 2 x2) .no fun x3=>.call [] [] (uF x3 x0) .no fun x4=>.br 100000034 (.call [] [] (zU x3 x0) .no fun x5=>.call [] [] (um x1 1 1) .no fun x6=>.ps 1000003 [.k [0,7,8,9,10] []] (.ret (.inl (x6,x5.1,i-1)))) (.ps 1000003 [.k [0,7,8,9,10] []] (.ret (.inl (x1,x3,i-1))))) (.ps 1000003 [.k [8,9] []] (.ret (.inr (q,r)))))
def C9 (a:List Int) (x0:List Int) (q:List Int) (r:List Int) (i:Int):Option (List Int×List Int):=aO (fun (σ:List Int×List Int×Int)=>iI a x0 σ.1 σ.2.1 σ.2.2) FU (q,r,i)
def Qb (a:List Int) (x0:List Int) (q:List Int) (r:List Int) (i:Int):=
 aS (SC a x0) (fun _ h=>by cases h) FU (q,r,i)
def vC (a:List Int) (b:List Int):Option (List Int×List Int×Bool):=(iD b).bind fun x0=>bif ((x0.length:Nat):Int)==0 then some ([],[],false) else bif inK .i64 (32*((a.length:Nat):Int)) then bif inK .i64 ((32*((a.length:Nat):Int))-1) then (C9 a x0 [] [] ((32*((a.length:Nat):Int))-1)).bind fun x1=>some (x1.1,x1.2,true) else none else none
theorem Az (a:List Int) (b:List Int):∀r,vC a b=some r->au Tryz.prog 212 0 [SL (cI .u32) a,SL (cI .u32) b] [] (.tup [SL (cI .u32) r.1,SL (cI .u32) r.2.1,B r.2.2]) []:=
 ay 10 (.call [] [] (gZ b) .no fun x0=>.op 20002 (.ln (cI .u32) x0) (.br 100000015 (.ps 1000003 [.n 4,.n 5] (.ret ([],[],false))) (.op 60002 (.ln (cI .u32) a) (.ps 1000001 [.n 8,.n 9,.k [0,7,8,9,10] []] (.lp1 0 (Qb a x0 [] [] ((32*((a.length:Nat):Int))-1)) fun x1=>.ret (x1.1,x1.2,true)))))) Tryz.func212
def oJ (a:List Int) (d:Int):Option (List Int×Int×Bool):=(vC a [d]).bind fun x0=>bif ((x0.2.1.length:Nat):Int)==0 then some (x0.1,0,x0.2.2) else bif decide (0<x0.2.1.length) then some (x0.1,nth x0.2.1 0,x0.2.2) else none
theorem Qu (a:List Int) (d:Int):∀r,oJ a d=some r->au Tryz.prog 264 0 [SL (cI .u32) a,NI .u32 d] [] (.tup [SL (cI .u32) r.1,NI .u32 r.2.1,B r.2.2]) []:=
 ay 10 (.call [] [] (Az a [d]) .no fun x0=>.op 20002 (.ln (cI .u32) x0.2.1) (.br 100000020 (.ret (x0.1,0,x0.2.2)) (.op 40004 (.el (cI .u32) x0.2.1 (.up 0)) (.ret (x0.1,nth x0.2.1 0,x0.2.2))))) Tryz.func264
def SA (a1:List Int) (n:Nat):St:=⟨25,0,[(0,SL (cI .u32) a1),(4,I ((n:Nat):Int))],[]⟩
def SY (a1:List Int) (n:Nat):St:=⟨25,0,[(0,SL (cI .u32) a1),(4,I ((n:Nat):Int))],[]⟩
def iH (a1:List Int) (n:Nat):Option ((List Int×Nat)⊕(List Int×Nat)):=bif decide (((a1.length:Nat):Int)>0) then bif decide (0<a1.length) then bif decide (0<=nth a1 0) then bif decide (0<2) then bif ((nth a1 0)%2)==0 then (oJ a1 2).bind fun x0=>bif inK .i64 (((n:Nat):Int)+1) then some (.inl (x0.1,n+1)) else none else some (.inr (a1,n)) else none else none else none else some (.inr (a1,n))
theorem SS:∀σ:List Int×Nat,aN Tryz.prog (nav [1,1,0,0,0] (aj Tryz.f243)) (fun (σ:List Int×Nat)=>SA σ.1 σ.2) (fun (_:List Int×Nat)=>(.exit 0)) (fun (y:List Int×Nat)=>SY y.1 y.2) σ (iH σ.1 σ.2)
 | (a1,n)=>aF 1010 (.op 20002 (.ln (cI .u32) a1) (.br 20008 (.op 20010 (.el (cI .u32) a1 (.up 0)) (.br 100000014 (.call [] [] (Qu a1 2) .no fun x0=>.ps 1000003 [.k [0,4] []] (.ret (.inl (x0.1,n+1)))) (.ps 1000003 [.k [0,4] []] (.ret (.inr (a1,n)))))) (.ps 1000003 [.k [0,4] []] (.ret (.inr (a1,n))))))
def MF (a1:List Int) (n:Nat):Option (List Int×Nat):=aO (fun (σ:List Int×Nat)=>iH σ.1 σ.2) FU (a1,n)
def Qp (a1:List Int) (n:Nat):=
 aS (SS) (fun _ h=>by cases h) FU (a1,n)
def rF (a:List Int):Option (List Int×Int):=(MF a 0).bind fun x0=>some (x0.1,((x0.2:Nat):Int))
theorem uP (a:List Int):∀r,rF a=some r->au Tryz.prog 243 0 [SL (cI .u32) a] [] (.tup [SL (cI .u32) r.1,I r.2]) []:=
 ay 10 (.ps 1000001 [.k [0,4] []] (.lp1 0 (Qp a 0) fun x0=>.ret (x0.1,((x0.2:Nat):Int)))) Tryz.func243
def Qk (x2:List Int×Int) (x3:List Int×Int) (x:List Int) (y1:List Int):St:=⟨59,0,[(5,SL (cI .u32) x),(6,SL (cI .u32) y1),(7,I x2.2),(8,I x3.2)],[]⟩
def RS (x2:List Int×Int) (x3:List Int×Int) (x:List Int):St:=⟨59,0,[(5,SL (cI .u32) x),(7,I x2.2),(8,I x3.2)],[]⟩
def jR (x2:List Int×Int) (x3:List Int×Int) (x:List Int) (y1:List Int):Option ((List Int×List Int)⊕(List Int)):=(rE x y1).bind fun x4=>bif x4 != 0 then (rE x y1).bind fun x5=>bif decide (x5<0) then (vk y1 x).bind fun x6=>(rF x6.1).bind fun x7=>some (.inl (x7.1,x)) else (vk x y1).bind fun x6=>(rF x6.1).bind fun x7=>some (.inl (x7.1,y1)) else some (.inr x)
theorem PZ (x2:List Int×Int) (x3:List Int×Int):∀σ:List Int×List Int,aN Tryz.prog (nav [1,1,1,1,1,1,1,0,0,0] (aj Tryz.f211)) (fun (σ:List Int×List Int)=>Qk x2 x3 σ.1 σ.2) (fun (_:List Int)=>(.exit 0)) (fun (y:List Int)=>RS x2 x3 y) σ (jR x2 x3 σ.1 σ.2)
 | (x,y1)=>aF 1010 (.call [] [] (uF x y1) .no fun x4=>.br 100000035 (.call [] [] (uF x y1) .no fun x5=>.br 100000039 (.call [] [] (zU y1 x) .no fun x6=>.call [] [] (uP x6.1) .no fun x7=>.ps 1000003 [.k [5,6,7,8] []] (.ret (.inl (x7.1,x)))) (.call [] [] (zU x y1) .no fun x6=>.call [] [] (uP x6.1) .no fun x7=>.ps 1000003 [.k [5,6,7,8] []] (.ret (.inl (x7.1,y1))))) (.ps 1000003 [.k [5,7,8] []] (.ret (.inr x))))
def LH (x2:List Int×Int) (x3:List Int×Int) (x:List Int) (y1:List Int):Option (List Int):=aO (fun (σ:List Int×List Int)=>jR x2 x3 σ.1 σ.2) FU (x,y1)
def PU (x2:List Int×Int) (x3:List Int×Int) (x:List Int) (y1:List Int):=
 aS (PZ x2 x3) (fun _ h=>by cases h) FU (x,y1)
def KT (n:Int) (out:List Int) (i:Nat):St:=⟨26,0,[(1,I n),(5,SL (cI .u32) out),(6,I ((i:Nat):Int))],[]⟩
def Lh (n:Int) (out:List Int):St:=⟨26,0,[(5,SL (cI .u32) out)],[]⟩
def jL (n:Int) (out:List Int) (i:Nat):Option ((List Int×Nat)⊕(List Int)):=bif decide (((i:Nat):Int)<n) then bif decide (((i:Nat):Int)<100000) then bif decide (((out.length:Nat):Int)>0) then (jC out 2 0).bind fun x1=>bif inK .i64 (((i:Nat):Int)+1) then some (.inl (x1,i+1)) else none else some (.inr out) else some (.inr out) else some (.inr out)
theorem J4 (n:Int):∀σ:List Int×Nat,aN Tryz.prog (nav [1,1,0,1,0,0] (aj Tryz.f244)) (fun (σ:List Int×Nat)=>KT n σ.1 σ.2) (fun (_:List Int)=>(.exit 0)) (fun (y:List Int)=>Lh n y) σ (jL n σ.1 σ.2)
 | (out,i)=>aF 1010 (.br 30008 (.br 30016 (.op 30018 (.ln (cI .u32) out) (.br 100000020 (.call [] [] (um out 2 0) .no fun x1=>.ps 1000003 [.k [1,5,6] []] (.ret (.inl (x1,i+1)))) (.ps 1000003 [.k [5] []] (.ret (.inr out))))) (.ps 1000003 [.k [5] []] (.ret (.inr out)))) (.ps 1000003 [.k [5] []] (.ret (.inr out))))
def yF (n:Int) (out:List Int) (i:Nat):Option (List Int):=aO (fun (σ:List Int×Nat)=>jL n σ.1 σ.2) FU (out,i)
def JW (n:Int) (out:List Int) (i:Nat):=
 aS (J4 n) (fun _ h=>by cases h) FU (out,i)
def xZ (a:List Int) (n:Int):Option (List Int):=(iD a).bind fun x0=>(yF n x0 0).bind fun x1=>some x1
theorem Uh (a:List Int) (n:Int):∀r,xZ a n=some r->au Tryz.prog 244 0 [SL (cI .u32) a,I n] [] (SL (cI .u32) r) []:=
 ay 10 (.call [] [] (gZ a) .no fun x0=>.ps 1000001 [.k [1,5,6] []] (.lp1 0 (JW n x0 0) fun x1=>.ret x1)) Tryz.func244
def uV (a:List Int) (b:List Int):Option (List Int):=(iD a).bind fun x0=>(iD b).bind fun x1=>bif ((x0.length:Nat):Int)==0 then some x1 else bif ((x1.length:Nat):Int)==0 then some x0 else (rF x0).bind fun x2=>(rF x1).bind fun x3=>(LH x2 x3 x2.1 x3.1).bind fun x4=>(xZ x4 (mnI x2.2 x3.2)).bind fun x5=>some x5
theorem Xz (a:List Int) (b:List Int):∀r,uV a b=some r->au Tryz.prog 211 0 [SL (cI .u32) a,SL (cI .u32) b] [] (SL (cI .u32) r) []:=
 ay 10 (.call [] [] (gZ a) .no fun x0=>.call [] [] (gZ b) .no fun x1=>.op 30002 (.ln (cI .u32) x0) (.br 100000016 (.ret x1) (.op 50002 (.ln (cI .u32) x1) (.br 100000020 (.ret x0) (.call [] [] (uP x0) .no fun x2=>.call [] [] (uP x1) .no fun x3=>.ps 1000001 [.k [5,6,7,8] []] (.lp1 0 (PU x2 x3 x2.1 x3.1) fun x4=>.call [] [] (Uh x4 (mnI x2.2 x3.2)) .no fun x5=>.ret x5)))))) Tryz.func211
def pF (a:List Int) (b:List Int):Option (List Int×List Int×Bool):=(iD b).bind fun x0=>bif ((x0.length:Nat):Int)==0 then some ([],[],false) else (uV a x0).bind fun x1=>(vC a x1).bind fun x2=>(vC x0 x1).bind fun x3=>some (x2.1,x3.1,true)
theorem Nb (a:List Int) (b:List Int):∀r,pF a b=some r->au Tryz.prog 162 0 [SL (cI .u32) a,SL (cI .u32) b] [] (.tup [SL (cI .u32) r.1,SL (cI .u32) r.2.1,B r.2.2]) []:=
 ay 10 (.call [] [] (gZ b) .no fun x0=>.op 20002 (.ln (cI .u32) x0) (.br 100000016 (.ps 1000003 [.n 4,.n 5] (.ret ([],[],false))) (.call [] [] (Xz a x0) .no fun x1=>.call [] [] (Az a x1) .no fun x2=>.call [] [] (Az x0 x1) .no fun x3=>.ret (x2.1,x3.1,true)))) Tryz.func162
def qc (n:Whole) (d:List Int):Option Rat:=(pF n.Mag d).bind fun x0=>bif !x0.2.2 then some (Rat.mk false [] [1]) else bif ((x0.1.length:Nat):Int)==0 then some (Rat.mk false [] [1]) else some (Rat.mk n.Neg x0.1 x0.2.1)
theorem Bo (n:Whole) (d:List Int):∀r,qc n d=some r->au Tryz.prog 112 0 [AG Whole.D n,SL (cI .u32) d] [] (AG Rat.D r) []:=
 ay 10 (.call [] [] (Nb n.Mag d) .no fun x0=>.br 20006 (.ps 1000003 [.b 11] (.ret (Rat.mk false [] [1]))) (.op 20008 (.ln (cI .u32) x0.1) (.br 100000022 (.ps 1000003 [.b 11] (.ret (Rat.mk false [] [1]))) (.ret (Rat.mk n.Neg x0.1 x0.2.1))))) Tryz.func112
def xq (g:Graph):Option Bool:=bif decide (g.Ins>=1) then bif decide (g.Ins<=40) then bif decide (g.aH>=1) then bif decide (g.aH<=40) then bif decide (g.aG>=0) then some (decide (g.aG<=400)) else some false else some false else some false else some false else some false
theorem TN (g:Graph):∀r,xq g=some r->au Tryz.prog 86 0 [AG Graph.D g] [] (B r) []:=
 ay 10 (.br 10008 (.br 10018 (.br 10028 (.br 10038 (.br 10048 (.ret (decide (g.aG<=400))) (.ret false)) (.ret false)) (.ret false)) (.ret false)) (.ret false)) Tryz.func86
def Eo (g:Graph) (v:Int):Option Bool:=bif decide (v>=g.Ins) then bif inK .i64 (g.Ins+g.aG) then some (decide (v<(g.Ins+g.aG))) else none else some false
theorem Xq (g:Graph) (v:Int):∀r,Eo g v=some r->au Tryz.prog 139 0 [AG Graph.D g,I v] [] (B r) []:=
 ay 10 (.br 10010 (.ret (decide (v<(g.Ins+g.aG)))) (.ret false)) Tryz.func139
def N7 (g:Graph) (i:Nat):St:=⟨32,0,[(1,.ptr 10 0 0),(6,SL (cI .i64) g.Gone),(7,I ((g.Gone.length:Nat):Int)),(8,I ((i:Nat):Int))],[(10,BOX [I g.Ins,I g.aG,I g.aH,SL Edge.D g.ah,SL (cI .i64) g.Gone])]⟩
def Nc (g:Graph):St:=⟨32,0,[(2,B false)],[]⟩
def N9 (g:Graph):St:=⟨32,0,[],[]⟩
def iT (g:Graph) (i:Nat):Option (Nat⊕(Unit⊕Unit)):=bif decide (((i:Nat):Int)<((g.Gone.length:Nat):Int)) then bif decide (i<g.Gone.length) then (Eo g (nth g.Gone i)).bind fun x0=>bif !x0 then some (.inr (.inl ())) else bif decide (((i:Nat):Int)>0) then bif inK .i64 (((i:Nat):Int)-1) then bif decide (0<=((i:Nat):Int)-1) then bif decide ((((i:Nat):Int)-1).toNat<g.Gone.length) then bif decide ((nth g.Gone i)<=(nth g.Gone ((((i:Nat):Int)-1).toNat))) then some (.inr (.inl ())) else bif inK .i64 (((i:Nat):Int)+1) then some (.inl (i+1)) else none else none else none else none else bif inK .i64 (((i:Nat):Int)+1) then some (.inl (i+1)) else none else none else some (.inr (.inr ()))
theorem NS (g:Graph):∀σ:Nat,aN Tryz.prog (nav [1,0,1,0,0] (aj Tryz.f87)) (fun (σ:Nat)=>N7 g σ) (fun (y:Unit⊕Unit)=>bn y (fun _=>.ret) (fun _=>(.exit 0))) (fun (y:Unit⊕Unit)=>bn y (fun y=>Nc g) (fun y=>N9 g)) σ (iT g σ)
 | i=>aF 1010 (.br 100000009 (.op 30002 (.el (cI .i64) g.Gone (.up i)) (.call [] [] (Xq g (nth g.Gone i)) .no fun x0=>.br 40010 (.ps 1000003 [.k [2] []] (.ret (.inr (.inl ())))) (.br 40016 (.op 40026 (.el (cI .i64) g.Gone .dn) (.br 100000030 (.ps 1000003 [.k [2] []] (.ret (.inr (.inl ())))) (.ps 1000003 [.k [1,6,7,8] [10]] (.ret (.inl (i+1)))))) (.ps 1000003 [.k [1,6,7,8] [10]] (.ret (.inl (i+1))))))) (.ps 1000003 [.k [] []] (.ret (.inr (.inr ())))))
def AX (g:Graph) (i:Nat):Option (Unit⊕Unit):=aO (fun (σ:Nat)=>iT g σ) FU i
def N8 (g:Graph) (i:Nat):=
 aS (NS g) (fun y h=>by rcases y with y | y<;>cases h) FU i
def zC (g:Graph):Option Bool:=(AX g 0).bind fun y_=>bn y_ (fun x0=>some false) (fun x1=>some true)
theorem Uu (g:Graph):∀r,zC g=some r->au Tryz.prog 87 0 [AG Graph.D g] [] (B r) []:=
 ay 10 (.op 10004 (.ln (cI .i64) g.Gone) (.ps 1000001 [.k [1,6,7,8] [10]] (.lp2 0 (N8 g 0) (fun x0=>.ret false) (fun x1=>.ret true)))) Tryz.func87
def wU (s:List Int) (v:Int) (i:Nat):St:=⟨19,0,[(0,SL (cI .i64) s),(1,I v),(7,I ((s.length:Nat):Int)),(8,I ((i:Nat):Int))],[]⟩
def wJ (s:List Int) (v:Int) (i:Nat):St:=⟨19,0,[(4,I ((i:Nat):Int))],[]⟩
def wP (s:List Int) (v:Int):St:=⟨19,0,[],[]⟩
def bF (s:List Int) (v:Int) (i:Nat):Option (Nat⊕(Nat⊕Unit)):=bif decide (((i:Nat):Int)<((s.length:Nat):Int)) then bif decide (i<s.length) then bif v==(nth s i) then some (.inr (.inl i)) else bif inK .i64 (((i:Nat):Int)+1) then some (.inl (i+1)) else none else none else some (.inr (.inr ()))
theorem wV (s:List Int) (v:Int):∀σ:Nat,aN Tryz.prog (nav [1,0,1,0,0] (aj Tryz.f114)) (fun (σ:Nat)=>wU s v σ) (fun (y:Nat⊕Unit)=>bn y (fun _=>.ret) (fun _=>(.exit 0))) (fun (y:Nat⊕Unit)=>bn y (fun y=>wJ s v y) (fun y=>wP s v)) σ (bF s v σ)
 | i=>aF 1010 (.br 100000009 (.op 40006 (.el (cI .i64) s (.up i)) (.br 100000016 (.ps 1000003 [.k [4] []] (.ret (.inr (.inl i)))) (.ps 1000003 [.k [0,1,7,8] []] (.ret (.inl (i+1)))))) (.ps 1000003 [.k [] []] (.ret (.inr (.inr ())))))
def eY (s:List Int) (v:Int) (i:Nat):Option (Nat⊕Unit):=aO (fun (σ:Nat)=>bF s v σ) FU i
def wM (s:List Int) (v:Int) (i:Nat):=
 aS (wV s v) (fun y h=>by rcases y with y | y<;>cases h) FU i
def gy (s:List Int) (v:Int):Option Int:=(eY s v 0).bind fun y_=>bn y_ (fun x0=>some ((x0:Nat):Int)) (fun x1=>some (-1))
theorem yN (s:List Int) (v:Int):∀r,gy s v=some r->au Tryz.prog 114 0 [SL (cI .i64) s,I v] [] (I r) []:=
 ay 10 (.op 10002 (.ln (cI .i64) s) (.ps 1000001 [.k [0,1,7,8] []] (.lp2 0 (wM s v 0) (fun x0=>.ret ((x0:Nat):Int)) (fun x1=>.ret (-1))))) Tryz.func114
def bP (s:List Int) (v:Int):Option Bool:=(gy s v).bind fun x0=>some (decide (x0>=0))
theorem dN (s:List Int) (v:Int):∀r,bP s v=some r->au Tryz.prog 54 0 [SL (cI .i64) s,I v] [] (B r) []:=
 ay 10 (.call [] [] (yN s v) .no fun x0=>.ret (decide (x0>=0))) Tryz.func54
def Ou (vals:List Int) (i:Nat):St:=⟨18,0,[(3,I 0),(6,SL (cI .i64) vals),(7,I ((vals.length:Nat):Int)),(8,I ((i:Nat):Int))],[]⟩
def Nz (vals:List Int) (i:Int):St:=⟨18,0,[(2,I i)],[]⟩
def NV (vals:List Int):St:=⟨18,0,[(3,I 0)],[]⟩
def dG (vals:List Int) (i:Nat):Option (Nat⊕(Int⊕Unit)):=bif decide (((i:Nat):Int)<((vals.length:Nat):Int)) then bif decide (i<vals.length) then bif (nth vals i) != 0 then some (.inr (.inl (nth vals i))) else bif inK .i64 (((i:Nat):Int)+1) then some (.inl (i+1)) else none else none else some (.inr (.inr ()))
theorem NH (vals:List Int):∀σ:Nat,aN Tryz.prog (nav [1,1,0,1,0,0] (aj Tryz.f142)) (fun (σ:Nat)=>Ou vals σ) (fun (y:Int⊕Unit)=>bn y (fun _=>.ret) (fun _=>(.exit 0))) (fun (y:Int⊕Unit)=>bn y (fun y=>Nz vals y) (fun y=>NV vals)) σ (dG vals σ)
 | i=>aF 1010 (.br 100000009 (.op 40000 (.el (cI .i64) vals (.up i)) (.br 100000014 (.ps 1000003 [.k [2] []] (.ret (.inr (.inl (nth vals i))))) (.ps 1000003 [.k [3,6,7,8] []] (.ret (.inl (i+1)))))) (.ps 1000003 [.k [3] []] (.ret (.inr (.inr ())))))
def Ij (vals:List Int) (i:Nat):Option (Int⊕Unit):=aO (fun (σ:Nat)=>dG vals σ) FU i
def Nv (vals:List Int) (i:Nat):=
 aS (NH vals) (fun y h=>by rcases y with y | y<;>cases h) FU i
def zN (vals:List Int):Option Int:=(Ij vals 0).bind fun y_=>bn y_ (fun x0=>some x0) (fun x1=>some 0)
theorem UM (vals:List Int):∀r,zN vals=some r->au Tryz.prog 142 0 [SL (cI .i64) vals] [] (I r) []:=
 ay 10 (.op 20002 (.ln (cI .i64) vals) (.ps 1000001 [.k [3,6,7,8] []] (.lp2 0 (Nv vals 0) (fun x0=>.ret x0) (fun x1=>.ret 0)))) Tryz.func142
def xX (a:Edge) (b:Edge):Option Int:=(cmp_Compare_int a.From b.From).bind fun x0=>(cmp_Compare_int a.To b.To).bind fun x1=>(zN [x0,x1]).bind fun x2=>some x2
theorem QK (a:Edge) (b:Edge):∀r,xX a b=some r->au Tryz.prog 89 0 [AG Edge.D a,AG Edge.D b] [] (I r) []:=
 ay 10 (.call [] [] (nX a.From b.From) .no fun x0=>.call [] [] (nX a.To b.To) .no fun x1=>.call [] [] (UM [x0,x1]) (.yes fun _=>⟨rfl,trivial⟩) fun x2=>.ret x2) Tryz.func89
def JK (tA:Graph) (i:Nat):St:=⟨95,0,[(1,.ptr 10 0 0),(14,SL Edge.D tA.ah),(15,I ((tA.ah.length:Nat):Int)),(16,I ((i:Nat):Int))],[(10,BOX [I tA.Ins,I tA.aG,I tA.aH,SL Edge.D tA.ah,SL (cI .i64) tA.Gone])]⟩
def JV (tA:Graph):St:=⟨95,0,[(2,B false)],[]⟩
def KO (tA:Graph):St:=⟨95,0,[],[]⟩
def bC (tA:Graph) (i:Nat):Option (Nat⊕(Unit⊕Unit)):=bif decide (((i:Nat):Int)<((tA.ah.length:Nat):Int)) then bif decide (i<tA.ah.length) then bif decide (((nth tA.ah i).From)<0) then some (.inr (.inl ())) else bif inK .i64 (tA.Ins+tA.aG) then bif decide (((nth tA.ah i).From)>=(tA.Ins+tA.aG)) then some (.inr (.inl ())) else bif decide (((nth tA.ah i).To)<tA.Ins) then some (.inr (.inl ())) else bif inK .i64 (tA.Ins+tA.aG) then bif inK .i64 ((tA.Ins+tA.aG)+tA.aH) then bif decide (((nth tA.ah i).To)>=((tA.Ins+tA.aG)+tA.aH)) then some (.inr (.inl ())) else bif decide (((nth tA.ah i).From)>=((nth tA.ah i).To)) then some (.inr (.inl ())) else (oK ((nth tA.ah i).W)).bind fun x2=>bif !x2 then some (.inr (.inl ())) else bif decide (((i:Nat):Int)>0) then bif inK .i64 (((i:Nat):Int)-1) then bif decide (0<=((i:Nat):Int)-1) then bif decide ((((i:Nat):Int)-1).toNat<tA.ah.length) then (xX (nth tA.ah ((((i:Nat):Int)-1).toNat)) (nth tA.ah i)).bind fun x3=>bif decide (x3>=0) then some (.inr (.inl ())) else (bP tA.Gone ((nth tA.ah i).From)).bind fun x4=>bif x4 then some (.inr (.inl ())) else (bP tA.Gone ((nth tA.ah i).To)).bind fun x5=>bif x5 then some (.inr (.inl ())) else bif inK .i64 (((i:Nat):Int)+1) then some (.inl (i+1)) else none else none else none else none else (bP tA.Gone ((nth tA.ah i).From)).bind fun x3=>bif x3 then some (.inr (.inl ())) else (bP tA.Gone ((nth tA.ah i).To)).bind fun x4=>bif x4 then some (.inr (.inl ())) else bif inK .i64 (((i:Nat):Int)+1) then some (.inl (i+1)) else none else none else none else none else none else some (.inr (.inr ()))
theorem KX (tA:Graph):∀σ:Nat,aN Tryz.prog (nav [1,1,0,1,0,0] (aj Tryz.f38)) (fun (σ:Nat)=>JK tA σ) (fun (y:Unit⊕Unit)=>bn y (fun _=>.ret) (fun _=>(.exit 0))) (fun (y:Unit⊕Unit)=>bn y (fun y=>JV tA) (fun y=>KO tA)) σ (bC tA σ)
 | i=>aF 1010 (.br 100000017 (.op 50002 (.el Edge.D tA.ah (.up i)) (.br 60008 (.ps 1000003 [.k [2] []] (.ret (.inr (.inl ())))) (.br 60028 (.ps 1000003 [.k [2] []] (.ret (.inr (.inl ())))) (.br 60042 (.ps 1000003 [.k [2] []] (.ret (.inr (.inl ())))) (.br 60068 (.ps 1000003 [.k [2] []] (.ret (.inr (.inl ())))) (.br 100000060 (.ps 1000003 [.k [2] []] (.ret (.inr (.inl ())))) (.call [] [] (wC ((nth tA.ah i).W)) .no fun x2=>.br 80010 (.ps 1000003 [.k [2] []] (.ret (.inr (.inl ())))) (.br 80016 (.op 80024 (.el Edge.D tA.ah .dn) (.call [] [] (QK (nth tA.ah ((((i:Nat):Int)-1).toNat)) (nth tA.ah i)) .no fun x3=>.br 80040 (.ps 1000003 [.k [2] []] (.ret (.inr (.inl ())))) (.call [] [] (dN tA.Gone ((nth tA.ah i).From)) .no fun x4=>.br 80054 (.ps 1000003 [.k [2] []] (.ret (.inr (.inl ())))) (.call [] [] (dN tA.Gone ((nth tA.ah i).To)) .no fun x5=>.br 100000093 (.ps 1000003 [.k [2] []] (.ret (.inr (.inl ())))) (.ps 1000003 [.k [1,14,15,16] [10]] (.ret (.inl (i+1)))))))) (.call [] [] (dN tA.Gone ((nth tA.ah i).From)) .no fun x3=>.br 80054 (.ps 1000003 [.k [2] []] (.ret (.inr (.inl ())))) (.call [] [] (dN tA.Gone ((nth tA.ah i).To)) .no fun x4=>.br 100000093 (.ps 1000003 [.k [2] []] (.ret (.inr (.inl ())))) (.ps 1000003 [.k [1,14,15,16] [10]] (.ret (.inl (i+1)))))))))))))) (.ps 1000003 [.k [] []] (.ret (.inr (.inr ())))))
def yB (tA:Graph) (i:Nat):Option (Unit⊕Unit):=aO (fun (σ:Nat)=>bC tA σ) FU i
def J7 (tA:Graph) (i:Nat):=
 aS (KX tA) (fun y h=>by rcases y with y | y<;>cases h) FU i
def jc (tA:Graph):Option Bool:=(xq tA).bind fun x0=>bif !x0 then some false else (zC tA).bind fun x1=>bif !x1 then some false else (yB tA 0).bind fun y_=>bn y_ (fun x2=>some false) (fun x3=>some true)
theorem lM (tA:Graph):∀r,jc tA=some r->au Tryz.prog 38 0 [AG Graph.D tA] [] (B r) []:=
 ay 10 (.call [] [] (TN tA) .no fun x0=>.br 10008 (.ret false) (.call [] [] (Uu tA) .no fun x1=>.br 100000012 (.ret false) (.op 30004 (.ln Edge.D tA.ah) (.ps 1000001 [.k [1,14,15,16] [10]] (.lp2 0 (J7 tA 0) (fun x2=>.ret false) (fun x3=>.ret true)))))) Tryz.func38
end Go.Ab.M
