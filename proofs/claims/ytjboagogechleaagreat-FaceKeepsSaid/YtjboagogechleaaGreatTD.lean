import Derived.Test.YtjboagogechleaaGreatTC
namespace Go.Ab.M
open Go.Proofs
set_option linter.unusedVariables false
set_option linter.defProp false
set_option maxRecDepth 100000
structure Whole where
 Neg:Bool
 Mag:List Int
 deriving DecidableEq,Inhabited
abbrev Whole.D (x:Whole):List D:=[.v (.bool x.Neg),.sl (x.Mag.map (cI .u32))]
structure Link where
 From:Int
 To:Int
 N:Int
 D_:Int
 deriving DecidableEq,Inhabited
abbrev Link.D (x:Link):List D:=[.v (.int .u8 x.From),.v (.int .u8 x.To),.v (.int .i8 x.N),.v (.int .u8 x.D_)]
structure Edge where
 From:Int
 To:Int
 W:Rat
 deriving DecidableEq,Inhabited
abbrev Edge.D (x:Edge):List D:=[.v (.int .i64 x.From)]++[.v (.int .i64 x.To)]++Rat.D x.W
structure Graph where
 Ins:Int
 bU:Int
 aH:Int
 ah:List Edge
 Gone:List Int
 deriving DecidableEq,Inhabited
abbrev Graph.D (x:Graph):List D:=[.v (.int .i64 x.Ins),.v (.int .i64 x.bU),.v (.int .i64 x.aH),.sl (x.ah.map Edge.D),.sl (x.Gone.map (cI .i64))]
def Vw (n1:Int) (out:List Int):St:=⟨15,0,[(0,NI .u64 n1),(3,iI 100001 out)],[(100001,iY 1 (cI .u32) out)]⟩
def VN (out:List Int):St:=⟨15,0,[(3,iI 100001 out)],[(100001,iY 1 (cI .u32) out)]⟩
def oW (n1:Int) (out:List Int):Option ((Int×List Int)⊕(List Int)):=bif decide (n1>0) then bif decide (0<=n1) then bif decide (0<4294967296) then bif decide (out.length+1<=2147483648) then bif decide (0<=n1) then bif decide (0<4294967296) then bif decide (n1<=Go.Ab.hi .u64) then some (.inl (n1/4294967296,out++[IntKind.wrap .u32 (n1%4294967296)])) else none else none else none else none else none else none else some (.inr out)
theorem VA:∀σ:Int×List Int,aO Tryz.prog (nav [1,1,0,0,0] (aj Tryz.f163)) (fun (σ:Int×List Int)=>Vw σ.1 σ.2) (fun (_:List Int)=>(.exit 0)) (fun (y:List Int)=>VN y) σ (oW σ.1 σ.2)
 | (n1,[])=>aI 1010 (.br 100000005 (.op 30006 .wr (.op 30010 (.ap (cI .u32) [] [IntKind.wrap .u32 (n1%4294967296)] 1 fun _=>⟨rfl,rfl⟩) (.ps 1000003 [.k [0,3] [1011],.m 1011 100001] (.ret (.inl (n1/4294967296,[IntKind.wrap .u32 (n1%4294967296)])))))) (.ps 1000003 [.k [3] [100001]] (.ret (.inr []))))
 | (n1,sU::sV)=>aI 1010 (.br 100000005 (.op 30006 .wr (.op 30010 (.ap (cI .u32) (sU::sV) [IntKind.wrap .u32 (n1%4294967296)] 1 fun _=>⟨rfl,rfl⟩) (.ps 1000003 [.k [0,3] [1011],.m 1011 100001] (.ret (.inl (n1/4294967296,(sU::sV)++[IntKind.wrap .u32 (n1%4294967296)])))))) (.ps 1000003 [.k [3] [100001]] (.ret (.inr (sU::sV)))))
def IC (n1:Int) (out:List Int):Option (List Int):=aK (fun (σ:Int×List Int)=>oW σ.1 σ.2) FU (n1,out)
def VO (n1:Int) (out:List Int):=
 aZ (VA) (fun _ h=>by cases h) FU (n1,out)
def Es (n:Int):Option (List Int):=(IC n []).bind fun x0=>some x0
theorem OA (n:Int):∀r,Es n=some r->au Tryz.prog 163 0 [NI .u64 n] [] (SL (cI .u32) r) []:=
 ay 10 (.ps 1000001 [.k [0,3] [100001]] (.lp1 0 (VO n []) fun x0=>.oz 1 3 100001 1 (cI .u32) x0 (.ps 1 [.k [3] []] (.ret x0)))) Tryz.func163
def AQ (n:Int):Option Whole:=bif decide (n>=0) then (Es (IntKind.wrap .u64 n)).bind fun x0=>some (Whole.mk false x0) else (Es (IntKind.wrap .u64 (0-(IntKind.wrap .u64 n)))).bind fun x0=>some (Whole.mk true x0)
theorem Ou (n:Int):∀r,AQ n=some r->au Tryz.prog 113 0 [I n] [] (AG Whole.D r) []:=
 ay 10 (.br 100000005 (.op 20002 .wr (.call [] [] (OA (IntKind.wrap .u64 n)) .no fun x0=>.ret (Whole.mk false x0))) (.op 30002 .wr (.call [] [] (OA (IntKind.wrap .u64 (0-(IntKind.wrap .u64 n)))) .no fun x0=>.ret (Whole.mk true x0)))) Tryz.func113
def UR (l:List Int) (n:Nat) (i:Nat):St:=⟨19,0,[(0,SL (cI .u32) l),(3,I ((n:Nat):Int)),(4,I ((i:Nat):Int))],[]⟩
def Rx (l:List Int) (n:Nat):St:=⟨19,0,[(3,I ((n:Nat):Int))],[]⟩
def lg (l:List Int) (n:Nat) (i:Nat):Option ((Nat×Nat)⊕Nat):=bif decide (((i:Nat):Int)<((l.length:Nat):Int)) then bif decide (i<l.length) then bif (nth l i) != 0 then bif inK .i64 (((i:Nat):Int)+1) then bif inK .i64 (((i:Nat):Int)+1) then some (.inl (i+1,i+1)) else none else none else bif inK .i64 (((i:Nat):Int)+1) then some (.inl (n,i+1)) else none else none else some (.inr n)
theorem TM (l:List Int):∀σ:Nat×Nat,aO Tryz.prog (nav [1,1,0,1,0,0] (aj Tryz.f242)) (fun (σ:Nat×Nat)=>UR l σ.1 σ.2) (fun (_:Nat)=>(.exit 0)) (fun (y:Nat)=>Rx l y) σ (lg l σ.1 σ.2)
 | (n,i)=>aI 1010 (.op 30004 (.ln (cI .u32) l) (.br 100000008 (.op 50004 (.el (cI .u32) l (.up i)) (.br 100000015 (.ps 1000003 [.k [0,3,4] []] (.ret (.inl (i+1,i+1)))) (.ps 1000003 [.k [0,3,4] []] (.ret (.inl (n,i+1)))))) (.ps 1000003 [.k [3] []] (.ret (.inr n)))))
def Fq (l:List Int) (n:Nat) (i:Nat):Option Nat:=aK (fun (σ:Nat×Nat)=>lg l σ.1 σ.2) FU (n,i)
def UF (l:List Int) (n:Nat) (i:Nat):=
 aZ (TM l) (fun _ h=>by cases h) FU (n,i)
def Gs (l:List Int):Option Int:=(Fq l 0 0).bind fun x0=>some ((x0:Nat):Int)
theorem Xp (l:List Int):∀r,Gs l=some r->au Tryz.prog 242 0 [SL (cI .u32) l] [] (I r) []:=
 ay 10 (.ps 1000001 [.k [0,3,4] []] (.lp1 0 (UF l 0 0) fun x0=>.ret ((x0:Nat):Int))) Tryz.func242
def Qj (a:List Int) (x0:Int) (out:List Int) (i:Nat):St:=⟨21,0,[(0,SL (cI .u32) a),(3,I x0),(4,iI 100002 out),(5,I ((i:Nat):Int))],[(100002,iY 1 (cI .u32) out)]⟩
def P5 (a:List Int) (x0:Int) (out:List Int):St:=⟨21,0,[(4,iI 100002 out)],[(100002,iY 1 (cI .u32) out)]⟩
def mP (a:List Int) (x0:Int) (out:List Int) (i:Nat):Option ((List Int×Nat)⊕(List Int)):=bif decide (((i:Nat):Int)<x0) then bif decide (i<a.length) then bif decide (out.length+1<=2147483648) then bif inK .i64 (((i:Nat):Int)+1) then some (.inl (out++[nth a i],i+1)) else none else none else none else some (.inr out)
theorem Qz (a:List Int) (x0:Int):∀σ:List Int×Nat,aO Tryz.prog (nav [1,1,1,0,1,0,0] (aj Tryz.f210)) (fun (σ:List Int×Nat)=>Qj a x0 σ.1 σ.2) (fun (_:List Int)=>(.exit 0)) (fun (y:List Int)=>P5 a x0 y) σ (mP a x0 σ.1 σ.2)
 | ([],i)=>aI 1010 (.br 100000010 (.op 60006 (.el (cI .u32) a (.up i)) (.op 60012 (.ap (cI .u32) [] [nth a i] 1 fun _=>⟨rfl,rfl⟩) (.ps 1000003 [.k [0,3,4,5] [1011],.m 1011 100002] (.ret (.inl ([nth a i],i+1)))))) (.ps 1000003 [.k [4] [100002]] (.ret (.inr []))))
 | (sU::sV,i)=>aI 1010 (.br 100000010 (.op 60006 (.el (cI .u32) a (.up i)) (.op 60012 (.ap (cI .u32) (sU::sV) [nth a i] 1 fun _=>⟨rfl,rfl⟩) (.ps 1000003 [.k [0,3,4,5] [1011],.m 1011 100002] (.ret (.inl ((sU::sV)++[nth a i],i+1)))))) (.ps 1000003 [.k [4] [100002]] (.ret (.inr (sU::sV)))))
def BX (a:List Int) (x0:Int) (out:List Int) (i:Nat):Option (List Int):=aK (fun (σ:List Int×Nat)=>mP a x0 σ.1 σ.2) FU (out,i)
def O9 (a:List Int) (x0:Int) (out:List Int) (i:Nat):=
 aZ (Qz a x0) (fun _ h=>by cases h) FU (out,i)
def fQ (a:List Int):Option (List Int):=(Gs a).bind fun x0=>(BX a x0 [] 0).bind fun x1=>some x1
theorem iL (a:List Int):∀r,fQ a=some r->au Tryz.prog 210 0 [SL (cI .u32) a] [] (SL (cI .u32) r) []:=
 ay 10 (.call [] [] (Xp a) .no fun x0=>.ps 1000001 [.k [0,3,4,5] [100002]] (.lp1 0 (O9 a x0 [] 0) fun x1=>.oz 1 4 100002 1 (cI .u32) x1 (.ps 1 [.k [4] []] (.ret x1)))) Tryz.func210
def Rh (a:List Int) (w:Int) (out:List Int) (carry:Int) (i:Nat):St:=⟨44,0,[(0,SL (cI .u32) a),(1,NI .u32 w),(7,iI 100003 out),(8,NI .u64 carry),(9,I ((i:Nat):Int))],[(100003,iY 1 (cI .u32) out)]⟩
def Tq (a:List Int) (w:Int) (out:List Int) (carry:Int):St:=⟨44,0,[(7,iI 100003 out),(8,NI .u64 carry)],[(100003,iY 1 (cI .u32) out)]⟩
def nI (a:List Int) (w:Int) (out:List Int) (carry:Int) (i:Nat):Option ((List Int×Int×Nat)⊕(List Int×Int)):=bif decide (((i:Nat):Int)<((a.length:Nat):Int)) then bif decide (i<a.length) then bif inK .u64 (nth a i) then bif inK .u64 w then bif decide (0<=IntKind.wrap .u64 ((IntKind.wrap .u64 ((nth a i)*w))+carry)) then bif decide (0<4294967296) then bif decide (out.length+1<=2147483648) then bif decide (0<=IntKind.wrap .u64 ((IntKind.wrap .u64 ((nth a i)*w))+carry)) then bif decide (0<4294967296) then bif decide (IntKind.wrap .u64 ((IntKind.wrap .u64 ((nth a i)*w))+carry)<=Go.Ab.hi .u64) then bif inK .i64 (((i:Nat):Int)+1) then some (.inl (out++[IntKind.wrap .u32 ((IntKind.wrap .u64 ((IntKind.wrap .u64 ((nth a i)*w))+carry))%4294967296)],(IntKind.wrap .u64 ((IntKind.wrap .u64 ((nth a i)*w))+carry))/4294967296,i+1)) else none else none else none else none else none else none else none else none else none else none else some (.inr (out,carry))
theorem Vq (a:List Int) (w:Int):∀σ:List Int×Int×Nat,aO Tryz.prog (nav [1,1,1,0,1,0,0] (aj Tryz.f171)) (fun (σ:List Int×Int×Nat)=>Rh a w σ.1 σ.2.1 σ.2.2) (fun (_:List Int×Int)=>(.exit 0)) (fun (y:List Int×Int)=>Tq a w y.1 y.2) σ (nI a w σ.1 σ.2.1 σ.2.2)
 | ([],carry,i)=>aI 1010 (.op 40004 (.ln (cI .u32) a) (.br 100000016 (.op 60004 (.el (cI .u32) a (.up i)) (.op 70006 .wr (.op 70010 (.ap (cI .u32) [] [IntKind.wrap .u32 ((IntKind.wrap .u64 ((IntKind.wrap .u64 ((nth a i)*w))+carry))%4294967296)] 1 fun _=>⟨rfl,rfl⟩) (.ps 1000003 [.k [0,1,7,8,9] [1011],.m 1011 100003] (.ret (.inl ([IntKind.wrap .u32 ((IntKind.wrap .u64 ((IntKind.wrap .u64 ((nth a i)*w))+carry))%4294967296)],(IntKind.wrap .u64 ((IntKind.wrap .u64 ((nth a i)*w))+carry))/4294967296,i+1))))))) (.ps 1000003 [.k [7,8] [100003]] (.ret (.inr ([],carry))))))
 | (sU::sV,carry,i)=>aI 1010 (.op 40004 (.ln (cI .u32) a) (.br 100000016 (.op 60004 (.el (cI .u32) a (.up i)) (.op 70006 .wr (.op 70010 (.ap (cI .u32) (sU::sV) [IntKind.wrap .u32 ((IntKind.wrap .u64 ((IntKind.wrap .u64 ((nth a i)*w))+carry))%4294967296)] 1 fun _=>⟨rfl,rfl⟩) (.ps 1000003 [.k [0,1,7,8,9] [1011],.m 1011 100003] (.ret (.inl ((sU::sV)++[IntKind.wrap .u32 ((IntKind.wrap .u64 ((IntKind.wrap .u64 ((nth a i)*w))+carry))%4294967296)],(IntKind.wrap .u64 ((IntKind.wrap .u64 ((nth a i)*w))+carry))/4294967296,i+1))))))) (.ps 1000003 [.k [7,8] [100003]] (.ret (.inr ((sU::sV),carry))))))
def EF (a:List Int) (w:Int) (out:List Int) (carry:Int) (i:Nat):Option (List Int×Int):=aK (fun (σ:List Int×Int×Nat)=>nI a w σ.1 σ.2.1 σ.2.2) FU (out,carry,i)
def Tn (a:List Int) (w:Int) (out:List Int) (carry:Int) (i:Nat):=
 aZ (Vq a w) (fun _ h=>by cases h) FU (out,carry,i)
def iP (a:List Int) (w:Int) (c:Int):Option (List Int):=bif inK .u64 c then (EF a w [] c 0).bind fun x0=>bif x0.1.isEmpty then (fQ [IntKind.wrap .u32 x0.2]).bind fun x1=>some x1 else bif decide (x0.1.length+1<=2147483648) then (fQ (x0.1++[IntKind.wrap .u32 x0.2])).bind fun x1=>some x1 else none else none
theorem wX (a:List Int) (w:Int) (c:Int):∀r,iP a w c=some r->au Tryz.prog 171 0 [SL (cI .u32) a,NI .u32 w,NI .u32 c] [] (SL (cI .u32) r) []:=
 ay 10 (.ps 1000001 [.k [0,1,7,8,9] [100003]] (.lp1 0 (Tn a w [] c 0) fun x0=>.cl 1 7 100003 1 (cI .u32) x0.1 (.ps 1 [.k [7,8] []] (.op 90004 .wr (.op 90008 (.ap (cI .u32) [] [IntKind.wrap .u32 x0.2] 1 fun _=>⟨rfl,rfl⟩) (.call [] [] (iL [IntKind.wrap .u32 x0.2]) .no fun x1=>.ret x1)))) (.ps 1 [.k [7,8] [100003]] (.op 90004 .wr (.op 90008 (.ap (cI .u32) x0.1 [IntKind.wrap .u32 x0.2] 1 fun _=>⟨rfl,rfl⟩) (.call [] [] (iL (x0.1++[IntKind.wrap .u32 x0.2])) .no fun x1=>.ret x1)))))) Tryz.func171
def Gj (a:List Int) (i:Int):Option Int:=bif decide (0<=i) then bif decide (0<32) then bif decide (i<=Go.Ab.hi .i64) then bif decide (0<=i/32) then bif decide ((i/32).toNat<a.length) then bif decide (0<=i) then bif decide (0<32) then bif decide (0<=i%32) then some (ahu .u32 (mG .u32 (nth a ((i/32).toNat)) (i%32)) 1) else none else none else none else none else none else none else none else none
theorem Xa (a:List Int) (i:Int):∀r,Gj a i=some r->au Tryz.prog 245 0 [SL (cI .u32) a,I i] [] (NI .u32 r) []:=
 ay 10 (.op 10006 (.el (cI .u32) a .dn) (.ret (ahu .u32 (mG .u32 (nth a ((i/32).toNat)) (i%32)) 1))) Tryz.func245
def mg (a:List Int) (i:Int):Option Int:=bif decide (i<0) then some 0 else bif decide (i>=((a.length:Nat):Int)) then some 0 else bif decide (0<=i) then bif decide (i.toNat<a.length) then bif inK .u64 (nth a i.toNat) then some (nth a i.toNat) else none else none else none
theorem lK (a:List Int) (i:Int):∀r,mg a i=some r->au Tryz.prog 217 0 [SL (cI .u32) a,I i] [] (NI .u64 r) []:=
 ay 10 (.br 10006 (.ret 0) (.op 10010 (.ln (cI .u32) a) (.br 100000012 (.ret 0) (.op 30004 (.el (cI .u32) a .dn) (.ret (nth a i.toNat)))))) Tryz.func217
def Uh (a:List Int) (b:List Int) (i:Int):St:=⟨32,0,[(0,SL (cI .u32) a),(1,SL (cI .u32) b),(6,I i)],[]⟩
def Rz (a:List Int) (b:List Int) (i:Int):St:=⟨32,0,[(4,I i)],[]⟩
def Ve (a:List Int) (b:List Int):St:=⟨32,0,[],[]⟩
def kV (a:List Int) (b:List Int) (i:Int):Option (Int⊕(Int⊕Unit)):=bif decide (i>=0) then (mg a i).bind fun x0=>(mg b i).bind fun x1=>bif decide (x0<x1) then some (.inr (.inl (-1))) else (mg a i).bind fun x2=>(mg b i).bind fun x3=>bif decide (x2>x3) then some (.inr (.inl 1)) else bif inK .i64 (i-1) then some (.inl (i-1)) else none else some (.inr (.inr ()))
theorem SY (a:List Int) (b:List Int):∀σ:Int,aO Tryz.prog (nav [1,1,0,1,0,0] (aj Tryz.f174)) (fun (σ:Int)=>Uh a b σ) (fun (y:Int⊕Unit)=>bH y (fun _=>.ret) (fun _=>(.exit 0))) (fun (y:Int⊕Unit)=>bH y (fun y=>Rz a b y) (fun y=>Ve a b)) σ (kV a b σ)
 | i=>aI 1010 (.br 100000015 (.call [] [] (lK a i) .no fun x0=>.call [] [] (lK b i) .no fun x1=>.br 100000024 (.ps 1000003 [.k [4] []] (.ret (.inr (.inl (-1))))) (.call [] [] (lK a i) .no fun x2=>.call [] [] (lK b i) .no fun x3=>.br 100000031 (.ps 1000003 [.k [4] []] (.ret (.inr (.inl 1)))) (.ps 1000003 [.k [0,1,6] []] (.ret (.inl (i-1)))))) (.ps 1000003 [.k [] []] (.ret (.inr (.inr ())))))
def Oy (a:List Int) (b:List Int) (i:Int):Option (Int⊕Unit):=aK (fun (σ:Int)=>kV a b σ) FU i
def UA (a:List Int) (b:List Int) (i:Int):=
 aZ (SY a b) (fun y h=>by rcases y with y | y<;>cases h) FU i
def qw (a:List Int) (b:List Int):Option Int:=bif inK .i64 ((mxI ((a.length:Nat):Int) ((b.length:Nat):Int))-1) then (Oy a b ((mxI ((a.length:Nat):Int) ((b.length:Nat):Int))-1)).bind fun y_=>bH y_ (fun x0=>some x0) (fun x1=>some 0) else none
theorem xg (a:List Int) (b:List Int):∀r,qw a b=some r->au Tryz.prog 174 0 [SL (cI .u32) a,SL (cI .u32) b] [] (I r) []:=
 ay 10 (.op 10002 (.ln (cI .u32) a) (.op 10006 (.ln (cI .u32) b) (.ps 1000001 [.k [0,1,6] []] (.lp2 0 (UA a b ((mxI ((a.length:Nat):Int) ((b.length:Nat):Int))-1)) (fun x0=>.ret x0) (fun x1=>.ret 0))))) Tryz.func174
def RH (a:List Int) (b:List Int) (out:List Int) (borrow:Int) (i:Nat):St:=⟨41,0,[(0,SL (cI .u32) a),(1,SL (cI .u32) b),(6,iI 100004 out),(7,NI .u64 borrow),(8,I ((i:Nat):Int))],[(100004,iY 1 (cI .u32) out)]⟩
def Ru (a:List Int) (b:List Int) (out:List Int):St:=⟨41,0,[(6,iI 100004 out)],[(100004,iY 1 (cI .u32) out)]⟩
def nS (a:List Int) (b:List Int) (out:List Int) (borrow:Int) (i:Nat):Option ((List Int×Int×Nat)⊕(List Int)):=bif decide (((i:Nat):Int)<((a.length:Nat):Int)) then (mg a ((i:Nat):Int)).bind fun x1=>(mg b ((i:Nat):Int)).bind fun x2=>bif decide (0<=IntKind.wrap .u64 ((IntKind.wrap .u64 ((IntKind.wrap .u64 (4294967296+x1))-x2))-borrow)) then bif decide (0<4294967296) then bif decide (out.length+1<=2147483648) then bif decide (0<=IntKind.wrap .u64 ((IntKind.wrap .u64 ((IntKind.wrap .u64 (4294967296+x1))-x2))-borrow)) then bif decide (0<4294967296) then bif decide (IntKind.wrap .u64 ((IntKind.wrap .u64 ((IntKind.wrap .u64 (4294967296+x1))-x2))-borrow)<=Go.Ab.hi .u64) then bif inK .i64 (((i:Nat):Int)+1) then some (.inl (out++[IntKind.wrap .u32 ((IntKind.wrap .u64 ((IntKind.wrap .u64 ((IntKind.wrap .u64 (4294967296+x1))-x2))-borrow))%4294967296)],IntKind.wrap .u64 (1-((IntKind.wrap .u64 ((IntKind.wrap .u64 ((IntKind.wrap .u64 (4294967296+x1))-x2))-borrow))/4294967296)),i+1)) else none else none else none else none else none else none else none else some (.inr out)
theorem U2 (a:List Int) (b:List Int):∀σ:List Int×Int×Nat,aO Tryz.prog (nav [1,1,1,1,0,1,0,0] (aj Tryz.f175)) (fun (σ:List Int×Int×Nat)=>RH a b σ.1 σ.2.1 σ.2.2) (fun (_:List Int)=>(.exit 0)) (fun (y:List Int)=>Ru a b y) σ (nS a b σ.1 σ.2.1 σ.2.2)
 | ([],borrow,i)=>aI 1010 (.op 60004 (.ln (cI .u32) a) (.br 100000017 (.call [] [] (lK a ((i:Nat):Int)) .no fun x1=>.call [] [] (lK b ((i:Nat):Int)) .no fun x2=>.op 90006 .wr (.op 90010 (.ap (cI .u32) [] [IntKind.wrap .u32 ((IntKind.wrap .u64 ((IntKind.wrap .u64 ((IntKind.wrap .u64 (4294967296+x1))-x2))-borrow))%4294967296)] 1 fun _=>⟨rfl,rfl⟩) (.ps 1000003 [.k [0,1,6,7,8] [1011],.m 1011 100004] (.ret (.inl ([IntKind.wrap .u32 ((IntKind.wrap .u64 ((IntKind.wrap .u64 ((IntKind.wrap .u64 (4294967296+x1))-x2))-borrow))%4294967296)],IntKind.wrap .u64 (1-((IntKind.wrap .u64 ((IntKind.wrap .u64 ((IntKind.wrap .u64 (4294967296+x1))-x2))-borrow))/4294967296)),i+1)))))) (.ps 1000003 [.k [6] [100004]] (.ret (.inr [])))))
 | (sU::sV,borrow,i)=>aI 1010 (.op 60004 (.ln (cI .u32) a) (.br 100000017 (.call [] [] (lK a ((i:Nat):Int)) .no fun x1=>.call [] [] (lK b ((i:Nat):Int)) .no fun x2=>.op 90006 .wr (.op 90010 (.ap (cI .u32) (sU::sV) [IntKind.wrap .u32 ((IntKind.wrap .u64 ((IntKind.wrap .u64 ((IntKind.wrap .u64 (4294967296+x1))-x2))-borrow))%4294967296)] 1 fun _=>⟨rfl,rfl⟩) (.ps 1000003 [.k [0,1,6,7,8] [1011],.m 1011 100004] (.ret (.inl ((sU::sV)++[IntKind.wrap .u32 ((IntKind.wrap .u64 ((IntKind.wrap .u64 ((IntKind.wrap .u64 (4294967296+x1))-x2))-borrow))%4294967296)],IntKind.wrap .u64 (1-((IntKind.wrap .u64 ((IntKind.wrap .u64 ((IntKind.wrap .u64 (4294967296+x1))-x2))-borrow))/4294967296)),i+1)))))) (.ps 1000003 [.k [6] [100004]] (.ret (.inr (sU::sV))))))
def Fb (a:List Int) (b:List Int) (out:List Int) (borrow:Int) (i:Nat):Option (List Int):=aK (fun (σ:List Int×Int×Nat)=>nS a b σ.1 σ.2.1 σ.2.2) FU (out,borrow,i)
def Vo (a:List Int) (b:List Int) (out:List Int) (borrow:Int) (i:Nat):=
 aZ (U2 a b) (fun _ h=>by cases h) FU (out,borrow,i)
def qy (a:List Int) (b:List Int):Option (List Int×Bool):=(qw a b).bind fun x0=>bif decide (x0<0) then some ([],false) else (Fb a b [] 0 0).bind fun x1=>(fQ x1).bind fun x2=>some (x2,true)
theorem BQ (a:List Int) (b:List Int):∀r,qy a b=some r->au Tryz.prog 175 0 [SL (cI .u32) a,SL (cI .u32) b] [] (.tup [SL (cI .u32) r.1,B r.2]) []:=
 ay 10 (.call [] [] (xg a b) .no fun x0=>.br 100000013 (.ps 1000003 [.n 4] (.ret ([],false))) (.ps 1000001 [.k [0,1,6,7,8] [100004]] (.lp1 0 (Vo a b [] 0 0) fun x1=>.oz 1 6 100004 1 (cI .u32) x1 (.ps 1 [.k [6] []] (.call [] [] (iL x1) .no fun x2=>.ret (x2,true)))))) Tryz.func175
def Uy (a:List Int) (x0:List Int) (q:List Int) (r:List Int) (i:Int):St:=⟨45,0,[(0,SL (cI .u32) a),(7,SL (cI .u32) x0),(8,SL (cI .u32) q),(9,SL (cI .u32) r),(10,I i)],[]⟩
def TR (a:List Int) (x0:List Int) (q:List Int) (r:List Int):St:=⟨45,0,[(8,SL (cI .u32) q),(9,SL (cI .u32) r)],[]⟩
def jo (a:List Int) (x0:List Int) (q:List Int) (r:List Int) (i:Int):Option ((List Int×List Int×Int)⊕(List Int×List Int)):=bif decide (i>=0) then (iP q 2 0).bind fun x1=>(Gj a i).bind fun x2=>(iP r 2 x2).bind fun x3=>(qw x3 x0).bind fun x4=>bif decide (x4>=0) then (qy x3 x0).bind fun x5=>(iP x1 1 1).bind fun x6=>bif inK .i64 (i-1) then some (.inl (x6,x5.1,i-1)) else none else bif inK .i64 (i-1) then some (.inl (x1,x3,i-1)) else none else some (.inr (q,r))
theorem RG (a:List Int) (x0:List Int):∀σ:List Int×List Int×Int,aO Tryz.prog (nav [1,1,1,1,1,0,1,0,0] (aj Tryz.f212)) (fun (σ:List Int×List Int×Int)=>Uy a x0 σ.1 σ.2.1 σ.2.2) (fun (_:List Int×List Int)=>(.exit 0)) (fun (y:List Int×List Int)=>TR a x0 y.1 y.2) σ (jo a x0 σ.1 σ.2.1 σ.2.2)
 | (q,r,i)=>aI 1010 (.br 100000021 (.call [] [] (wX q 2 0) .no fun x1=>.call [] [] (Xa a i) .no fun x2=>.call [] [] (wX r 2 x2) .no fun x3=>.call [] [] (xg x3 x0) .no fun x4=>.br 100000034 (.call [] [] (BQ x3 x0) .no fun x5=>.call [] [] (wX x1 1 1) .no fun x6=>.ps 1000003 [.k [0,7,8,9,10] []] (.ret (.inl (x6,x5.1,i-1)))) (.ps 1000003 [.k [0,7,8,9,10] []] (.ret (.inl (x1,x3,i-1))))) (.ps 1000003 [.k [8,9] []] (.ret (.inr (q,r)))))
def Ee (a:List Int) (x0:List Int) (q:List Int) (r:List Int) (i:Int):Option (List Int×List Int):=aK (fun (σ:List Int×List Int×Int)=>jo a x0 σ.1 σ.2.1 σ.2.2) FU (q,r,i)
def TT (a:List Int) (x0:List Int) (q:List Int) (r:List Int) (i:Int):=
 aZ (RG a x0) (fun _ h=>by cases h) FU (q,r,i)
def xP (a:List Int) (b:List Int):Option (List Int×List Int×Bool):=(fQ b).bind fun x0=>bif ((x0.length:Nat):Int)==0 then some ([],[],false) else bif inK .i64 (32*((a.length:Nat):Int)) then bif inK .i64 ((32*((a.length:Nat):Int))-1) then (Ee a x0 [] [] ((32*((a.length:Nat):Int))-1)).bind fun x1=>some (x1.1,x1.2,true) else none else none
theorem Dj (a:List Int) (b:List Int):∀r,xP a b=some r->au Tryz.prog 212 0 [SL (cI .u32) a,SL (cI .u32) b] [] (.tup [SL (cI .u32) r.1,SL (cI .u32) r.2.1,B r.2.2]) []:=
 ay 10 (.call [] [] (iL b) .no fun x0=>.op 20002 (.ln (cI .u32) x0) (.br 100000015 (.ps 1000003 [.n 4,.n 5] (.ret ([],[],false))) (.op 60002 (.ln (cI .u32) a) (.ps 1000001 [.n 8,.n 9,.k [0,7,8,9,10] []] (.lp1 0 (TT a x0 [] [] ((32*((a.length:Nat):Int))-1)) fun x1=>.ret (x1.1,x1.2,true)))))) Tryz.func212
def qL (a:List Int) (d:Int):Option (List Int×Int×Bool):=(xP a [d]).bind fun x0=>bif ((x0.2.1.length:Nat):Int)==0 then some (x0.1,0,x0.2.2) else bif decide (0<x0.2.1.length) then some (x0.1,nth x0.2.1 0,x0.2.2) else none
theorem Vf (a:List Int) (d:Int):∀r,qL a d=some r->au Tryz.prog 264 0 [SL (cI .u32) a,NI .u32 d] [] (.tup [SL (cI .u32) r.1,NI .u32 r.2.1,B r.2.2]) []:=
 ay 10 (.call [] [] (Dj a [d]) .no fun x0=>.op 20002 (.ln (cI .u32) x0.2.1) (.br 100000020 (.ret (x0.1,0,x0.2.2)) (.op 40004 (.el (cI .u32) x0.2.1 (.up 0)) (.ret (x0.1,nth x0.2.1 0,x0.2.2))))) Tryz.func264
def Uk (a1:List Int) (n:Nat):St:=⟨25,0,[(0,SL (cI .u32) a1),(4,I ((n:Nat):Int))],[]⟩
def Td (a1:List Int) (n:Nat):St:=⟨25,0,[(0,SL (cI .u32) a1),(4,I ((n:Nat):Int))],[]⟩
def jd (a1:List Int) (n:Nat):Option ((List Int×Nat)⊕(List Int×Nat)):=bif decide (((a1.length:Nat):Int)>0) then bif decide (0<a1.length) then bif decide (0<=nth a1 0) then bif decide (0<2) then bif ((nth a1 0)%2)==0 then (qL a1 2).bind fun x0=>bif inK .i64 (((n:Nat):Int)+1) then some (.inl (x0.1,n+1)) else none else some (.inr (a1,n)) else none else none else none else some (.inr (a1,n))
theorem UW:∀σ:List Int×Nat,aO Tryz.prog (nav [1,1,0,0,0] (aj Tryz.f243)) (fun (σ:List Int×Nat)=>Uk σ.1 σ.2) (fun (_:List Int×Nat)=>(.exit 0)) (fun (y:List Int×Nat)=>Td y.1 y.2) σ (jd σ.1 σ.2)
 | (a1,n)=>aI 1010 (.op 20002 (.ln (cI .u32) a1) (.br 20008 (.op 20010 (.el (cI .u32) a1 (.up 0)) (.br 100000014 (.call [] [] (Vf a1 2) .no fun x0=>.ps 1000003 [.k [0,4] []] (.ret (.inl (x0.1,n+1)))) (.ps 1000003 [.k [0,4] []] (.ret (.inr (a1,n)))))) (.ps 1000003 [.k [0,4] []] (.ret (.inr (a1,n))))))
def Ol (a1:List Int) (n:Nat):Option (List Int×Nat):=aK (fun (σ:List Int×Nat)=>jd σ.1 σ.2) FU (a1,n)
def UJ (a1:List Int) (n:Nat):=
 aZ (UW) (fun _ h=>by cases h) FU (a1,n)
def uf (a:List Int):Option (List Int×Int):=(Ol a 0).bind fun x0=>some (x0.1,((x0.2:Nat):Int))
theorem wY (a:List Int):∀r,uf a=some r->au Tryz.prog 243 0 [SL (cI .u32) a] [] (.tup [SL (cI .u32) r.1,I r.2]) []:=
 ay 10 (.ps 1000001 [.k [0,4] []] (.lp1 0 (UJ a 0) fun x0=>.ret (x0.1,((x0.2:Nat):Int)))) Tryz.func243
def UH (x2:List Int×Int) (x3:List Int×Int) (x:List Int) (y1:List Int):St:=⟨59,0,[(5,SL (cI .u32) x),(6,SL (cI .u32) y1),(7,I x2.2),(8,I x3.2)],[]⟩
def RQ (x2:List Int×Int) (x3:List Int×Int) (x:List Int):St:=⟨59,0,[(5,SL (cI .u32) x),(7,I x2.2),(8,I x3.2)],[]⟩
def kM (x2:List Int×Int) (x3:List Int×Int) (x:List Int) (y1:List Int):Option ((List Int×List Int)⊕(List Int)):=(qw x y1).bind fun x4=>bif x4 != 0 then (qw x y1).bind fun x5=>bif decide (x5<0) then (qy y1 x).bind fun x6=>(uf x6.1).bind fun x7=>some (.inl (x7.1,x)) else (qy x y1).bind fun x6=>(uf x6.1).bind fun x7=>some (.inl (x7.1,y1)) else some (.inr x)
theorem U3 (x2:List Int×Int) (x3:List Int×Int):∀σ:List Int×List Int,aO Tryz.prog (nav [1,1,1,1,1,1,1,0,0,0] (aj Tryz.f211)) (fun (σ:List Int×List Int)=>UH x2 x3 σ.1 σ.2) (fun (_:List Int)=>(.exit 0)) (fun (y:List Int)=>RQ x2 x3 y) σ (kM x2 x3 σ.1 σ.2)
 | (x,y1)=>aI 1010 (.call [] [] (xg x y1) .no fun x4=>.br 100000035 (.call [] [] (xg x y1) .no fun x5=>.br 100000039 (.call [] [] (BQ y1 x) .no fun x6=>.call [] [] (wY x6.1) .no fun x7=>.ps 1000003 [.k [5,6,7,8] []] (.ret (.inl (x7.1,x)))) (.call [] [] (BQ x y1) .no fun x6=>.call [] [] (wY x6.1) .no fun x7=>.ps 1000003 [.k [5,6,7,8] []] (.ret (.inl (x7.1,y1))))) (.ps 1000003 [.k [5,7,8] []] (.ret (.inr x))))
def Om (x2:List Int×Int) (x3:List Int×Int) (x:List Int) (y1:List Int):Option (List Int):=aK (fun (σ:List Int×List Int)=>kM x2 x3 σ.1 σ.2) FU (x,y1)
def UG (x2:List Int×Int) (x3:List Int×Int) (x:List Int) (y1:List Int):=
 aZ (U3 x2 x3) (fun _ h=>by cases h) FU (x,y1)
def Nj (n:Int) (out:List Int) (i:Nat):St:=⟨26,0,[(1,I n),(5,SL (cI .u32) out),(6,I ((i:Nat):Int))],[]⟩
def MS (n:Int) (out:List Int):St:=⟨26,0,[(5,SL (cI .u32) out)],[]⟩
def lD (n:Int) (out:List Int) (i:Nat):Option ((List Int×Nat)⊕(List Int)):=bif decide (((i:Nat):Int)<n) then bif decide (((i:Nat):Int)<100000) then bif decide (((out.length:Nat):Int)>0) then (iP out 2 0).bind fun x1=>bif inK .i64 (((i:Nat):Int)+1) then some (.inl (x1,i+1)) else none else some (.inr out) else some (.inr out) else some (.inr out)
theorem NY (n:Int):∀σ:List Int×Nat,aO Tryz.prog (nav [1,1,0,1,0,0] (aj Tryz.f244)) (fun (σ:List Int×Nat)=>Nj n σ.1 σ.2) (fun (_:List Int)=>(.exit 0)) (fun (y:List Int)=>MS n y) σ (lD n σ.1 σ.2)
 | (out,i)=>aI 1010 (.br 30008 (.br 30016 (.op 30018 (.ln (cI .u32) out) (.br 100000020 (.call [] [] (wX out 2 0) .no fun x1=>.ps 1000003 [.k [1,5,6] []] (.ret (.inl (x1,i+1)))) (.ps 1000003 [.k [5] []] (.ret (.inr out))))) (.ps 1000003 [.k [5] []] (.ret (.inr out)))) (.ps 1000003 [.k [5] []] (.ret (.inr out))))
def Ac (n:Int) (out:List Int) (i:Nat):Option (List Int):=aK (fun (σ:List Int×Nat)=>lD n σ.1 σ.2) FU (out,i)
def MW (n:Int) (out:List Int) (i:Nat):=
 aZ (NY n) (fun _ h=>by cases h) FU (out,i)
def zY (a:List Int) (n:Int):Option (List Int):=(fQ a).bind fun x0=>(Ac n x0 0).bind fun x1=>some x1
theorem UY (a:List Int) (n:Int):∀r,zY a n=some r->au Tryz.prog 244 0 [SL (cI .u32) a,I n] [] (SL (cI .u32) r) []:=
 ay 10 (.call [] [] (iL a) .no fun x0=>.ps 1000001 [.k [1,5,6] []] (.lp1 0 (MW n x0 0) fun x1=>.ret x1)) Tryz.func244
def xO (a:List Int) (b:List Int):Option (List Int):=(fQ a).bind fun x0=>(fQ b).bind fun x1=>bif ((x0.length:Nat):Int)==0 then some x1 else bif ((x1.length:Nat):Int)==0 then some x0 else (uf x0).bind fun x2=>(uf x1).bind fun x3=>(Om x2 x3 x2.1 x3.1).bind fun x4=>(zY x4 (mnI x2.2 x3.2)).bind fun x5=>some x5
theorem X6 (a:List Int) (b:List Int):∀r,xO a b=some r->au Tryz.prog 211 0 [SL (cI .u32) a,SL (cI .u32) b] [] (SL (cI .u32) r) []:=
 ay 10 (.call [] [] (iL a) .no fun x0=>.call [] [] (iL b) .no fun x1=>.op 30002 (.ln (cI .u32) x0) (.br 100000016 (.ret x1) (.op 50002 (.ln (cI .u32) x1) (.br 100000020 (.ret x0) (.call [] [] (wY x0) .no fun x2=>.call [] [] (wY x1) .no fun x3=>.ps 1000001 [.k [5,6,7,8] []] (.lp1 0 (UG x2 x3 x2.1 x3.1) fun x4=>.call [] [] (UY x4 (mnI x2.2 x3.2)) .no fun x5=>.ret x5)))))) Tryz.func211
def rJ (a:List Int) (b:List Int):Option (List Int×List Int×Bool):=(fQ b).bind fun x0=>bif ((x0.length:Nat):Int)==0 then some ([],[],false) else (xO a x0).bind fun x1=>(xP a x1).bind fun x2=>(xP x0 x1).bind fun x3=>some (x2.1,x3.1,true)
theorem Qw (a:List Int) (b:List Int):∀r,rJ a b=some r->au Tryz.prog 162 0 [SL (cI .u32) a,SL (cI .u32) b] [] (.tup [SL (cI .u32) r.1,SL (cI .u32) r.2.1,B r.2.2]) []:=
 ay 10 (.call [] [] (iL b) .no fun x0=>.op 20002 (.ln (cI .u32) x0) (.br 100000016 (.ps 1000003 [.n 4,.n 5] (.ret ([],[],false))) (.call [] [] (X6 a x0) .no fun x1=>.call [] [] (Dj a x1) .no fun x2=>.call [] [] (Dj x0 x1) .no fun x3=>.ret (x2.1,x3.1,true)))) Tryz.func162
def jS (n:Whole) (d:List Int):Option Rat:=(rJ n.Mag d).bind fun x0=>bif !x0.2.2 then some (Rat.mk false [] [1]) else bif ((x0.1.length:Nat):Int)==0 then some (Rat.mk false [] [1]) else some (Rat.mk n.Neg x0.1 x0.2.1)
theorem DT (n:Whole) (d:List Int):∀r,jS n d=some r->au Tryz.prog 112 0 [AG Whole.D n,SL (cI .u32) d] [] (AG Rat.D r) []:=
 ay 10 (.call [] [] (Qw n.Mag d) .no fun x0=>.br 20006 (.ps 1000003 [.b 11] (.ret (Rat.mk false [] [1]))) (.op 20008 (.ln (cI .u32) x0.1) (.br 100000022 (.ps 1000003 [.b 11] (.ret (Rat.mk false [] [1]))) (.ret (Rat.mk n.Neg x0.1 x0.2.1))))) Tryz.func112
def vw (n:Int) (d:Int):Option Rat:=bif inK .i64 n then (AQ n).bind fun x0=>bif inK .u32 d then (jS x0 [IntKind.wrap .u32 (d+1)]).bind fun x1=>some x1 else none else none
theorem rU (n:Int) (d:Int):∀r,vw n d=some r->au Tryz.prog 72 0 [NI .i8 n,NI .u8 d] [] (AG Rat.D r) []:=
 ay 10 (.call [] [] (Ou n) .no fun x0=>.call [] [] (DT x0 [IntKind.wrap .u32 (d+1)]) .no fun x1=>.ret x1) Tryz.func72
def JF (tA:Int) (a:Int) (a1:Int) (a2:List Link) (i:Nat) (i1:Int) (i2:Int) (i3:Nat) (o2:List Edge):St:=⟨111,0,[(3,SL Link.D a2),(8,.ptr 10 0 0),(9,.ptr 11 0 0),(10,I ((1+(tA%3))+(a%6))),(11,I ((i:Nat):Int)),(12,I i1),(13,I i2),(14,I ((i3:Nat):Int))],[(10,BOX [I 0,I 0,I 0,gU,gU]),(11,BOX [I (1+(tA%3)),I (a%6),I (1+(a1%3)),iI 100006 o2,gU]),(100006,iY 5 Edge.D o2)]⟩
def JY (tA:Int) (a:Int) (a1:Int) (a2:List Link) (i:Nat) (i1:Int) (i2:Int) (o2:List Edge):St:=⟨111,0,[(3,SL Link.D a2),(8,.ptr 10 0 0),(9,.ptr 11 0 0),(10,I ((1+(tA%3))+(a%6))),(11,I ((i:Nat):Int)),(12,I i1),(13,I i2)],[(10,BOX [I 0,I 0,I 0,gU,gU]),(11,BOX [I (1+(tA%3)),I (a%6),I (1+(a1%3)),iI 100006 o2,gU]),(100006,iY 5 Edge.D o2)]⟩
def jV (tA:Int) (a:Int) (a1:Int) (a2:List Link) (i:Nat) (i1:Int) (i2:Int) (i3:Nat) (o2:List Edge):Option ((Int×Nat×List Edge)⊕(Int×List Edge)):=bif decide (((i3:Nat):Int)<((a2.length:Nat):Int)) then bif decide (i3<a2.length) then bif inK .i64 ((nth a2 i3).From) then bif decide (0<=(nth a2 i3).From) then bif decide (0<(1+(tA%3))+(a%6)) then bif (((nth a2 i3).From)%((1+(tA%3))+(a%6)))==((i:Nat):Int) then bif decide (i3<a2.length) then bif inK .i64 ((nth a2 i3).To) then bif inK .i64 ((a%6)+(1+(a1%3))) then bif decide (0<=(nth a2 i3).To) then bif decide (0<(a%6)+(1+(a1%3))) then bif inK .i64 ((1+(tA%3))+(((nth a2 i3).To)%((a%6)+(1+(a1%3))))) then bif ((1+(tA%3))+(((nth a2 i3).To)%((a%6)+(1+(a1%3)))))==i1 then bif decide (((i:Nat):Int)<i1) then bif inK .i64 (((i3:Nat):Int)+1) then some (.inl (((i3:Nat):Int),i3+1,o2)) else none else bif inK .i64 (((i3:Nat):Int)+1) then some (.inl (i2,i3+1,o2)) else none else bif inK .i64 (((i3:Nat):Int)+1) then some (.inl (i2,i3+1,o2)) else none else none else none else none else none else none else none else bif inK .i64 (((i3:Nat):Int)+1) then some (.inl (i2,i3+1,o2)) else none else none else none else none else none else some (.inr (i2,o2))
theorem Jq (tA:Int) (a:Int) (a1:Int) (a2:List Link) (i:Nat) (i1:Int):∀σ:Int×Nat×List Edge,aO Tryz.prog (nav [1,1,1,0,1,0,0,1,0,0,1,0,0,1,0,0,1,0,1,0,0] (aj Tryz.f20)) (fun (σ:Int×Nat×List Edge)=>JF tA a a1 a2 i i1 σ.1 σ.2.1 σ.2.2) (fun (_:Int×List Edge)=>(.exit 4)) (fun (y:Int×List Edge)=>JY tA a a1 a2 i i1 y.1 y.2) σ (jV tA a a1 a2 i i1 σ.1 σ.2.1 σ.2.2)
 | (i2,i3,[])=>aI 3010 (.op 110004 (.ln Link.D a2) (.br 100000050 (.op 130004 (.el Link.D a2 (.up i3)) (.br 130022 (.op 130030 (.el Link.D a2 (.up i3)) (.br 130060 (.br 100000086 (.ps 1000003 [.k [3,8,9,10,11,12,13,14] [10,11,100006]] (.ret (.inl (((i3:Nat):Int),i3+1,[])))) (.ps 1000003 [.k [3,8,9,10,11,12,13,14] [10,11,100006]] (.ret (.inl (i2,i3+1,[]))))) (.ps 1000003 [.k [3,8,9,10,11,12,13,14] [10,11,100006]] (.ret (.inl (i2,i3+1,[])))))) (.ps 1000003 [.k [3,8,9,10,11,12,13,14] [10,11,100006]] (.ret (.inl (i2,i3+1,[])))))) (.ps 1000003 [.k [3,8,9,10,11,12,13] [10,11,100006]] (.ret (.inr (i2,[]))))))
 | (i2,i3,ac1::aef)=>aI 3010 (.op 110004 (.ln Link.D a2) (.br 100000050 (.op 130004 (.el Link.D a2 (.up i3)) (.br 130022 (.op 130030 (.el Link.D a2 (.up i3)) (.br 130060 (.br 100000086 (.ps 1000003 [.k [3,8,9,10,11,12,13,14] [10,11,100006]] (.ret (.inl (((i3:Nat):Int),i3+1,(ac1::aef))))) (.ps 1000003 [.k [3,8,9,10,11,12,13,14] [10,11,100006]] (.ret (.inl (i2,i3+1,(ac1::aef)))))) (.ps 1000003 [.k [3,8,9,10,11,12,13,14] [10,11,100006]] (.ret (.inl (i2,i3+1,(ac1::aef))))))) (.ps 1000003 [.k [3,8,9,10,11,12,13,14] [10,11,100006]] (.ret (.inl (i2,i3+1,(ac1::aef))))))) (.ps 1000003 [.k [3,8,9,10,11,12,13] [10,11,100006]] (.ret (.inr (i2,(ac1::aef)))))))
def nY (tA:Int) (a:Int) (a1:Int) (a2:List Link) (i:Nat) (i1:Int) (i2:Int) (i3:Nat) (o2:List Edge):Option (Int×List Edge):=aK (fun (σ:Int×Nat×List Edge)=>jV tA a a1 a2 i i1 σ.1 σ.2.1 σ.2.2) FU (i2,i3,o2)
def zV (tA:Int) (a:Int) (a1:Int) (a2:List Link) (i:Nat) (i1:Int) (i2:Int) (i3:Nat) (o2:List Edge):=
 aZ (Jq tA a a1 a2 i i1) (fun _ h=>by cases h) FU (i2,i3,o2)
def Ku (tA:Int) (a:Int) (a1:Int) (a2:List Link) (i:Nat) (i1:Int) (o1:List Edge):St:=⟨111,0,[(3,SL Link.D a2),(8,.ptr 10 0 0),(9,.ptr 11 0 0),(10,I ((1+(tA%3))+(a%6))),(11,I ((i:Nat):Int)),(12,I i1)],[(10,BOX [I 0,I 0,I 0,gU,gU]),(11,BOX [I (1+(tA%3)),I (a%6),I (1+(a1%3)),iI 100006 o1,gU]),(100006,iY 5 Edge.D o1)]⟩
def JB (tA:Int) (a:Int) (a1:Int) (a2:List Link) (i:Nat) (o1:List Edge):St:=⟨111,0,[(3,SL Link.D a2),(8,.ptr 10 0 0),(9,.ptr 11 0 0),(10,I ((1+(tA%3))+(a%6))),(11,I ((i:Nat):Int))],[(10,BOX [I 0,I 0,I 0,gU,gU]),(11,BOX [I (1+(tA%3)),I (a%6),I (1+(a1%3)),iI 100006 o1,gU]),(100006,iY 5 Edge.D o1)]⟩
def gW (tA:Int) (a:Int) (a1:Int) (a2:List Link) (i:Nat) (i1:Int) (o1:List Edge):Option ((Int×List Edge)⊕(List Edge)):=bif inK .i64 (((1+(tA%3))+(a%6))+(1+(a1%3))) then bif decide (i1<(((1+(tA%3))+(a%6))+(1+(a1%3)))) then (nY tA a a1 a2 i i1 (-1) 0 o1).bind fun x0=>bif x0.2.isEmpty then bif decide (x0.1>=0) then bif decide (0<=x0.1) then bif decide (x0.1.toNat<a2.length) then bif decide (0<=x0.1) then bif decide (x0.1.toNat<a2.length) then bif decide (0<=(nth a2 x0.1.toNat).D_) then bif decide (0<3) then (vw ((nth a2 x0.1.toNat).N) (((nth a2 x0.1.toNat).D_)%3)).bind fun x1=>bif inK .i64 (i1+1) then some (.inl (i1+1,[Edge.mk ((i:Nat):Int) i1 x1])) else none else none else none else none else none else none else none else bif inK .i64 (i1+1) then some (.inl (i1+1,[])) else none else bif decide (x0.1>=0) then bif decide (0<=x0.1) then bif decide (x0.1.toNat<a2.length) then bif decide (0<=x0.1) then bif decide (x0.1.toNat<a2.length) then bif decide (0<=(nth a2 x0.1.toNat).D_) then bif decide (0<3) then (vw ((nth a2 x0.1.toNat).N) (((nth a2 x0.1.toNat).D_)%3)).bind fun x1=>bif decide (x0.2.length+1<=2147483648) then bif inK .i64 (i1+1) then some (.inl (i1+1,x0.2++[Edge.mk ((i:Nat):Int) i1 x1])) else none else none else none else none else none else none else none else none else bif inK .i64 (i1+1) then bif !x0.2.isEmpty then some (.inl (i1+1,x0.2)) else none else none else some (.inr o1) else none
theorem JV (tA:Int) (a:Int) (a1:Int) (a2:List Link) (i:Nat):∀σ:Int×List Edge,aO Tryz.prog (nav [1,1,1,0,1,0,0,1,0,0,1,0,0] (aj Tryz.f20)) (fun (σ:Int×List Edge)=>Ku tA a a1 a2 i σ.1 σ.2) (fun (_:List Edge)=>(.exit 2)) (fun (y:List Edge)=>JB tA a a1 a2 i y) σ (gW tA a a1 a2 i σ.1 σ.2)
 | (i1,[])=>aI 2010 (.br 100000044 (.ps 1000001 [.k [3,8,9,10,11,12,13,14] [10,11,100006]] (.lp1 0 (zV tA a a1 a2 i i1 (-1) 0 []) fun x0=>.cb 9 11 3 100006 5 Edge.D x0.2 (.ps 9 [.k [3,8,9,10,11,12,13] [10,11]] (.br 100000089 (.op 160012 (.el Link.D a2 .dn) (.op 160022 (.el Link.D a2 .dn) (.call [] [] (rU ((nth a2 x0.1.toNat).N) (((nth a2 x0.1.toNat).D_)%3)) .no fun x1=>.op 160036 (.ap Edge.D [] [Edge.mk ((i:Nat):Int) i1 x1] 5 fun _=>⟨rfl,rfl⟩) (.ps 1000003 [.k [3,8,9,10,11,12] [10,11,2011],.m 2011 100006] (.ret (.inl (i1+1,[Edge.mk ((i:Nat):Int) i1 x1]))))))) (.ps 1000003 [.k [3,8,9,10,11,12] [10,11,100006]] (.ret (.inl (i1+1,[])))))) (.ps 9 [.k [3,8,9,10,11,12,13] [10,11,100006]] (.br 100000089 (.op 160012 (.el Link.D a2 .dn) (.op 160022 (.el Link.D a2 .dn) (.call [] [] (rU ((nth a2 x0.1.toNat).N) (((nth a2 x0.1.toNat).D_)%3)) .no fun x1=>.op 160036 (.ap Edge.D x0.2 [Edge.mk ((i:Nat):Int) i1 x1] 5 fun _=>⟨rfl,rfl⟩) (.ps 1000003 [.k [3,8,9,10,11,12] [10,11,2011],.m 2011 100006] (.oq 1000003 11 3 100006 5 Edge.D (x0.2++[Edge.mk ((i:Nat):Int) i1 x1]) (.yes (by simp)) (.ps 1000003 [.k [3,8,9,10,11,12] [10,11,100006]] (.ret (.inl (i1+1,x0.2++[Edge.mk ((i:Nat):Int) i1 x1]))))))))) (.ps 1000003 [.k [3,8,9,10,11,12] [10,11,100006]] (.oq 1000003 11 3 100006 5 Edge.D x0.2 .no (.ps 1000003 [.k [3,8,9,10,11,12] [10,11,100006]] (.ret (.inl (i1+1,x0.2)))))))))) (.ps 1000003 [.k [3,8,9,10,11] [10,11,100006]] (.ret (.inr []))))
 | (i1,aiZ::aix)=>aI 2010 (.br 100000044 (.ps 1000001 [.k [3,8,9,10,11,12,13,14] [10,11,100006]] (.lp1 0 (zV tA a a1 a2 i i1 (-1) 0 (aiZ::aix)) fun x0=>.cb 9 11 3 100006 5 Edge.D x0.2 (.ps 9 [.k [3,8,9,10,11,12,13] [10,11]] (.br 100000089 (.op 160012 (.el Link.D a2 .dn) (.op 160022 (.el Link.D a2 .dn) (.call [] [] (rU ((nth a2 x0.1.toNat).N) (((nth a2 x0.1.toNat).D_)%3)) .no fun x1=>.op 160036 (.ap Edge.D [] [Edge.mk ((i:Nat):Int) i1 x1] 5 fun _=>⟨rfl,rfl⟩) (.ps 1000003 [.k [3,8,9,10,11,12] [10,11,2011],.m 2011 100006] (.ret (.inl (i1+1,[Edge.mk ((i:Nat):Int) i1 x1]))))))) (.ps 1000003 [.k [3,8,9,10,11,12] [10,11,100006]] (.ret (.inl (i1+1,[])))))) (.ps 9 [.k [3,8,9,10,11,12,13] [10,11,100006]] (.br 100000089 (.op 160012 (.el Link.D a2 .dn) (.op 160022 (.el Link.D a2 .dn) (.call [] [] (rU ((nth a2 x0.1.toNat).N) (((nth a2 x0.1.toNat).D_)%3)) .no fun x1=>.op 160036 (.ap Edge.D x0.2 [Edge.mk ((i:Nat):Int) i1 x1] 5 fun _=>⟨rfl,rfl⟩) (.ps 1000003 [.k [3,8,9,10,11,12] [10,11,2011],.m 2011 100006] (.oq 1000003 11 3 100006 5 Edge.D (x0.2++[Edge.mk ((i:Nat):Int) i1 x1]) (.yes (by simp)) (.ps 1000003 [.k [3,8,9,10,11,12] [10,11,100006]] (.ret (.inl (i1+1,x0.2++[Edge.mk ((i:Nat):Int) i1 x1]))))))))) (.ps 1000003 [.k [3,8,9,10,11,12] [10,11,100006]] (.oq 1000003 11 3 100006 5 Edge.D x0.2 .no (.ps 1000003 [.k [3,8,9,10,11,12] [10,11,100006]] (.ret (.inl (i1+1,x0.2)))))))))) (.ps 1000003 [.k [3,8,9,10,11] [10,11,100006]] (.ret (.inr (aiZ::aix)))))
def yO (tA:Int) (a:Int) (a1:Int) (a2:List Link) (i:Nat) (i1:Int) (o1:List Edge):Option (List Edge):=aK (fun (σ:Int×List Edge)=>gW tA a a1 a2 i σ.1 σ.2) FU (i1,o1)
def zB (tA:Int) (a:Int) (a1:Int) (a2:List Link) (i:Nat) (i1:Int) (o1:List Edge):=
 aZ (JV tA a a1 a2 i) (fun _ h=>by cases h) FU (i1,o1)
def Pv (tA:Int) (a:Int) (a1:Int) (a2:List Link) (i:Nat) (o:List Edge):St:=⟨111,0,[(3,SL Link.D a2),(8,.ptr 10 0 0),(9,.ptr 11 0 0),(10,I ((1+(tA%3))+(a%6))),(11,I ((i:Nat):Int))],[(10,BOX [I 0,I 0,I 0,gU,gU]),(11,BOX [I (1+(tA%3)),I (a%6),I (1+(a1%3)),iI 100006 o,gU]),(100006,iY 5 Edge.D o)]⟩
def PX (tA:Int) (a:Int) (a1:Int) (a2:List Link) (o:List Edge):St:=⟨111,0,[(8,.ptr 10 0 0),(9,.ptr 11 0 0)],[(10,BOX [I 0,I 0,I 0,gU,gU]),(11,BOX [I (1+(tA%3)),I (a%6),I (1+(a1%3)),iI 100006 o,gU]),(100006,iY 5 Edge.D o)]⟩
def mO (tA:Int) (a:Int) (a1:Int) (a2:List Link) (i:Nat) (o:List Edge):Option ((Nat×List Edge)⊕(List Edge)):=bif decide (((i:Nat):Int)<((1+(tA%3))+(a%6))) then (yO tA a a1 a2 i (1+(tA%3)) o).bind fun x0=>bif inK .i64 (((i:Nat):Int)+1) then some (.inl (i+1,x0)) else none else some (.inr o)
theorem OO (tA:Int) (a:Int) (a1:Int) (a2:List Link):∀σ:Nat×List Edge,aO Tryz.prog (nav [1,1,1,0,1,0,0] (aj Tryz.f20)) (fun (σ:Nat×List Edge)=>Pv tA a a1 a2 σ.1 σ.2) (fun (_:List Edge)=>(.exit 0)) (fun (y:List Edge)=>PX tA a a1 a2 y) σ (mO tA a a1 a2 σ.1 σ.2)
 | (i,[])=>aI 1010 (.br 100000034 (.ps 1000001 [.k [3,8,9,10,11,12] [10,11,100006]] (.lp1 0 (zB tA a a1 a2 i (1+(tA%3)) []) fun x0=>.ps 1000003 [.k [3,8,9,10,11] [10,11,100006]] (.ret (.inl (i+1,x0))))) (.ps 1000003 [.k [8,9] [10,11,100006]] (.ret (.inr []))))
 | (i,o_h::o_t)=>aI 1010 (.br 100000034 (.ps 1000001 [.k [3,8,9,10,11,12] [10,11,100006]] (.lp1 0 (zB tA a a1 a2 i (1+(tA%3)) (o_h::o_t)) fun x0=>.ps 1000003 [.k [3,8,9,10,11] [10,11,100006]] (.ret (.inl (i+1,x0))))) (.ps 1000003 [.k [8,9] [10,11,100006]] (.ret (.inr (o_h::o_t)))))
def Cb (tA:Int) (a:Int) (a1:Int) (a2:List Link) (i:Nat) (o:List Edge):Option (List Edge):=aK (fun (σ:Nat×List Edge)=>mO tA a a1 a2 σ.1 σ.2) FU (i,o)
def PO (tA:Int) (a:Int) (a1:Int) (a2:List Link) (i:Nat) (o:List Edge):=
 aZ (OO tA a a1 a2) (fun _ h=>by cases h) FU (i,o)
def yc (tA:Int) (a:Int) (a1:Int) (a2:List Link):Option Graph:=bif decide (0<=tA) then bif decide (0<3) then bif inK .i64 (tA%3) then bif inK .i64 (1+(tA%3)) then bif decide (0<=a) then bif decide (0<6) then bif inK .i64 (a%6) then bif decide (0<=a1) then bif decide (0<3) then bif inK .i64 (a1%3) then bif inK .i64 (1+(a1%3)) then bif inK .i64 ((1+(tA%3))+(a%6)) then (Cb tA a a1 a2 0 []).bind fun x0=>some (Graph.mk (1+(tA%3)) (a%6) (1+(a1%3)) x0 []) else none else none else none else none else none else none else none else none else none else none else none else none
theorem VK (tA:Int) (a:Int) (a1:Int) (a2:List Link):∀r,yc tA a a1 a2=some r->au Tryz.prog 20 0 [NI .u8 tA,NI .u8 a,NI .u8 a1,SL Link.D a2] [] (AG Graph.D r) []:=
 ay 10 (.ps 1000001 [.k [3,8,9,10,11] [10,11,100006]] (.lp1 0 (PO tA a a1 a2 0 []) fun x0=>.ob 1 11 3 100006 5 Edge.D x0 (.ps 1 [.k [8,9] [10,11]] (.ps 1000003 [.b 10] (.ret (Graph.mk (1+(tA%3)) (a%6) (1+(a1%3)) x0 [])))))) Tryz.func20
def zD (g:Graph):Option Bool:=bif decide (g.Ins>=1) then bif decide (g.Ins<=40) then bif decide (g.aH>=1) then bif decide (g.aH<=40) then bif decide (g.bU>=0) then some (decide (g.bU<=400)) else some false else some false else some false else some false else some false
theorem TU (g:Graph):∀r,zD g=some r->au Tryz.prog 86 0 [AG Graph.D g] [] (B r) []:=
 ay 10 (.br 10008 (.br 10018 (.br 10028 (.br 10038 (.br 10048 (.ret (decide (g.bU<=400))) (.ret false)) (.ret false)) (.ret false)) (.ret false)) (.ret false)) Tryz.func86
def F7 (g:Graph) (v:Int):Option Bool:=bif decide (v>=g.Ins) then bif inK .i64 (g.Ins+g.bU) then some (decide (v<(g.Ins+g.bU))) else none else some false
theorem XR (g:Graph) (v:Int):∀r,F7 g v=some r->au Tryz.prog 139 0 [AG Graph.D g,I v] [] (B r) []:=
 ay 10 (.br 10010 (.ret (decide (v<(g.Ins+g.bU)))) (.ret false)) Tryz.func139
def PZ (g:Graph) (i:Nat):St:=⟨32,0,[(1,.ptr 10 0 0),(6,SL (cI .i64) g.Gone),(7,I ((g.Gone.length:Nat):Int)),(8,I ((i:Nat):Int))],[(10,BOX [I g.Ins,I g.bU,I g.aH,SL Edge.D g.ah,SL (cI .i64) g.Gone])]⟩
def OW (g:Graph):St:=⟨32,0,[(2,B false)],[]⟩
def Qs (g:Graph):St:=⟨32,0,[],[]⟩
def jD (g:Graph) (i:Nat):Option (Nat⊕(Unit⊕Unit)):=bif decide (((i:Nat):Int)<((g.Gone.length:Nat):Int)) then bif decide (i<g.Gone.length) then (F7 g (nth g.Gone i)).bind fun x0=>bif !x0 then some (.inr (.inl ())) else bif decide (((i:Nat):Int)>0) then bif inK .i64 (((i:Nat):Int)-1) then bif decide (0<=((i:Nat):Int)-1) then bif decide ((((i:Nat):Int)-1).toNat<g.Gone.length) then bif decide ((nth g.Gone i)<=(nth g.Gone ((((i:Nat):Int)-1).toNat))) then some (.inr (.inl ())) else bif inK .i64 (((i:Nat):Int)+1) then some (.inl (i+1)) else none else none else none else none else bif inK .i64 (((i:Nat):Int)+1) then some (.inl (i+1)) else none else none else some (.inr (.inr ()))
theorem Pg (g:Graph):∀σ:Nat,aO Tryz.prog (nav [1,0,1,0,0] (aj Tryz.f87)) (fun (σ:Nat)=>PZ g σ) (fun (y:Unit⊕Unit)=>bH y (fun _=>.ret) (fun _=>(.exit 0))) (fun (y:Unit⊕Unit)=>bH y (fun y=>OW g) (fun y=>Qs g)) σ (jD g σ)
 | i=>aI 1010 (.br 100000009 (.op 30002 (.el (cI .i64) g.Gone (.up i)) (.call [] [] (XR g (nth g.Gone i)) .no fun x0=>.br 40010 (.ps 1000003 [.k [2] []] (.ret (.inr (.inl ())))) (.br 40016 (.op 40026 (.el (cI .i64) g.Gone .dn) (.br 100000030 (.ps 1000003 [.k [2] []] (.ret (.inr (.inl ())))) (.ps 1000003 [.k [1,6,7,8] [10]] (.ret (.inl (i+1)))))) (.ps 1000003 [.k [1,6,7,8] [10]] (.ret (.inl (i+1))))))) (.ps 1000003 [.k [] []] (.ret (.inr (.inr ())))))
def DK (g:Graph) (i:Nat):Option (Unit⊕Unit):=aK (fun (σ:Nat)=>jD g σ) FU i
def Qk (g:Graph) (i:Nat):=
 aZ (Pg g) (fun y h=>by rcases y with y | y<;>cases h) FU i
def BU (g:Graph):Option Bool:=(DK g 0).bind fun y_=>bH y_ (fun x0=>some false) (fun x1=>some true)
theorem VB (g:Graph):∀r,BU g=some r->au Tryz.prog 87 0 [AG Graph.D g] [] (B r) []:=
 ay 10 (.op 10004 (.ln (cI .i64) g.Gone) (.ps 1000001 [.k [1,6,7,8] [10]] (.lp2 0 (Qk g 0) (fun x0=>.ret false) (fun x1=>.ret true)))) Tryz.func87
def yU (s:List Int) (v:Int) (i:Nat):St:=⟨19,0,[(0,SL (cI .i64) s),(1,I v),(7,I ((s.length:Nat):Int)),(8,I ((i:Nat):Int))],[]⟩
def yR (s:List Int) (v:Int) (i:Nat):St:=⟨19,0,[(4,I ((i:Nat):Int))],[]⟩
def yT (s:List Int) (v:Int):St:=⟨19,0,[],[]⟩
def bP (s:List Int) (v:Int) (i:Nat):Option (Nat⊕(Nat⊕Unit)):=bif decide (((i:Nat):Int)<((s.length:Nat):Int)) then bif decide (i<s.length) then bif v==(nth s i) then some (.inr (.inl i)) else bif inK .i64 (((i:Nat):Int)+1) then some (.inl (i+1)) else none else none else some (.inr (.inr ()))
theorem yS (s:List Int) (v:Int):∀σ:Nat,aO Tryz.prog (nav [1,0,1,0,0] (aj Tryz.f114)) (fun (σ:Nat)=>yU s v σ) (fun (y:Nat⊕Unit)=>bH y (fun _=>.ret) (fun _=>(.exit 0))) (fun (y:Nat⊕Unit)=>bH y (fun y=>yR s v y) (fun y=>yT s v)) σ (bP s v σ)
 | i=>aI 1010 (.br 100000009 (.op 40006 (.el (cI .i64) s (.up i)) (.br 100000016 (.ps 1000003 [.k [4] []] (.ret (.inr (.inl i)))) (.ps 1000003 [.k [0,1,7,8] []] (.ret (.inl (i+1)))))) (.ps 1000003 [.k [] []] (.ret (.inr (.inr ())))))
def fE (s:List Int) (v:Int) (i:Nat):Option (Nat⊕Unit):=aK (fun (σ:Nat)=>bP s v σ) FU i
def yP (s:List Int) (v:Int) (i:Nat):=
 aZ (yS s v) (fun y h=>by rcases y with y | y<;>cases h) FU i
def gB (s:List Int) (v:Int):Option Int:=(fE s v 0).bind fun y_=>bH y_ (fun x0=>some ((x0:Nat):Int)) (fun x1=>some (-1))
theorem BO (s:List Int) (v:Int):∀r,gB s v=some r->au Tryz.prog 114 0 [SL (cI .i64) s,I v] [] (I r) []:=
 ay 10 (.op 10002 (.ln (cI .i64) s) (.ps 1000001 [.k [0,1,7,8] []] (.lp2 0 (yP s v 0) (fun x0=>.ret ((x0:Nat):Int)) (fun x1=>.ret (-1))))) Tryz.func114
def bJ (s:List Int) (v:Int):Option Bool:=(gB s v).bind fun x0=>some (decide (x0>=0))
theorem dR (s:List Int) (v:Int):∀r,bJ s v=some r->au Tryz.prog 54 0 [SL (cI .i64) s,I v] [] (B r) []:=
 ay 10 (.call [] [] (BO s v) .no fun x0=>.ret (decide (x0>=0))) Tryz.func54
def P8 (vals:List Int) (i:Nat):St:=⟨18,0,[(3,I 0),(6,SL (cI .i64) vals),(7,I ((vals.length:Nat):Int)),(8,I ((i:Nat):Int))],[]⟩
def Py (vals:List Int) (i:Int):St:=⟨18,0,[(2,I i)],[]⟩
def Qe (vals:List Int):St:=⟨18,0,[(3,I 0)],[]⟩
def dJ (vals:List Int) (i:Nat):Option (Nat⊕(Int⊕Unit)):=bif decide (((i:Nat):Int)<((vals.length:Nat):Int)) then bif decide (i<vals.length) then bif (nth vals i) != 0 then some (.inr (.inl (nth vals i))) else bif inK .i64 (((i:Nat):Int)+1) then some (.inl (i+1)) else none else none else some (.inr (.inr ()))
theorem Pm (vals:List Int):∀σ:Nat,aO Tryz.prog (nav [1,1,0,1,0,0] (aj Tryz.f142)) (fun (σ:Nat)=>P8 vals σ) (fun (y:Int⊕Unit)=>bH y (fun _=>.ret) (fun _=>(.exit 0))) (fun (y:Int⊕Unit)=>bH y (fun y=>Py vals y) (fun y=>Qe vals)) σ (dJ vals σ)
 | i=>aI 1010 (.br 100000009 (.op 40000 (.el (cI .i64) vals (.up i)) (.br 100000014 (.ps 1000003 [.k [2] []] (.ret (.inr (.inl (nth vals i))))) (.ps 1000003 [.k [3,6,7,8] []] (.ret (.inl (i+1)))))) (.ps 1000003 [.k [3] []] (.ret (.inr (.inr ())))))
def J7 (vals:List Int) (i:Nat):Option (Int⊕Unit):=aK (fun (σ:Nat)=>dJ vals σ) FU i
def O8 (vals:List Int) (i:Nat):=
 aZ (Pm vals) (fun y h=>by rcases y with y | y<;>cases h) FU i
def Dc (vals:List Int):Option Int:=(J7 vals 0).bind fun y_=>bH y_ (fun x0=>some x0) (fun x1=>some 0)
theorem VE (vals:List Int):∀r,Dc vals=some r->au Tryz.prog 142 0 [SL (cI .i64) vals] [] (I r) []:=
 ay 10 (.op 20002 (.ln (cI .i64) vals) (.ps 1000001 [.k [3,6,7,8] []] (.lp2 0 (O8 vals 0) (fun x0=>.ret x0) (fun x1=>.ret 0)))) Tryz.func142
def zA (a:Edge) (b:Edge):Option Int:=(cmp_Compare_int a.From b.From).bind fun x0=>(cmp_Compare_int a.To b.To).bind fun x1=>(Dc [x0,x1]).bind fun x2=>some x2
theorem Q5 (a:Edge) (b:Edge):∀r,zA a b=some r->au Tryz.prog 89 0 [AG Edge.D a,AG Edge.D b] [] (I r) []:=
 ay 10 (.call [] [] (qh a.From b.From) .no fun x0=>.call [] [] (qh a.To b.To) .no fun x1=>.call [] [] (VE [x0,x1]) (.yes fun _=>⟨rfl,trivial⟩) fun x2=>.ret x2) Tryz.func89
def LW (tA:Graph) (i:Nat):St:=⟨95,0,[(1,.ptr 10 0 0),(14,SL Edge.D tA.ah),(15,I ((tA.ah.length:Nat):Int)),(16,I ((i:Nat):Int))],[(10,BOX [I tA.Ins,I tA.bU,I tA.aH,SL Edge.D tA.ah,SL (cI .i64) tA.Gone])]⟩
def NG (tA:Graph):St:=⟨95,0,[(2,B false)],[]⟩
def Me (tA:Graph):St:=⟨95,0,[],[]⟩
def bI (tA:Graph) (i:Nat):Option (Nat⊕(Unit⊕Unit)):=bif decide (((i:Nat):Int)<((tA.ah.length:Nat):Int)) then bif decide (i<tA.ah.length) then bif decide (((nth tA.ah i).From)<0) then some (.inr (.inl ())) else bif inK .i64 (tA.Ins+tA.bU) then bif decide (((nth tA.ah i).From)>=(tA.Ins+tA.bU)) then some (.inr (.inl ())) else bif decide (((nth tA.ah i).To)<tA.Ins) then some (.inr (.inl ())) else bif inK .i64 (tA.Ins+tA.bU) then bif inK .i64 ((tA.Ins+tA.bU)+tA.aH) then bif decide (((nth tA.ah i).To)>=((tA.Ins+tA.bU)+tA.aH)) then some (.inr (.inl ())) else bif decide (((nth tA.ah i).From)>=((nth tA.ah i).To)) then some (.inr (.inl ())) else (qF ((nth tA.ah i).W)).bind fun x2=>bif !x2 then some (.inr (.inl ())) else bif decide (((i:Nat):Int)>0) then bif inK .i64 (((i:Nat):Int)-1) then bif decide (0<=((i:Nat):Int)-1) then bif decide ((((i:Nat):Int)-1).toNat<tA.ah.length) then (zA (nth tA.ah ((((i:Nat):Int)-1).toNat)) (nth tA.ah i)).bind fun x3=>bif decide (x3>=0) then some (.inr (.inl ())) else (bJ tA.Gone ((nth tA.ah i).From)).bind fun x4=>bif x4 then some (.inr (.inl ())) else (bJ tA.Gone ((nth tA.ah i).To)).bind fun x5=>bif x5 then some (.inr (.inl ())) else bif inK .i64 (((i:Nat):Int)+1) then some (.inl (i+1)) else none else none else none else none else (bJ tA.Gone ((nth tA.ah i).From)).bind fun x3=>bif x3 then some (.inr (.inl ())) else (bJ tA.Gone ((nth tA.ah i).To)).bind fun x4=>bif x4 then some (.inr (.inl ())) else bif inK .i64 (((i:Nat):Int)+1) then some (.inl (i+1)) else none else none else none else none else none else some (.inr (.inr ()))
theorem MX (tA:Graph):∀σ:Nat,aO Tryz.prog (nav [1,1,0,1,0,0] (aj Tryz.f38)) (fun (σ:Nat)=>LW tA σ) (fun (y:Unit⊕Unit)=>bH y (fun _=>.ret) (fun _=>(.exit 0))) (fun (y:Unit⊕Unit)=>bH y (fun y=>NG tA) (fun y=>Me tA)) σ (bI tA σ)
 | i=>aI 1010 (.br 100000017 (.op 50002 (.el Edge.D tA.ah (.up i)) (.br 60008 (.ps 1000003 [.k [2] []] (.ret (.inr (.inl ())))) (.br 60028 (.ps 1000003 [.k [2] []] (.ret (.inr (.inl ())))) (.br 60042 (.ps 1000003 [.k [2] []] (.ret (.inr (.inl ())))) (.br 60068 (.ps 1000003 [.k [2] []] (.ret (.inr (.inl ())))) (.br 100000060 (.ps 1000003 [.k [2] []] (.ret (.inr (.inl ())))) (.call [] [] (yK ((nth tA.ah i).W)) .no fun x2=>.br 80010 (.ps 1000003 [.k [2] []] (.ret (.inr (.inl ())))) (.br 80016 (.op 80024 (.el Edge.D tA.ah .dn) (.call [] [] (Q5 (nth tA.ah ((((i:Nat):Int)-1).toNat)) (nth tA.ah i)) .no fun x3=>.br 80040 (.ps 1000003 [.k [2] []] (.ret (.inr (.inl ())))) (.call [] [] (dR tA.Gone ((nth tA.ah i).From)) .no fun x4=>.br 80054 (.ps 1000003 [.k [2] []] (.ret (.inr (.inl ())))) (.call [] [] (dR tA.Gone ((nth tA.ah i).To)) .no fun x5=>.br 100000093 (.ps 1000003 [.k [2] []] (.ret (.inr (.inl ())))) (.ps 1000003 [.k [1,14,15,16] [10]] (.ret (.inl (i+1)))))))) (.call [] [] (dR tA.Gone ((nth tA.ah i).From)) .no fun x3=>.br 80054 (.ps 1000003 [.k [2] []] (.ret (.inr (.inl ())))) (.call [] [] (dR tA.Gone ((nth tA.ah i).To)) .no fun x4=>.br 100000093 (.ps 1000003 [.k [2] []] (.ret (.inr (.inl ())))) (.ps 1000003 [.k [1,14,15,16] [10]] (.ret (.inl (i+1)))))))))))))) (.ps 1000003 [.k [] []] (.ret (.inr (.inr ())))))
def Af (tA:Graph) (i:Nat):Option (Unit⊕Unit):=aK (fun (σ:Nat)=>bI tA σ) FU i
def MC (tA:Graph) (i:Nat):=
 aZ (MX tA) (fun y h=>by rcases y with y | y<;>cases h) FU i
def qG (tA:Graph):Option Bool:=(zD tA).bind fun x0=>bif !x0 then some false else (BU tA).bind fun x1=>bif !x1 then some false else (Af tA 0).bind fun y_=>bH y_ (fun x2=>some false) (fun x3=>some true)
theorem EU (tA:Graph):∀r,qG tA=some r->au Tryz.prog 38 0 [AG Graph.D tA] [] (B r) []:=
 ay 10 (.call [] [] (TU tA) .no fun x0=>.br 10008 (.ret false) (.call [] [] (VB tA) .no fun x1=>.br 100000012 (.ret false) (.op 30004 (.ln Edge.D tA.ah) (.ps 1000001 [.k [1,14,15,16] [10]] (.lp2 0 (MC tA 0) (fun x2=>.ret false) (fun x3=>.ret true)))))) Tryz.func38
end Go.Ab.M
