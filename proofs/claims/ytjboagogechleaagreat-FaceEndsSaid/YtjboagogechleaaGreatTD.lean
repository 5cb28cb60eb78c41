import Derived.Test.YtjboagogechleaaGreatTC
namespace Go.Ab.M
open Go.Proofs
set_option linter.unusedVariables false
set_option linter.defProp false
set_option maxRecDepth 100000
structure Whole where
 Neg:Bool
 Mag:List Int
 deriving DecidableEq,Inhabited
abbrev Whole.D (x:Whole):List D:=[.v (.bool x.Neg),.sl (x.Mag.map (cI .u32))]
structure Link where
 From:Int
 To:Int
 N:Int
 D_:Int
 deriving DecidableEq,Inhabited
abbrev Link.D (x:Link):List D:=[.v (.int .u8 x.From),.v (.int .u8 x.To),.v (.int .i8 x.N),.v (.int .u8 x.D_)]
structure Edge where
 From:Int
 To:Int
 W:Rat
 deriving DecidableEq,Inhabited
abbrev Edge.D (x:Edge):List D:=[.v (.int .i64 x.From)]++[.v (.int .i64 x.To)]++Rat.D x.W
structure Graph where
 Ins:Int
 bQ:Int
 aH:Int
 ah:List Edge
 Gone:List Int
 deriving DecidableEq,Inhabited
abbrev Graph.D (x:Graph):List D:=[.v (.int .i64 x.Ins),.v (.int .i64 x.bQ),.v (.int .i64 x.aH),.sl (x.ah.map Edge.D),.sl (x.Gone.map (cI .i64))]
def VG (n1:Int) (out:List Int):St:=⟨15,0,[(0,NI .u64 n1),(3,iO 100001 out)],[(100001,jg 1 (cI .u32) out)]⟩
def Vd (out:List Int):St:=⟨15,0,[(3,iO 100001 out)],[(100001,jg 1 (cI .u32) out)]⟩
def pz (n1:Int) (out:List Int):Option ((Int×List Int)⊕(List Int)):=bif decide (n1>0) then bif decide (0<=n1) then bif decide (0<4294967296) then bif decide (out.length+1<=2147483648) then bif decide (0<=n1) then bif decide (0<4294967296) then bif decide (n1<=Go.Ab.hi .u64) then some (.inl (n1/4294967296,out++[IntKind.wrap .u32 (n1%4294967296)])) else none else none else none else none else none else none else some (.inr out)
theorem Ve:∀σ:Int×List Int,aQ Tryz.prog (nav [1,1,0,0,0] (aj Tryz.f163)) (fun (σ:Int×List Int)=>VG σ.1 σ.2) (fun (_:List Int)=>(.exit 0)) (fun (y:List Int)=>Vd y) σ (pz σ.1 σ.2)
 | (n1,[])=>aJ 1010 (.br 100000005 (.op 30006 .wr (.op 30010 (.ap (cI .u32) [] [IntKind.wrap .u32 (n1%4294967296)] 1 fun _=>⟨rfl,rfl⟩) (.ps 1000003 [.k [0,3] [1011],.m 1011 100001] (.ret (.inl (n1/4294967296,[IntKind.wrap .u32 (n1%4294967296)])))))) (.ps 1000003 [.k [3] [100001]] (.ret (.inr []))))
 | (n1,sK::sH)=>aJ 1010 (.br 100000005 (.op 30006 .wr (.op 30010 (.ap (cI .u32) (sK::sH) [IntKind.wrap .u32 (n1%4294967296)] 1 fun _=>⟨rfl,rfl⟩) (.ps 1000003 [.k [0,3] [1011],.m 1011 100001] (.ret (.inl (n1/4294967296,(sK::sH)++[IntKind.wrap .u32 (n1%4294967296)])))))) (.ps 1000003 [.k [3] [100001]] (.ret (.inr (sK::sH)))))
def H6 (n1:Int) (out:List Int):Option (List Int):=aK (fun (σ:Int×List Int)=>pz σ.1 σ.2) FU (n1,out)
def Vm (n1:Int) (out:List Int):=
 bn (Ve) (fun _ h=>by cases h) FU (n1,out)
def Ef (n:Int):Option (List Int):=(H6 n []).bind fun x0=>some x0
theorem Oc (n:Int):∀r,Ef n=some r->au Tryz.prog 163 0 [NI .u64 n] [] (SL (cI .u32) r) []:=
 ay 10 (.ps 1000001 [.k [0,3] [100001]] (.lp1 0 (Vm n []) fun x0=>.oz 1 3 100001 1 (cI .u32) x0 (.ps 1 [.k [3] []] (.ret x0)))) Tryz.func163
def AQ (n:Int):Option Whole:=bif decide (n>=0) then (Ef (IntKind.wrap .u64 n)).bind fun x0=>some (Whole.mk false x0) else (Ef (IntKind.wrap .u64 (0-(IntKind.wrap .u64 n)))).bind fun x0=>some (Whole.mk true x0)
theorem Ot (n:Int):∀r,AQ n=some r->au Tryz.prog 113 0 [I n] [] (AG Whole.D r) []:=
 ay 10 (.br 100000005 (.op 20002 .wr (.call [] [] (Oc (IntKind.wrap .u64 n)) .no fun x0=>.ret (Whole.mk false x0))) (.op 30002 .wr (.call [] [] (Oc (IntKind.wrap .u64 (0-(IntKind.wrap .u64 n)))) .no fun x0=>.ret (Whole.mk true x0)))) Tryz.func113
def U0 (l:List Int) (n:Nat) (i:Nat):St:=⟨19,0,[(0,SL (cI .u32) l),(3,I ((n:Nat):Int)),(4,I ((i:Nat):Int))],[]⟩
def S9 (l:List Int) (n:Nat):St:=⟨19,0,[(3,I ((n:Nat):Int))],[]⟩
def lG (l:List Int) (n:Nat) (i:Nat):Option ((Nat×Nat)⊕Nat):=bif decide (((i:Nat):Int)<((l.length:Nat):Int)) then bif decide (i<l.length) then bif (nth l i) != 0 then bif inK .i64 (((i:Nat):Int)+1) then bif inK .i64 (((i:Nat):Int)+1) then some (.inl (i+1,i+1)) else none else none else bif inK .i64 (((i:Nat):Int)+1) then some (.inl (n,i+1)) else none else none else some (.inr n)
theorem U8 (l:List Int):∀σ:Nat×Nat,aQ Tryz.prog (nav [1,1,0,1,0,0] (aj Tryz.f242)) (fun (σ:Nat×Nat)=>U0 l σ.1 σ.2) (fun (_:Nat)=>(.exit 0)) (fun (y:Nat)=>S9 l y) σ (lG l σ.1 σ.2)
 | (n,i)=>aJ 1010 (.op 30004 (.ln (cI .u32) l) (.br 100000008 (.op 50004 (.el (cI .u32) l (.up i)) (.br 100000015 (.ps 1000003 [.k [0,3,4] []] (.ret (.inl (i+1,i+1)))) (.ps 1000003 [.k [0,3,4] []] (.ret (.inl (n,i+1)))))) (.ps 1000003 [.k [3] []] (.ret (.inr n)))))
def DY (l:List Int) (n:Nat) (i:Nat):Option Nat:=aK (fun (σ:Nat×Nat)=>lG l σ.1 σ.2) FU (n,i)
def Sj (l:List Int) (n:Nat) (i:Nat):=
 bn (U8 l) (fun _ h=>by cases h) FU (n,i)
def Gs (l:List Int):Option Int:=(DY l 0 0).bind fun x0=>some ((x0:Nat):Int)
theorem Xj (l:List Int):∀r,Gs l=some r->au Tryz.prog 242 0 [SL (cI .u32) l] [] (I r) []:=
 ay 10 (.ps 1000001 [.k [0,3,4] []] (.lp1 0 (Sj l 0 0) fun x0=>.ret ((x0:Nat):Int))) Tryz.func242
def OV (a:List Int) (x0:Int) (out:List Int) (i:Nat):St:=⟨21,0,[(0,SL (cI .u32) a),(3,I x0),(4,iO 100002 out),(5,I ((i:Nat):Int))],[(100002,jg 1 (cI .u32) out)]⟩
def OJ (a:List Int) (x0:Int) (out:List Int):St:=⟨21,0,[(4,iO 100002 out)],[(100002,jg 1 (cI .u32) out)]⟩
def mG (a:List Int) (x0:Int) (out:List Int) (i:Nat):Option ((List Int×Nat)⊕(List Int)):=bif decide (((i:Nat):Int)<x0) then bif decide (i<a.length) then bif decide (out.length+1<=2147483648) then bif inK .i64 (((i:Nat):Int)+1) then some (.inl (out++[nth a i],i+1)) else none else none else none else some (.inr out)
theorem Pq (a:List Int) (x0:Int):∀σ:List Int×Nat,aQ Tryz.prog (nav [1,1,1,0,1,0,0] (aj Tryz.f210)) (fun (σ:List Int×Nat)=>OV a x0 σ.1 σ.2) (fun (_:List Int)=>(.exit 0)) (fun (y:List Int)=>OJ a x0 y) σ (mG a x0 σ.1 σ.2)
 | ([],i)=>aJ 1010 (.br 100000010 (.op 60006 (.el (cI .u32) a (.up i)) (.op 60012 (.ap (cI .u32) [] [nth a i] 1 fun _=>⟨rfl,rfl⟩) (.ps 1000003 [.k [0,3,4,5] [1011],.m 1011 100002] (.ret (.inl ([nth a i],i+1)))))) (.ps 1000003 [.k [4] [100002]] (.ret (.inr []))))
 | (sK::sH,i)=>aJ 1010 (.br 100000010 (.op 60006 (.el (cI .u32) a (.up i)) (.op 60012 (.ap (cI .u32) (sK::sH) [nth a i] 1 fun _=>⟨rfl,rfl⟩) (.ps 1000003 [.k [0,3,4,5] [1011],.m 1011 100002] (.ret (.inl ((sK::sH)++[nth a i],i+1)))))) (.ps 1000003 [.k [4] [100002]] (.ret (.inr (sK::sH)))))
def Dt (a:List Int) (x0:Int) (out:List Int) (i:Nat):Option (List Int):=aK (fun (σ:List Int×Nat)=>mG a x0 σ.1 σ.2) FU (out,i)
def PO (a:List Int) (x0:Int) (out:List Int) (i:Nat):=
 bn (Pq a x0) (fun _ h=>by cases h) FU (out,i)
def fQ (a:List Int):Option (List Int):=(Gs a).bind fun x0=>(Dt a x0 [] 0).bind fun x1=>some x1
theorem iR (a:List Int):∀r,fQ a=some r->au Tryz.prog 210 0 [SL (cI .u32) a] [] (SL (cI .u32) r) []:=
 ay 10 (.call [] [] (Xj a) .no fun x0=>.ps 1000001 [.k [0,3,4,5] [100002]] (.lp1 0 (PO a x0 [] 0) fun x1=>.oz 1 4 100002 1 (cI .u32) x1 (.ps 1 [.k [4] []] (.ret x1)))) Tryz.func210
def Sz (a:List Int) (w:Int) (out:List Int) (carry:Int) (i:Nat):St:=⟨44,0,[(0,SL (cI .u32) a),(1,NI .u32 w),(7,iO 100003 out),(8,NI .u64 carry),(9,I ((i:Nat):Int))],[(100003,jg 1 (cI .u32) out)]⟩
def SY (a:List Int) (w:Int) (out:List Int) (carry:Int):St:=⟨44,0,[(7,iO 100003 out),(8,NI .u64 carry)],[(100003,jg 1 (cI .u32) out)]⟩
def nO (a:List Int) (w:Int) (out:List Int) (carry:Int) (i:Nat):Option ((List Int×Int×Nat)⊕(List Int×Int)):=bif decide (((i:Nat):Int)<((a.length:Nat):Int)) then bif decide (i<a.length) then bif inK .u64 (nth a i) then bif inK .u64 w then bif decide (0<=IntKind.wrap .u64 ((IntKind.wrap .u64 ((nth a i)*w))+carry)) then bif decide (0<4294967296) then bif decide (out.length+1<=2147483648) then bif decide (0<=IntKind.wrap .u64 ((IntKind.wrap .u64 ((nth a i)*w))+carry)) then bif decide (0<4294967296) then bif decide (IntKind.wrap .u64 ((IntKind.wrap .u64 ((nth a i)*w))+carry)<=Go.Ab.hi .u64) then bif inK .i64 (((i:Nat):Int)+1) then some (.inl (out++[IntKind.wrap .u32 ((IntKind.wrap .u64 ((IntKind.wrap .u64 ((nth a i)*w))+carry))%4294967296)],(IntKind.wrap .u64 ((IntKind.wrap .u64 ((nth a i)*w))+carry))/4294967296,i+1)) else none else none else none else none else none else none else none else none else none else none else some (.inr (out,carry))
theorem Sr (a:List Int) (w:Int):∀σ:List Int×Int×Nat,aQ Tryz.prog (nav [1,1,1,0,1,0,0] (aj Tryz.f171)) (fun (σ:List Int×Int×Nat)=>Sz a w σ.1 σ.2.1 σ.2.2) (fun (_:List Int×Int)=>(.exit 0)) (fun (y:List Int×Int)=>SY a w y.1 y.2) σ (nO a w σ.1 σ.2.1 σ.2.2)
 | ([],carry,i)=>aJ 1010 (.op 40004 (.ln (cI .u32) a) (.br 100000016 (.op 60004 (.el (cI .u32) a (.up i)) (.op 70006 .wr (.op 70010 (.ap (cI .u32) [] [IntKind.wrap .u32 ((IntKind.wrap .u64 ((IntKind.wrap .u64 ((nth a i)*w))+carry))%4294967296)] 1 fun _=>⟨rfl,rfl⟩) (.ps 1000003 [.k [0,1,7,8,9] [1011],.m 1011 100003] (.ret (.inl ([IntKind.wrap .u32 ((IntKind.wrap .u64 ((IntKind.wrap .u64 ((nth a i)*w))+carry))%4294967296)],(IntKind.wrap .u64 ((IntKind.wrap .u64 ((nth a i)*w))+carry))/4294967296,i+1))))))) (.ps 1000003 [.k [7,8] [100003]] (.ret (.inr ([],carry))))))
 | (sK::sH,carry,i)=>aJ 1010 (.op 40004 (.ln (cI .u32) a) (.br 100000016 (.op 60004 (.el (cI .u32) a (.up i)) (.op 70006 .wr (.op 70010 (.ap (cI .u32) (sK::sH) [IntKind.wrap .u32 ((IntKind.wrap .u64 ((IntKind.wrap .u64 ((nth a i)*w))+carry))%4294967296)] 1 fun _=>⟨rfl,rfl⟩) (.ps 1000003 [.k [0,1,7,8,9] [1011],.m 1011 100003] (.ret (.inl ((sK::sH)++[IntKind.wrap .u32 ((IntKind.wrap .u64 ((IntKind.wrap .u64 ((nth a i)*w))+carry))%4294967296)],(IntKind.wrap .u64 ((IntKind.wrap .u64 ((nth a i)*w))+carry))/4294967296,i+1))))))) (.ps 1000003 [.k [7,8] [100003]] (.ret (.inr ((sK::sH),carry))))))
def Fp (a:List Int) (w:Int) (out:List Int) (carry:Int) (i:Nat):Option (List Int×Int):=aK (fun (σ:List Int×Int×Nat)=>nO a w σ.1 σ.2.1 σ.2.2) FU (out,carry,i)
def TP (a:List Int) (w:Int) (out:List Int) (carry:Int) (i:Nat):=
 bn (Sr a w) (fun _ h=>by cases h) FU (out,carry,i)
def iZ (a:List Int) (w:Int) (c:Int):Option (List Int):=bif inK .u64 c then (Fp a w [] c 0).bind fun x0=>bif x0.1.isEmpty then (fQ [IntKind.wrap .u32 x0.2]).bind fun x1=>some x1 else bif decide (x0.1.length+1<=2147483648) then (fQ (x0.1++[IntKind.wrap .u32 x0.2])).bind fun x1=>some x1 else none else none
theorem wQ (a:List Int) (w:Int) (c:Int):∀r,iZ a w c=some r->au Tryz.prog 171 0 [SL (cI .u32) a,NI .u32 w,NI .u32 c] [] (SL (cI .u32) r) []:=
 ay 10 (.ps 1000001 [.k [0,1,7,8,9] [100003]] (.lp1 0 (TP a w [] c 0) fun x0=>.cl 1 7 100003 1 (cI .u32) x0.1 (.ps 1 [.k [7,8] []] (.op 90004 .wr (.op 90008 (.ap (cI .u32) [] [IntKind.wrap .u32 x0.2] 1 fun _=>⟨rfl,rfl⟩) (.call [] [] (iR [IntKind.wrap .u32 x0.2]) .no fun x1=>.ret x1)))) (.ps 1 [.k [7,8] [100003]] (.op 90004 .wr (.op 90008 (.ap (cI .u32) x0.1 [IntKind.wrap .u32 x0.2] 1 fun _=>⟨rfl,rfl⟩) (.call [] [] (iR (x0.1++[IntKind.wrap .u32 x0.2])) .no fun x1=>.ret x1)))))) Tryz.func171
def Gt (a:List Int) (i:Int):Option Int:=bif decide (0<=i) then bif decide (0<32) then bif decide (i<=Go.Ab.hi .i64) then bif decide (0<=i/32) then bif decide ((i/32).toNat<a.length) then bif decide (0<=i) then bif decide (0<32) then bif decide (0<=i%32) then some (ahb .u32 (mJ .u32 (nth a ((i/32).toNat)) (i%32)) 1) else none else none else none else none else none else none else none else none
theorem Yp (a:List Int) (i:Int):∀r,Gt a i=some r->au Tryz.prog 245 0 [SL (cI .u32) a,I i] [] (NI .u32 r) []:=
 ay 10 (.op 10006 (.el (cI .u32) a .dn) (.ret (ahb .u32 (mJ .u32 (nth a ((i/32).toNat)) (i%32)) 1))) Tryz.func245
def mO (a:List Int) (i:Int):Option Int:=bif decide (i<0) then some 0 else bif decide (i>=((a.length:Nat):Int)) then some 0 else bif decide (0<=i) then bif decide (i.toNat<a.length) then bif inK .u64 (nth a i.toNat) then some (nth a i.toNat) else none else none else none
theorem lM (a:List Int) (i:Int):∀r,mO a i=some r->au Tryz.prog 217 0 [SL (cI .u32) a,I i] [] (NI .u64 r) []:=
 ay 10 (.br 10006 (.ret 0) (.op 10010 (.ln (cI .u32) a) (.br 100000012 (.ret 0) (.op 30004 (.el (cI .u32) a .dn) (.ret (nth a i.toNat)))))) Tryz.func217
def QM (a:List Int) (b:List Int) (i:Int):St:=⟨32,0,[(0,SL (cI .u32) a),(1,SL (cI .u32) b),(6,I i)],[]⟩
def Uu (a:List Int) (b:List Int) (i:Int):St:=⟨32,0,[(4,I i)],[]⟩
def UM (a:List Int) (b:List Int):St:=⟨32,0,[],[]⟩
def lH (a:List Int) (b:List Int) (i:Int):Option (Int⊕(Int⊕Unit)):=bif decide (i>=0) then (mO a i).bind fun x0=>(mO b i).bind fun x1=>bif decide (x0<x1) then some (.inr (.inl (-1))) else (mO a i).bind fun x2=>(mO b i).bind fun x3=>bif decide (x2>x3) then some (.inr (.inl 1)) else bif inK .i64 (i-1) then some (.inl (i-1)) else none else some (.inr (.inr ()))
theorem Tj (a:List Int) (b:List Int):∀σ:Int,aQ Tryz.prog (nav [1,1,0,1,0,0] (aj Tryz.f174)) (fun (σ:Int)=>QM a b σ) (fun (y:Int⊕Unit)=>bH y (fun _=>.ret) (fun _=>(.exit 0))) (fun (y:Int⊕Unit)=>bH y (fun y=>Uu a b y) (fun y=>UM a b)) σ (lH a b σ)
 | i=>aJ 1010 (.br 100000015 (.call [] [] (lM a i) .no fun x0=>.call [] [] (lM b i) .no fun x1=>.br 100000024 (.ps 1000003 [.k [4] []] (.ret (.inr (.inl (-1))))) (.call [] [] (lM a i) .no fun x2=>.call [] [] (lM b i) .no fun x3=>.br 100000031 (.ps 1000003 [.k [4] []] (.ret (.inr (.inl 1)))) (.ps 1000003 [.k [0,1,6] []] (.ret (.inl (i-1)))))) (.ps 1000003 [.k [] []] (.ret (.inr (.inr ())))))
def NY (a:List Int) (b:List Int) (i:Int):Option (Int⊕Unit):=aK (fun (σ:Int)=>lH a b σ) FU i
def Rf (a:List Int) (b:List Int) (i:Int):=
 bn (Tj a b) (fun y h=>by rcases y with y | y<;>cases h) FU i
def qx (a:List Int) (b:List Int):Option Int:=bif inK .i64 ((mxI ((a.length:Nat):Int) ((b.length:Nat):Int))-1) then (NY a b ((mxI ((a.length:Nat):Int) ((b.length:Nat):Int))-1)).bind fun y_=>bH y_ (fun x0=>some x0) (fun x1=>some 0) else none
theorem wG (a:List Int) (b:List Int):∀r,qx a b=some r->au Tryz.prog 174 0 [SL (cI .u32) a,SL (cI .u32) b] [] (I r) []:=
 ay 10 (.op 10002 (.ln (cI .u32) a) (.op 10006 (.ln (cI .u32) b) (.ps 1000001 [.k [0,1,6] []] (.lp2 0 (Rf a b ((mxI ((a.length:Nat):Int) ((b.length:Nat):Int))-1)) (fun x0=>.ret x0) (fun x1=>.ret 0))))) Tryz.func174
def U7 (a:List Int) (b:List Int) (out:List Int) (borrow:Int) (i:Nat):St:=⟨41,0,[(0,SL (cI .u32) a),(1,SL (cI .u32) b),(6,iO 100004 out),(7,NI .u64 borrow),(8,I ((i:Nat):Int))],[(100004,jg 1 (cI .u32) out)]⟩
def TT (a:List Int) (b:List Int) (out:List Int):St:=⟨41,0,[(6,iO 100004 out)],[(100004,jg 1 (cI .u32) out)]⟩
def nC (a:List Int) (b:List Int) (out:List Int) (borrow:Int) (i:Nat):Option ((List Int×Int×Nat)⊕(List Int)):=bif decide (((i:Nat):Int)<((a.length:Nat):Int)) then (mO a ((i:Nat):Int)).bind fun x1=>(mO b ((i:Nat):Int)).bind fun x2=>bif decide (0<=IntKind.wrap .u64 ((IntKind.wrap .u64 ((IntKind.wrap .u64 (4294967296+x1))-x2))-borrow)) then bif decide (0<4294967296) then bif decide (out.length+1<=2147483648) then bif decide (0<=IntKind.wrap .u64 ((IntKind.wrap .u64 ((IntKind.wrap .u64 (4294967296+x1))-x2))-borrow)) then bif decide (0<4294967296) then bif decide (IntKind.wrap .u64 ((IntKind.wrap .u64 ((IntKind.wrap .u64 (4294967296+x1))-x2))-borrow)<=Go.Ab.hi .u64) then bif inK .i64 (((i:Nat):Int)+1) then some (.inl (out++[IntKind.wrap .u32 ((IntKind.wrap .u64 ((IntKind.wrap .u64 ((IntKind.wrap .u64 (4294967296+x1))-x2))-borrow))%4294967296)],IntKind.wrap .u64 (1-((IntKind.wrap .u64 ((IntKind.wrap .u64 ((IntKind.wrap .u64 (4294967296+x1))-x2))-borrow))/4294967296)),i+1)) else none else none else none else none else none else none else none else some (.inr out)
theorem Rz (a:List Int) (b:List Int):∀σ:List Int×Int×Nat,aQ Tryz.prog (nav [1,1,1,1,0,1,0,0] (aj Tryz.f175)) (fun (σ:List Int×Int×Nat)=>U7 a b σ.1 σ.2.1 σ.2.2) (fun (_:List Int)=>(.exit 0)) (fun (y:List Int)=>TT a b y) σ (nC a b σ.1 σ.2.1 σ.2.2)
 | ([],borrow,i)=>aJ 1010 (.op 60004 (.ln (cI .u32) a) (.br 100000017 (.call [] [] (lM a ((i:Nat):Int)) .no fun x1=>.call [] [] (lM b ((i:Nat):Int)) .no fun x2=>.op 90006 .wr (.op 90010 (.ap (cI .u32) [] [IntKind.wrap .u32 ((IntKind.wrap .u64 ((IntKind.wrap .u64 ((IntKind.wrap .u64 (4294967296+x1))-x2))-borrow))%4294967296)] 1 fun _=>⟨rfl,rfl⟩) (.ps 1000003 [.k [0,1,6,7,8] [1011],.m 1011 100004] (.ret (.inl ([IntKind.wrap .u32 ((IntKind.wrap .u64 ((IntKind.wrap .u64 ((IntKind.wrap .u64 (4294967296+x1))-x2))-borrow))%4294967296)],IntKind.wrap .u64 (1-((IntKind.wrap .u64 ((IntKind.wrap .u64 ((IntKind.wrap .u64 (4294967296+x1))-x2))-borrow))/4294967296)),i+1)))))) (.ps 1000003 [.k [6] [100004]] (.ret (.inr [])))))
 | (sK::sH,borrow,i)=>aJ 1010 (.op 60004 (.ln (cI .u32) a) (.br 100000017 (.call [] [] (lM a ((i:Nat):Int)) .no fun x1=>.call [] [] (lM b ((i:Nat):Int)) .no fun x2=>.op 90006 .wr (.op 90010 (.ap (cI .u32) (sK::sH) [IntKind.wrap .u32 ((IntKind.wrap .u64 ((IntKind.wrap .u64 ((IntKind.wrap .u64 (4294967296+x1))-x2))-borrow))%4294967296)] 1 fun _=>⟨rfl,rfl⟩) (.ps 1000003 [.k [0,1,6,7,8] [1011],.m 1011 100004] (.ret (.inl ((sK::sH)++[IntKind.wrap .u32 ((IntKind.wrap .u64 ((IntKind.wrap .u64 ((IntKind.wrap .u64 (4294967296+x1))-x2))-borrow))%4294967296)],IntKind.wrap .u64 (1-((IntKind.wrap .u64 ((IntKind.wrap .u64 ((IntKind.wrap .u64 (4294967296+x1))-x2))-borrow))/4294967296)),i+1)))))) (.ps 1000003 [.k [6] [100004]] (.ret (.inr (sK::sH))))))
def EJ (a:List Int) (b:List Int) (out:List Int) (borrow:Int) (i:Nat):Option (List Int):=aK (fun (σ:List Int×Int×Nat)=>nC a b σ.1 σ.2.1 σ.2.2) FU (out,borrow,i)
def Ul (a:List Int) (b:List Int) (out:List Int) (borrow:Int) (i:Nat):=
 bn (Rz a b) (fun _ h=>by cases h) FU (out,borrow,i)
def qL (a:List Int) (b:List Int):Option (List Int×Bool):=(qx a b).bind fun x0=>bif decide (x0<0) then some ([],false) else (EJ a b [] 0 0).bind fun x1=>(fQ x1).bind fun x2=>some (x2,true)
theorem Dq (a:List Int) (b:List Int):∀r,qL a b=some r->au Tryz.prog 175 0 [SL (cI .u32) a,SL (cI .u32) b] [] (.tup [SL (cI .u32) r.1,B r.2]) []:=
 ay 10 (.call [] [] (wG a b) .no fun x0=>.br 100000013 (.ps 1000003 [.n 4] (.ret ([],false))) (.ps 1000001 [.k [0,1,6,7,8] [100004]] (.lp1 0 (Ul a b [] 0 0) fun x1=>.oz 1 6 100004 1 (cI .u32) x1 (.ps 1 [.k [6] []] (.call [] [] (iR x1) .no fun x2=>.ret (x2,true)))))) Tryz.func175
def Tn (a:List Int) (x0:List Int) (q:List Int) (r:List Int) (i:Int):St:=⟨45,0,[(0,SL (cI .u32) a),(7,SL (cI .u32) x0),(8,SL (cI .u32) q),(9,SL (cI .u32) r),(10,I i)],[]⟩
def Rx (a:List Int) (x0:List Int) (q:List Int) (r:List Int):St:=⟨45,0,[(8,SL (cI .u32) q),(9,SL (cI .u32) r)],[]⟩
def jv (a:List Int) (x0:List Int) (q:List Int) (r:List Int) (i:Int):Option ((List Int×List Int×Int)⊕(List Int×List Int)):=bif decide (i>=0) then (iZ q 2 0).bind fun x1=>(Gt a i).bind fun x2=>(iZ r 2 x2).bind fun x3=>(qx x3 x0).bind fun x4=>bif decide (x4>=0) then (qL x3 x0).bind fun x5=>(iZ x1 1 1).bind fun x6=>bif inK .i64 (i-1) then some (.inl (x6,x5.1,i-1)) else none else bif inK .i64 (i-1) then some (.inl (x1,x3,i-1)) else none else some (.inr (q,r))
theorem UY (a:List Int) (x0:List Int):∀σ:List Int×List Int×Int,aQ Tryz.prog (nav [1,1,1,1,1,0,1,0,0] (aj Tryz.f212)) (fun (σ:List Int×List Int×Int)=>Tn a x0 σ.1 σ.2.1 σ.2.2) (fun (_:List Int×List Int)=>(.exit 0)) (fun (y:List Int×List Int)=>Rx a x0 y.1 y.2) σ (jv a x0 σ.1 σ.2.1 σ.2.2)
 | (q,r,i)=>aJ 1010 (.br 100000021 (.call [] [] (wQ q 2 0) .no fun x1=>.call [] [] (Yp a i) .no fun x2=>.call [] [] (wQ r 2 x2) .no fun x3=>.call [] [] (wG x3 x0) .no fun x4=>.br 100000034 (.call [] [] (Dq x3 x0) .no fun x5=>.call [] [] (wQ x1 1 1) .no fun x6=>.ps 1000003 [.k [0,7,8,9,10] []] (.ret (.inl (x6,x5.1,i-1)))) (.ps 1000003 [.k [0,7,8,9,10] []] (.ret (.inl (x1,x3,i-1))))) (.ps 1000003 [.k [8,9] []] (.ret (.inr (q,r)))))
def Em (a:List Int) (x0:List Int) (q:List Int) (r:List Int) (i:Int):Option (List Int×List Int):=aK (fun (σ:List Int×List Int×Int)=>jv a x0 σ.1 σ.2.1 σ.2.2) FU (q,r,i)
def UJ (a:List Int) (x0:List Int) (q:List Int) (r:List Int) (i:Int):=
 bn (UY a x0) (fun _ h=>by cases h) FU (q,r,i)
def xM (a:List Int) (b:List Int):Option (List Int×List Int×Bool):=(fQ b).bind fun x0=>bif ((x0.length:Nat):Int)==0 then some ([],[],false) else bif inK .i64 (32*((a.length:Nat):Int)) then bif inK .i64 ((32*((a.length:Nat):Int))-1) then (Em a x0 [] [] ((32*((a.length:Nat):Int))-1)).bind fun x1=>some (x1.1,x1.2,true) else none else none
theorem Dj (a:List Int) (b:List Int):∀r,xM a b=some r->au Tryz.prog 212 0 [SL (cI .u32) a,SL (cI .u32) b] [] (.tup [SL (cI .u32) r.1,SL (cI .u32) r.2.1,B r.2.2]) []:=
 ay 10 (.call [] [] (iR b) .no fun x0=>.op 20002 (.ln (cI .u32) x0) (.br 100000015 (.ps 1000003 [.n 4,.n 5] (.ret ([],[],false))) (.op 60002 (.ln (cI .u32) a) (.ps 1000001 [.n 8,.n 9,.k [0,7,8,9,10] []] (.lp1 0 (UJ a x0 [] [] ((32*((a.length:Nat):Int))-1)) fun x1=>.ret (x1.1,x1.2,true)))))) Tryz.func212
def qp (a:List Int) (d:Int):Option (List Int×Int×Bool):=(xM a [d]).bind fun x0=>bif ((x0.2.1.length:Nat):Int)==0 then some (x0.1,0,x0.2.2) else bif decide (0<x0.2.1.length) then some (x0.1,nth x0.2.1 0,x0.2.2) else none
theorem Uk (a:List Int) (d:Int):∀r,qp a d=some r->au Tryz.prog 264 0 [SL (cI .u32) a,NI .u32 d] [] (.tup [SL (cI .u32) r.1,NI .u32 r.2.1,B r.2.2]) []:=
 ay 10 (.call [] [] (Dj a [d]) .no fun x0=>.op 20002 (.ln (cI .u32) x0.2.1) (.br 100000020 (.ret (x0.1,0,x0.2.2)) (.op 40004 (.el (cI .u32) x0.2.1 (.up 0)) (.ret (x0.1,nth x0.2.1 0,x0.2.2))))) Tryz.func264
def Uw (a1:List Int) (n:Nat):St:=⟨25,0,[(0,SL (cI .u32) a1),(4,I ((n:Nat):Int))],[]⟩
def TW (a1:List Int) (n:Nat):St:=⟨25,0,[(0,SL (cI .u32) a1),(4,I ((n:Nat):Int))],[]⟩
def jy (a1:List Int) (n:Nat):Option ((List Int×Nat)⊕(List Int×Nat)):=bif decide (((a1.length:Nat):Int)>0) then bif decide (0<a1.length) then bif decide (0<=nth a1 0) then bif decide (0<2) then bif ((nth a1 0)%2)==0 then (qp a1 2).bind fun x0=>bif inK .i64 (((n:Nat):Int)+1) then some (.inl (x0.1,n+1)) else none else some (.inr (a1,n)) else none else none else none else some (.inr (a1,n))
theorem QG:∀σ:List Int×Nat,aQ Tryz.prog (nav [1,1,0,0,0] (aj Tryz.f243)) (fun (σ:List Int×Nat)=>Uw σ.1 σ.2) (fun (_:List Int×Nat)=>(.exit 0)) (fun (y:List Int×Nat)=>TW y.1 y.2) σ (jy σ.1 σ.2)
 | (a1,n)=>aJ 1010 (.op 20002 (.ln (cI .u32) a1) (.br 20008 (.op 20010 (.el (cI .u32) a1 (.up 0)) (.br 100000014 (.call [] [] (Uk a1 2) .no fun x0=>.ps 1000003 [.k [0,4] []] (.ret (.inl (x0.1,n+1)))) (.ps 1000003 [.k [0,4] []] (.ret (.inr (a1,n)))))) (.ps 1000003 [.k [0,4] []] (.ret (.inr (a1,n))))))
def Ou (a1:List Int) (n:Nat):Option (List Int×Nat):=aK (fun (σ:List Int×Nat)=>jy σ.1 σ.2) FU (a1,n)
def UF (a1:List Int) (n:Nat):=
 bn (QG) (fun _ h=>by cases h) FU (a1,n)
def tK (a:List Int):Option (List Int×Int):=(Ou a 0).bind fun x0=>some (x0.1,((x0.2:Nat):Int))
theorem wK (a:List Int):∀r,tK a=some r->au Tryz.prog 243 0 [SL (cI .u32) a] [] (.tup [SL (cI .u32) r.1,I r.2]) []:=
 ay 10 (.ps 1000001 [.k [0,4] []] (.lp1 0 (UF a 0) fun x0=>.ret (x0.1,((x0.2:Nat):Int)))) Tryz.func243
def Uz (x2:List Int×Int) (x3:List Int×Int) (x:List Int) (y1:List Int):St:=⟨59,0,[(5,SL (cI .u32) x),(6,SL (cI .u32) y1),(7,I x2.2),(8,I x3.2)],[]⟩
def Sl (x2:List Int×Int) (x3:List Int×Int) (x:List Int):St:=⟨59,0,[(5,SL (cI .u32) x),(7,I x2.2),(8,I x3.2)],[]⟩
def lD (x2:List Int×Int) (x3:List Int×Int) (x:List Int) (y1:List Int):Option ((List Int×List Int)⊕(List Int)):=(qx x y1).bind fun x4=>bif x4 != 0 then (qx x y1).bind fun x5=>bif decide (x5<0) then (qL y1 x).bind fun x6=>(tK x6.1).bind fun x7=>some (.inl (x7.1,x)) else (qL x y1).bind fun x6=>(tK x6.1).bind fun x7=>some (.inl (x7.1,y1)) else some (.inr x)
theorem Tt (x2:List Int×Int) (x3:List Int×Int):∀σ:List Int×List Int,aQ Tryz.prog (nav [1,1,1,1,1,1,1,0,0,0] (aj Tryz.f211)) (fun (σ:List Int×List Int)=>Uz x2 x3 σ.1 σ.2) (fun (_:List Int)=>(.exit 0)) (fun (y:List Int)=>Sl x2 x3 y) σ (lD x2 x3 σ.1 σ.2)
 | (x,y1)=>aJ 1010 (.call [] [] (wG x y1) .no fun x4=>.br 100000035 (.call [] [] (wG x y1) .no fun x5=>.br 100000039 (.call [] [] (Dq y1 x) .no fun x6=>.call [] [] (wK x6.1) .no fun x7=>.ps 1000003 [.k [5,6,7,8] []] (.ret (.inl (x7.1,x)))) (.call [] [] (Dq x y1) .no fun x6=>.call [] [] (wK x6.1) .no fun x7=>.ps 1000003 [.k [5,6,7,8] []] (.ret (.inl (x7.1,y1))))) (.ps 1000003 [.k [5,7,8] []] (.ret (.inr x))))
def NP (x2:List Int×Int) (x3:List Int×Int) (x:List Int) (y1:List Int):Option (List Int):=aK (fun (σ:List Int×List Int)=>lD x2 x3 σ.1 σ.2) FU (x,y1)
def SV (x2:List Int×Int) (x3:List Int×Int) (x:List Int) (y1:List Int):=
 bn (Tt x2 x3) (fun _ h=>by cases h) FU (x,y1)
def Lm (n:Int) (out:List Int) (i:Nat):St:=⟨26,0,[(1,I n),(5,SL (cI .u32) out),(6,I ((i:Nat):Int))],[]⟩
def Lr (n:Int) (out:List Int):St:=⟨26,0,[(5,SL (cI .u32) out)],[]⟩
def kZ (n:Int) (out:List Int) (i:Nat):Option ((List Int×Nat)⊕(List Int)):=bif decide (((i:Nat):Int)<n) then bif decide (((i:Nat):Int)<100000) then bif decide (((out.length:Nat):Int)>0) then (iZ out 2 0).bind fun x1=>bif inK .i64 (((i:Nat):Int)+1) then some (.inl (x1,i+1)) else none else some (.inr out) else some (.inr out) else some (.inr out)
theorem MB (n:Int):∀σ:List Int×Nat,aQ Tryz.prog (nav [1,1,0,1,0,0] (aj Tryz.f244)) (fun (σ:List Int×Nat)=>Lm n σ.1 σ.2) (fun (_:List Int)=>(.exit 0)) (fun (y:List Int)=>Lr n y) σ (kZ n σ.1 σ.2)
 | (out,i)=>aJ 1010 (.br 30008 (.br 30016 (.op 30018 (.ln (cI .u32) out) (.br 100000020 (.call [] [] (wQ out 2 0) .no fun x1=>.ps 1000003 [.k [1,5,6] []] (.ret (.inl (x1,i+1)))) (.ps 1000003 [.k [5] []] (.ret (.inr out))))) (.ps 1000003 [.k [5] []] (.ret (.inr out)))) (.ps 1000003 [.k [5] []] (.ret (.inr out))))
def Ah (n:Int) (out:List Int) (i:Nat):Option (List Int):=aK (fun (σ:List Int×Nat)=>kZ n σ.1 σ.2) FU (out,i)
def LD (n:Int) (out:List Int) (i:Nat):=
 bn (MB n) (fun _ h=>by cases h) FU (out,i)
def zf (a:List Int) (n:Int):Option (List Int):=(fQ a).bind fun x0=>(Ah n x0 0).bind fun x1=>some x1
theorem UN (a:List Int) (n:Int):∀r,zf a n=some r->au Tryz.prog 244 0 [SL (cI .u32) a,I n] [] (SL (cI .u32) r) []:=
 ay 10 (.call [] [] (iR a) .no fun x0=>.ps 1000001 [.k [1,5,6] []] (.lp1 0 (LD n x0 0) fun x1=>.ret x1)) Tryz.func244
def xO (a:List Int) (b:List Int):Option (List Int):=(fQ a).bind fun x0=>(fQ b).bind fun x1=>bif ((x0.length:Nat):Int)==0 then some x1 else bif ((x1.length:Nat):Int)==0 then some x0 else (tK x0).bind fun x2=>(tK x1).bind fun x3=>(NP x2 x3 x2.1 x3.1).bind fun x4=>(zf x4 (mnI x2.2 x3.2)).bind fun x5=>some x5
theorem WV (a:List Int) (b:List Int):∀r,xO a b=some r->au Tryz.prog 211 0 [SL (cI .u32) a,SL (cI .u32) b] [] (SL (cI .u32) r) []:=
 ay 10 (.call [] [] (iR a) .no fun x0=>.call [] [] (iR b) .no fun x1=>.op 30002 (.ln (cI .u32) x0) (.br 100000016 (.ret x1) (.op 50002 (.ln (cI .u32) x1) (.br 100000020 (.ret x0) (.call [] [] (wK x0) .no fun x2=>.call [] [] (wK x1) .no fun x3=>.ps 1000001 [.k [5,6,7,8] []] (.lp1 0 (SV x2 x3 x2.1 x3.1) fun x4=>.call [] [] (UN x4 (mnI x2.2 x3.2)) .no fun x5=>.ret x5)))))) Tryz.func211
def rJ (a:List Int) (b:List Int):Option (List Int×List Int×Bool):=(fQ b).bind fun x0=>bif ((x0.length:Nat):Int)==0 then some ([],[],false) else (xO a x0).bind fun x1=>(xM a x1).bind fun x2=>(xM x0 x1).bind fun x3=>some (x2.1,x3.1,true)
theorem Pm (a:List Int) (b:List Int):∀r,rJ a b=some r->au Tryz.prog 162 0 [SL (cI .u32) a,SL (cI .u32) b] [] (.tup [SL (cI .u32) r.1,SL (cI .u32) r.2.1,B r.2.2]) []:=
 ay 10 (.call [] [] (iR b) .no fun x0=>.op 20002 (.ln (cI .u32) x0) (.br 100000016 (.ps 1000003 [.n 4,.n 5] (.ret ([],[],false))) (.call [] [] (WV a x0) .no fun x1=>.call [] [] (Dj a x1) .no fun x2=>.call [] [] (Dj x0 x1) .no fun x3=>.ret (x2.1,x3.1,true)))) Tryz.func162
def jV (n:Whole) (d:List Int):Option Rat:=(rJ n.Mag d).bind fun x0=>bif !x0.2.2 then some (Rat.mk false [] [1]) else bif ((x0.1.length:Nat):Int)==0 then some (Rat.mk false [] [1]) else some (Rat.mk n.Neg x0.1 x0.2.1)
theorem DL (n:Whole) (d:List Int):∀r,jV n d=some r->au Tryz.prog 112 0 [AG Whole.D n,SL (cI .u32) d] [] (AG Rat.D r) []:=
 ay 10 (.call [] [] (Pm n.Mag d) .no fun x0=>.br 20006 (.ps 1000003 [.b 11] (.ret (Rat.mk false [] [1]))) (.op 20008 (.ln (cI .u32) x0.1) (.br 100000022 (.ps 1000003 [.b 11] (.ret (Rat.mk false [] [1]))) (.ret (Rat.mk n.Neg x0.1 x0.2.1))))) Tryz.func112
def uY (n:Int) (d:Int):Option Rat:=bif inK .i64 n then (AQ n).bind fun x0=>bif inK .u32 d then (jV x0 [IntKind.wrap .u32 (d+1)]).bind fun x1=>some x1 else none else none
theorem qZ (n:Int) (d:Int):∀r,uY n d=some r->au Tryz.prog 72 0 [NI .i8 n,NI .u8 d] [] (AG Rat.D r) []:=
 ay 10 (.call [] [] (Ot n) .no fun x0=>.call [] [] (DL x0 [IntKind.wrap .u32 (d+1)]) .no fun x1=>.ret x1) Tryz.func72
def Jg (tA:Int) (a:Int) (a1:Int) (a2:List Link) (i:Nat) (i1:Int) (i2:Int) (i3:Nat) (o2:List Edge):St:=⟨111,0,[(3,SL Link.D a2),(8,.ptr 10 0 0),(9,.ptr 11 0 0),(10,I ((1+(tA%3))+(a%6))),(11,I ((i:Nat):Int)),(12,I i1),(13,I i2),(14,I ((i3:Nat):Int))],[(10,BOX [I 0,I 0,I 0,jD,jD]),(11,BOX [I (1+(tA%3)),I (a%6),I (1+(a1%3)),iO 100006 o2,jD]),(100006,jg 5 Edge.D o2)]⟩
def KG (tA:Int) (a:Int) (a1:Int) (a2:List Link) (i:Nat) (i1:Int) (i2:Int) (o2:List Edge):St:=⟨111,0,[(3,SL Link.D a2),(8,.ptr 10 0 0),(9,.ptr 11 0 0),(10,I ((1+(tA%3))+(a%6))),(11,I ((i:Nat):Int)),(12,I i1),(13,I i2)],[(10,BOX [I 0,I 0,I 0,jD,jD]),(11,BOX [I (1+(tA%3)),I (a%6),I (1+(a1%3)),iO 100006 o2,jD]),(100006,jg 5 Edge.D o2)]⟩
def kD (tA:Int) (a:Int) (a1:Int) (a2:List Link) (i:Nat) (i1:Int) (i2:Int) (i3:Nat) (o2:List Edge):Option ((Int×Nat×List Edge)⊕(Int×List Edge)):=bif decide (((i3:Nat):Int)<((a2.length:Nat):Int)) then bif decide (i3<a2.length) then bif inK .i64 ((nth a2 i3).From) then bif decide (0<=(nth a2 i3).From) then bif decide (0<(1+(tA%3))+(a%6)) then bif (((nth a2 i3).From)%((1+(tA%3))+(a%6)))==((i:Nat):Int) then bif decide (i3<a2.length) then bif inK .i64 ((nth a2 i3).To) then bif inK .i64 ((a%6)+(1+(a1%3))) then bif decide (0<=(nth a2 i3).To) then bif decide (0<(a%6)+(1+(a1%3))) then bif inK .i64 ((1+(tA%3))+(((nth a2 i3).To)%((a%6)+(1+(a1%3))))) then bif ((1+(tA%3))+(((nth a2 i3).To)%((a%6)+(1+(a1%3)))))==i1 then bif decide (((i:Nat):Int)<i1) then bif inK .i64 (((i3:Nat):Int)+1) then some (.inl (((i3:Nat):Int),i3+1,o2)) else none else bif inK .i64 (((i3:Nat):Int)+1) then some (.inl (i2,i3+1,o2)) else none else bif inK .i64 (((i3:Nat):Int)+1) then some (.inl (i2,i3+1,o2)) else none else none else none else none else none else none else none else bif inK .i64 (((i3:Nat):Int)+1) then some (.inl (i2,i3+1,o2)) else none else none else none else none else none else some (.inr (i2,o2))
theorem JX (tA:Int) (a:Int) (a1:Int) (a2:List Link) (i:Nat) (i1:Int):∀σ:Int×Nat×List Edge,aQ Tryz.prog (nav [1,1,1,0,1,0,0,1,0,0,1,0,0,1,0,0,1,0,1,0,0] (aj Tryz.f20)) (fun (σ:Int×Nat×List Edge)=>Jg tA a a1 a2 i i1 σ.1 σ.2.1 σ.2.2) (fun (_:Int×List Edge)=>(.exit 4)) (fun (y:Int×List Edge)=>KG tA a a1 a2 i i1 y.1 y.2) σ (kD tA a a1 a2 i i1 σ.1 σ.2.1 σ.2.2)
 | (i2,i3,[])=>aJ 3010 (.op 110004 (.ln Link.D a2) (.br 100000050 (.op 130004 (.el Link.D a2 (.up i3)) (.br 130022 (.op 130030 (.el Link.D a2 (.up i3)) (.br 130060 (.br 100000086 (.ps 1000003 [.k [3,8,9,10,11,12,13,14] [10,11,100006]] (.ret (.inl (((i3:Nat):Int),i3+1,[])))) (.ps 1000003 [.k [3,8,9,10,11,12,13,14] [10,11,100006]] (.ret (.inl (i2,i3+1,[]))))) (.ps 1000003 [.k [3,8,9,10,11,12,13,14] [10,11,100006]] (.ret (.inl (i2,i3+1,[])))))) (.ps 1000003 [.k [3,8,9,10,11,12,13,14] [10,11,100006]] (.ret (.inl (i2,i3+1,[])))))) (.ps 1000003 [.k [3,8,9,10,11,12,13] [10,11,100006]] (.ret (.inr (i2,[]))))))
 | (i2,i3,adM::aeb)=>aJ 3010 (.op 110004 (.ln Link.D a2) (.br 100000050 (.op 130004 (.el Link.D a2 (.up i3)) (.br 130022 (.op 130030 (.el Link.D a2 (.up i3)) (.br 130060 (.br 100000086 (.ps 1000003 [.k [3,8,9,10,11,12,13,14] [10,11,100006]] (.ret (.inl (((i3:Nat):Int),i3+1,(adM::aeb))))) (.ps 1000003 [.k [3,8,9,10,11,12,13,14] [10,11,100006]] (.ret (.inl (i2,i3+1,(adM::aeb)))))) (.ps 1000003 [.k [3,8,9,10,11,12,13,14] [10,11,100006]] (.ret (.inl (i2,i3+1,(adM::aeb))))))) (.ps 1000003 [.k [3,8,9,10,11,12,13,14] [10,11,100006]] (.ret (.inl (i2,i3+1,(adM::aeb))))))) (.ps 1000003 [.k [3,8,9,10,11,12,13] [10,11,100006]] (.ret (.inr (i2,(adM::aeb)))))))
def nU (tA:Int) (a:Int) (a1:Int) (a2:List Link) (i:Nat) (i1:Int) (i2:Int) (i3:Nat) (o2:List Edge):Option (Int×List Edge):=aK (fun (σ:Int×Nat×List Edge)=>kD tA a a1 a2 i i1 σ.1 σ.2.1 σ.2.2) FU (i2,i3,o2)
def yZ (tA:Int) (a:Int) (a1:Int) (a2:List Link) (i:Nat) (i1:Int) (i2:Int) (i3:Nat) (o2:List Edge):=
 bn (JX tA a a1 a2 i i1) (fun _ h=>by cases h) FU (i2,i3,o2)
def Jv (tA:Int) (a:Int) (a1:Int) (a2:List Link) (i:Nat) (i1:Int) (o1:List Edge):St:=⟨111,0,[(3,SL Link.D a2),(8,.ptr 10 0 0),(9,.ptr 11 0 0),(10,I ((1+(tA%3))+(a%6))),(11,I ((i:Nat):Int)),(12,I i1)],[(10,BOX [I 0,I 0,I 0,jD,jD]),(11,BOX [I (1+(tA%3)),I (a%6),I (1+(a1%3)),iO 100006 o1,jD]),(100006,jg 5 Edge.D o1)]⟩
def Kr (tA:Int) (a:Int) (a1:Int) (a2:List Link) (i:Nat) (o1:List Edge):St:=⟨111,0,[(3,SL Link.D a2),(8,.ptr 10 0 0),(9,.ptr 11 0 0),(10,I ((1+(tA%3))+(a%6))),(11,I ((i:Nat):Int))],[(10,BOX [I 0,I 0,I 0,jD,jD]),(11,BOX [I (1+(tA%3)),I (a%6),I (1+(a1%3)),iO 100006 o1,jD]),(100006,jg 5 Edge.D o1)]⟩
def iy (tA:Int) (a:Int) (a1:Int) (a2:List Link) (i:Nat) (i1:Int) (o1:List Edge):Option ((Int×List Edge)⊕(List Edge)):=bif inK .i64 (((1+(tA%3))+(a%6))+(1+(a1%3))) then bif decide (i1<(((1+(tA%3))+(a%6))+(1+(a1%3)))) then (nU tA a a1 a2 i i1 (-1) 0 o1).bind fun x0=>bif x0.2.isEmpty then bif decide (x0.1>=0) then bif decide (0<=x0.1) then bif decide (x0.1.toNat<a2.length) then bif decide (0<=x0.1) then bif decide (x0.1.toNat<a2.length) then bif decide (0<=(nth a2 x0.1.toNat).D_) then bif decide (0<3) then (uY ((nth a2 x0.1.toNat).N) (((nth a2 x0.1.toNat).D_)%3)).bind fun x1=>bif inK .i64 (i1+1) then some (.inl (i1+1,[Edge.mk ((i:Nat):Int) i1 x1])) else none else none else none else none else none else none else none else bif inK .i64 (i1+1) then some (.inl (i1+1,[])) else none else bif decide (x0.1>=0) then bif decide (0<=x0.1) then bif decide (x0.1.toNat<a2.length) then bif decide (0<=x0.1) then bif decide (x0.1.toNat<a2.length) then bif decide (0<=(nth a2 x0.1.toNat).D_) then bif decide (0<3) then (uY ((nth a2 x0.1.toNat).N) (((nth a2 x0.1.toNat).D_)%3)).bind fun x1=>bif decide (x0.2.length+1<=2147483648) then bif inK .i64 (i1+1) then some (.inl (i1+1,x0.2++[Edge.mk ((i:Nat):Int) i1 x1])) else none else none else none else none else none else none else none else none else bif inK .i64 (i1+1) then bif !x0.2.isEmpty then some (.inl (i1+1,x0.2)) else none else none else some (.inr o1) else none
theorem Kz (tA:Int) (a:Int) (a1:Int) (a2:List Link) (i:Nat):∀σ:Int×List Edge,aQ Tryz.prog (nav [1,1,1,0,1,0,0,1,0,0,1,0,0] (aj Tryz.f20)) (fun (σ:Int×List Edge)=>Jv tA a a1 a2 i σ.1 σ.2) (fun (_:List Edge)=>(.exit 2)) (fun (y:List Edge)=>Kr tA a a1 a2 i y) σ (iy tA a a1 a2 i σ.1 σ.2)
 | (i1,[])=>aJ 2010 (.br 100000044 (.ps 1000001 [.k [3,8,9,10,11,12,13,14] [10,11,100006]] (.lp1 0 (yZ tA a a1 a2 i i1 (-1) 0 []) fun x0=>.cb 9 11 3 100006 5 Edge.D x0.2 (.ps 9 [.k [3,8,9,10,11,12,13] [10,11]] (.br 100000089 (.op 160012 (.el Link.D a2 .dn) (.op 160022 (.el Link.D a2 .dn) (.call [] [] (qZ ((nth a2 x0.1.toNat).N) (((nth a2 x0.1.toNat).D_)%3)) .no fun x1=>.op 160036 (.ap Edge.D [] [Edge.mk ((i:Nat):Int) i1 x1] 5 fun _=>⟨rfl,rfl⟩) (.ps 1000003 [.k [3,8,9,10,11,12] [10,11,2011],.m 2011 100006] (.ret (.inl (i1+1,[Edge.mk ((i:Nat):Int) i1 x1]))))))) (.ps 1000003 [.k [3,8,9,10,11,12] [10,11,100006]] (.ret (.inl (i1+1,[])))))) (.ps 9 [.k [3,8,9,10,11,12,13] [10,11,100006]] (.br 100000089 (.op 160012 (.el Link.D a2 .dn) (.op 160022 (.el Link.D a2 .dn) (.call [] [] (qZ ((nth a2 x0.1.toNat).N) (((nth a2 x0.1.toNat).D_)%3)) .no fun x1=>.op 160036 (.ap Edge.D x0.2 [Edge.mk ((i:Nat):Int) i1 x1] 5 fun _=>⟨rfl,rfl⟩) (.ps 1000003 [.k [3,8,9,10,11,12] [10,11,2011],.m 2011 100006] (.oq 1000003 11 3 100006 5 Edge.D (x0.2++[Edge.mk ((i:Nat):Int) i1 x1]) (.yes (by simp)) (.ps 1000003 [.k [3,8,9,10,11,12] [10,11,100006]] (.ret (.inl (i1+1,x0.2++[Edge.mk ((i:Nat):Int) i1 x1]))))))))) (.ps 1000003 [.k [3,8,9,10,11,12] [10,11,100006]] (.oq 1000003 11 3 100006 5 Edge.D x0.2 .no (.ps 1000003 [.k [3,8,9,10,11,12] [10,11,100006]] (.ret (.inl (i1+1,x0.2)))))))))) (.ps 1000003 [.k [3,8,9,10,11] [10,11,100006]] (.ret (.inr []))))
 | (i1,aik::aiz)=>aJ 2010 (.br 100000044 (.ps 1000001 [.k [3,8,9,10,11,12,13,14] [10,11,100006]] (.lp1 0 (yZ tA a a1 a2 i i1 (-1) 0 (aik::aiz)) fun x0=>.cb 9 11 3 100006 5 Edge.D x0.2 (.ps 9 [.k [3,8,9,10,11,12,13] [10,11]] (.br 100000089 (.op 160012 (.el Link.D a2 .dn) (.op 160022 (.el Link.D a2 .dn) (.call [] [] (qZ ((nth a2 x0.1.toNat).N) (((nth a2 x0.1.toNat).D_)%3)) .no fun x1=>.op 160036 (.ap Edge.D [] [Edge.mk ((i:Nat):Int) i1 x1] 5 fun _=>⟨rfl,rfl⟩) (.ps 1000003 [.k [3,8,9,10,11,12] [10,11,2011],.m 2011 100006] (.ret (.inl (i1+1,[Edge.mk ((i:Nat):Int) i1 x1]))))))) (.ps 1000003 [.k [3,8,9,10,11,12] [10,11,100006]] (.ret (.inl (i1+1,[])))))) (.ps 9 [.k [3,8,9,10,11,12,13] [10,11,100006]] (.br 100000089 (.op 160012 (.el Link.D a2 .dn) (.op 160022 (.el Link.D a2 .dn) (.call [] [] (qZ ((nth a2 x0.1.toNat).N) (((nth a2 x0.1.toNat).D_)%3)) .no fun x1=>.op 160036 (.ap Edge.D x0.2 [Edge.mk ((i:Nat):Int) i1 x1] 5 fun _=>⟨rfl,rfl⟩) (.ps 1000003 [.k [3,8,9,10,11,12] [10,11,2011],.m 2011 100006] (.oq 1000003 11 3 100006 5 Edge.D (x0.2++[Edge.mk ((i:Nat):Int) i1 x1]) (.yes (by simp)) (.ps 1000003 [.k [3,8,9,10,11,12] [10,11,100006]] (.ret (.inl (i1+1,x0.2++[Edge.mk ((i:Nat):Int) i1 x1]))))))))) (.ps 1000003 [.k [3,8,9,10,11,12] [10,11,100006]] (.oq 1000003 11 3 100006 5 Edge.D x0.2 .no (.ps 1000003 [.k [3,8,9,10,11,12] [10,11,100006]] (.ret (.inl (i1+1,x0.2)))))))))) (.ps 1000003 [.k [3,8,9,10,11] [10,11,100006]] (.ret (.inr (aik::aiz)))))
def yu (tA:Int) (a:Int) (a1:Int) (a2:List Link) (i:Nat) (i1:Int) (o1:List Edge):Option (List Edge):=aK (fun (σ:Int×List Edge)=>iy tA a a1 a2 i σ.1 σ.2) FU (i1,o1)
def zH (tA:Int) (a:Int) (a1:Int) (a2:List Link) (i:Nat) (i1:Int) (o1:List Edge):=
 bn (Kz tA a a1 a2 i) (fun _ h=>by cases h) FU (i1,o1)
def O7 (tA:Int) (a:Int) (a1:Int) (a2:List Link) (i:Nat) (o:List Edge):St:=⟨111,0,[(3,SL Link.D a2),(8,.ptr 10 0 0),(9,.ptr 11 0 0),(10,I ((1+(tA%3))+(a%6))),(11,I ((i:Nat):Int))],[(10,BOX [I 0,I 0,I 0,jD,jD]),(11,BOX [I (1+(tA%3)),I (a%6),I (1+(a1%3)),iO 100006 o,jD]),(100006,jg 5 Edge.D o)]⟩
def O3 (tA:Int) (a:Int) (a1:Int) (a2:List Link) (o:List Edge):St:=⟨111,0,[(8,.ptr 10 0 0),(9,.ptr 11 0 0)],[(10,BOX [I 0,I 0,I 0,jD,jD]),(11,BOX [I (1+(tA%3)),I (a%6),I (1+(a1%3)),iO 100006 o,jD]),(100006,jg 5 Edge.D o)]⟩
def mQ (tA:Int) (a:Int) (a1:Int) (a2:List Link) (i:Nat) (o:List Edge):Option ((Nat×List Edge)⊕(List Edge)):=bif decide (((i:Nat):Int)<((1+(tA%3))+(a%6))) then (yu tA a a1 a2 i (1+(tA%3)) o).bind fun x0=>bif inK .i64 (((i:Nat):Int)+1) then some (.inl (i+1,x0)) else none else some (.inr o)
theorem OY (tA:Int) (a:Int) (a1:Int) (a2:List Link):∀σ:Nat×List Edge,aQ Tryz.prog (nav [1,1,1,0,1,0,0] (aj Tryz.f20)) (fun (σ:Nat×List Edge)=>O7 tA a a1 a2 σ.1 σ.2) (fun (_:List Edge)=>(.exit 0)) (fun (y:List Edge)=>O3 tA a a1 a2 y) σ (mQ tA a a1 a2 σ.1 σ.2)
 | (i,[])=>aJ 1010 (.br 100000034 (.ps 1000001 [.k [3,8,9,10,11,12] [10,11,100006]] (.lp1 0 (zH tA a a1 a2 i (1+(tA%3)) []) fun x0=>.ps 1000003 [.k [3,8,9,10,11] [10,11,100006]] (.ret (.inl (i+1,x0))))) (.ps 1000003 [.k [8,9] [10,11,100006]] (.ret (.inr []))))
 | (i,o_h::o_t)=>aJ 1010 (.br 100000034 (.ps 1000001 [.k [3,8,9,10,11,12] [10,11,100006]] (.lp1 0 (zH tA a a1 a2 i (1+(tA%3)) (o_h::o_t)) fun x0=>.ps 1000003 [.k [3,8,9,10,11] [10,11,100006]] (.ret (.inl (i+1,x0))))) (.ps 1000003 [.k [8,9] [10,11,100006]] (.ret (.inr (o_h::o_t)))))
def Ce (tA:Int) (a:Int) (a1:Int) (a2:List Link) (i:Nat) (o:List Edge):Option (List Edge):=aK (fun (σ:Nat×List Edge)=>mQ tA a a1 a2 σ.1 σ.2) FU (i,o)
def OO (tA:Int) (a:Int) (a1:Int) (a2:List Link) (i:Nat) (o:List Edge):=
 bn (OY tA a a1 a2) (fun _ h=>by cases h) FU (i,o)
def yD (tA:Int) (a:Int) (a1:Int) (a2:List Link):Option Graph:=bif decide (0<=tA) then bif decide (0<3) then bif inK .i64 (tA%3) then bif inK .i64 (1+(tA%3)) then bif decide (0<=a) then bif decide (0<6) then bif inK .i64 (a%6) then bif decide (0<=a1) then bif decide (0<3) then bif inK .i64 (a1%3) then bif inK .i64 (1+(a1%3)) then bif inK .i64 ((1+(tA%3))+(a%6)) then (Ce tA a a1 a2 0 []).bind fun x0=>some (Graph.mk (1+(tA%3)) (a%6) (1+(a1%3)) x0 []) else none else none else none else none else none else none else none else none else none else none else none else none
theorem VL (tA:Int) (a:Int) (a1:Int) (a2:List Link):∀r,yD tA a a1 a2=some r->au Tryz.prog 20 0 [NI .u8 tA,NI .u8 a,NI .u8 a1,SL Link.D a2] [] (AG Graph.D r) []:=
 ay 10 (.ps 1000001 [.k [3,8,9,10,11] [10,11,100006]] (.lp1 0 (OO tA a a1 a2 0 []) fun x0=>.ob 1 11 3 100006 5 Edge.D x0 (.ps 1 [.k [8,9] [10,11]] (.ps 1000003 [.b 10] (.ret (Graph.mk (1+(tA%3)) (a%6) (1+(a1%3)) x0 [])))))) Tryz.func20
def zB (g:Graph):Option Bool:=bif decide (g.Ins>=1) then bif decide (g.Ins<=40) then bif decide (g.aH>=1) then bif decide (g.aH<=40) then bif decide (g.bQ>=0) then some (decide (g.bQ<=400)) else some false else some false else some false else some false else some false
theorem TU (g:Graph):∀r,zB g=some r->au Tryz.prog 86 0 [AG Graph.D g] [] (B r) []:=
 ay 10 (.br 10008 (.br 10018 (.br 10028 (.br 10038 (.br 10048 (.ret (decide (g.bQ<=400))) (.ret false)) (.ret false)) (.ret false)) (.ret false)) (.ret false)) Tryz.func86
def F9 (g:Graph) (v:Int):Option Bool:=bif decide (v>=g.Ins) then bif inK .i64 (g.Ins+g.bQ) then some (decide (v<(g.Ins+g.bQ))) else none else some false
theorem Xm (g:Graph) (v:Int):∀r,F9 g v=some r->au Tryz.prog 139 0 [AG Graph.D g,I v] [] (B r) []:=
 ay 10 (.br 10010 (.ret (decide (v<(g.Ins+g.bQ)))) (.ret false)) Tryz.func139
def OH (g:Graph) (i:Nat):St:=⟨32,0,[(1,.ptr 10 0 0),(6,SL (cI .i64) g.Gone),(7,I ((g.Gone.length:Nat):Int)),(8,I ((i:Nat):Int))],[(10,BOX [I g.Ins,I g.bQ,I g.aH,SL Edge.D g.ah,SL (cI .i64) g.Gone])]⟩
def P6 (g:Graph):St:=⟨32,0,[(2,B false)],[]⟩
def OQ (g:Graph):St:=⟨32,0,[],[]⟩
def jG (g:Graph) (i:Nat):Option (Nat⊕(Unit⊕Unit)):=bif decide (((i:Nat):Int)<((g.Gone.length:Nat):Int)) then bif decide (i<g.Gone.length) then (F9 g (nth g.Gone i)).bind fun x0=>bif !x0 then some (.inr (.inl ())) else bif decide (((i:Nat):Int)>0) then bif inK .i64 (((i:Nat):Int)-1) then bif decide (0<=((i:Nat):Int)-1) then bif decide ((((i:Nat):Int)-1).toNat<g.Gone.length) then bif decide ((nth g.Gone i)<=(nth g.Gone ((((i:Nat):Int)-1).toNat))) then some (.inr (.inl ())) else bif inK .i64 (((i:Nat):Int)+1) then some (.inl (i+1)) else none else none else none else none else bif inK .i64 (((i:Nat):Int)+1) then some (.inl (i+1)) else none else none else some (.inr (.inr ()))
theorem PI (g:Graph):∀σ:Nat,aQ Tryz.prog (nav [1,0,1,0,0] (aj Tryz.f87)) (fun (σ:Nat)=>OH g σ) (fun (y:Unit⊕Unit)=>bH y (fun _=>.ret) (fun _=>(.exit 0))) (fun (y:Unit⊕Unit)=>bH y (fun y=>P6 g) (fun y=>OQ g)) σ (jG g σ)
 | i=>aJ 1010 (.br 100000009 (.op 30002 (.el (cI .i64) g.Gone (.up i)) (.call [] [] (Xm g (nth g.Gone i)) .no fun x0=>.br 40010 (.ps 1000003 [.k [2] []] (.ret (.inr (.inl ())))) (.br 40016 (.op 40026 (.el (cI .i64) g.Gone .dn) (.br 100000030 (.ps 1000003 [.k [2] []] (.ret (.inr (.inl ())))) (.ps 1000003 [.k [1,6,7,8] [10]] (.ret (.inl (i+1)))))) (.ps 1000003 [.k [1,6,7,8] [10]] (.ret (.inl (i+1))))))) (.ps 1000003 [.k [] []] (.ret (.inr (.inr ())))))
def CW (g:Graph) (i:Nat):Option (Unit⊕Unit):=aK (fun (σ:Nat)=>jG g σ) FU i
def OI (g:Graph) (i:Nat):=
 bn (PI g) (fun y h=>by rcases y with y | y<;>cases h) FU i
def Cb (g:Graph):Option Bool:=(CW g 0).bind fun y_=>bH y_ (fun x0=>some false) (fun x1=>some true)
theorem Vp (g:Graph):∀r,Cb g=some r->au Tryz.prog 87 0 [AG Graph.D g] [] (B r) []:=
 ay 10 (.op 10004 (.ln (cI .i64) g.Gone) (.ps 1000001 [.k [1,6,7,8] [10]] (.lp2 0 (OI g 0) (fun x0=>.ret false) (fun x1=>.ret true)))) Tryz.func87
def yS (s:List Int) (v:Int) (i:Nat):St:=⟨19,0,[(0,SL (cI .i64) s),(1,I v),(7,I ((s.length:Nat):Int)),(8,I ((i:Nat):Int))],[]⟩
def yJ (s:List Int) (v:Int) (i:Nat):St:=⟨19,0,[(4,I ((i:Nat):Int))],[]⟩
def yR (s:List Int) (v:Int):St:=⟨19,0,[],[]⟩
def bM (s:List Int) (v:Int) (i:Nat):Option (Nat⊕(Nat⊕Unit)):=bif decide (((i:Nat):Int)<((s.length:Nat):Int)) then bif decide (i<s.length) then bif v==(nth s i) then some (.inr (.inl i)) else bif inK .i64 (((i:Nat):Int)+1) then some (.inl (i+1)) else none else none else some (.inr (.inr ()))
theorem yM (s:List Int) (v:Int):∀σ:Nat,aQ Tryz.prog (nav [1,0,1,0,0] (aj Tryz.f114)) (fun (σ:Nat)=>yS s v σ) (fun (y:Nat⊕Unit)=>bH y (fun _=>.ret) (fun _=>(.exit 0))) (fun (y:Nat⊕Unit)=>bH y (fun y=>yJ s v y) (fun y=>yR s v)) σ (bM s v σ)
 | i=>aJ 1010 (.br 100000009 (.op 40006 (.el (cI .i64) s (.up i)) (.br 100000016 (.ps 1000003 [.k [4] []] (.ret (.inr (.inl i)))) (.ps 1000003 [.k [0,1,7,8] []] (.ret (.inl (i+1)))))) (.ps 1000003 [.k [] []] (.ret (.inr (.inr ())))))
def fE (s:List Int) (v:Int) (i:Nat):Option (Nat⊕Unit):=aK (fun (σ:Nat)=>bM s v σ) FU i
def yN (s:List Int) (v:Int) (i:Nat):=
 bn (yM s v) (fun y h=>by rcases y with y | y<;>cases h) FU i
def gQ (s:List Int) (v:Int):Option Int:=(fE s v 0).bind fun y_=>bH y_ (fun x0=>some ((x0:Nat):Int)) (fun x1=>some (-1))
theorem AY (s:List Int) (v:Int):∀r,gQ s v=some r->au Tryz.prog 114 0 [SL (cI .i64) s,I v] [] (I r) []:=
 ay 10 (.op 10002 (.ln (cI .i64) s) (.ps 1000001 [.k [0,1,7,8] []] (.lp2 0 (yN s v 0) (fun x0=>.ret ((x0:Nat):Int)) (fun x1=>.ret (-1))))) Tryz.func114
def bF (s:List Int) (v:Int):Option Bool:=(gQ s v).bind fun x0=>some (decide (x0>=0))
theorem dQ (s:List Int) (v:Int):∀r,bF s v=some r->au Tryz.prog 54 0 [SL (cI .i64) s,I v] [] (B r) []:=
 ay 10 (.call [] [] (AY s v) .no fun x0=>.ret (decide (x0>=0))) Tryz.func54
def PZ (vals:List Int) (i:Nat):St:=⟨18,0,[(3,I 0),(6,SL (cI .i64) vals),(7,I ((vals.length:Nat):Int)),(8,I ((i:Nat):Int))],[]⟩
def O4 (vals:List Int) (i:Int):St:=⟨18,0,[(2,I i)],[]⟩
def PW (vals:List Int):St:=⟨18,0,[(3,I 0)],[]⟩
def dJ (vals:List Int) (i:Nat):Option (Nat⊕(Int⊕Unit)):=bif decide (((i:Nat):Int)<((vals.length:Nat):Int)) then bif decide (i<vals.length) then bif (nth vals i) != 0 then some (.inr (.inl (nth vals i))) else bif inK .i64 (((i:Nat):Int)+1) then some (.inl (i+1)) else none else none else some (.inr (.inr ()))
theorem OM (vals:List Int):∀σ:Nat,aQ Tryz.prog (nav [1,1,0,1,0,0] (aj Tryz.f142)) (fun (σ:Nat)=>PZ vals σ) (fun (y:Int⊕Unit)=>bH y (fun _=>.ret) (fun _=>(.exit 0))) (fun (y:Int⊕Unit)=>bH y (fun y=>O4 vals y) (fun y=>PW vals)) σ (dJ vals σ)
 | i=>aJ 1010 (.br 100000009 (.op 40000 (.el (cI .i64) vals (.up i)) (.br 100000014 (.ps 1000003 [.k [2] []] (.ret (.inr (.inl (nth vals i))))) (.ps 1000003 [.k [3,6,7,8] []] (.ret (.inl (i+1)))))) (.ps 1000003 [.k [3] []] (.ret (.inr (.inr ())))))
def Js (vals:List Int) (i:Nat):Option (Int⊕Unit):=aK (fun (σ:Nat)=>dJ vals σ) FU i
def O1 (vals:List Int) (i:Nat):=
 bn (OM vals) (fun y h=>by rcases y with y | y<;>cases h) FU i
def CV (vals:List Int):Option Int:=(Js vals 0).bind fun y_=>bH y_ (fun x0=>some x0) (fun x1=>some 0)
theorem VD (vals:List Int):∀r,CV vals=some r->au Tryz.prog 142 0 [SL (cI .i64) vals] [] (I r) []:=
 ay 10 (.op 20002 (.ln (cI .i64) vals) (.ps 1000001 [.k [3,6,7,8] []] (.lp2 0 (O1 vals 0) (fun x0=>.ret x0) (fun x1=>.ret 0)))) Tryz.func142
def yU (a:Edge) (b:Edge):Option Int:=(cmp_Compare_int a.From b.From).bind fun x0=>(cmp_Compare_int a.To b.To).bind fun x1=>(CV [x0,x1]).bind fun x2=>some x2
theorem UQ (a:Edge) (b:Edge):∀r,yU a b=some r->au Tryz.prog 89 0 [AG Edge.D a,AG Edge.D b] [] (I r) []:=
 ay 10 (.call [] [] (qg a.From b.From) .no fun x0=>.call [] [] (qg a.To b.To) .no fun x1=>.call [] [] (VD [x0,x1]) (.yes fun _=>⟨rfl,trivial⟩) fun x2=>.ret x2) Tryz.func89
def Le (tA:Graph) (i:Nat):St:=⟨95,0,[(1,.ptr 10 0 0),(14,SL Edge.D tA.ah),(15,I ((tA.ah.length:Nat):Int)),(16,I ((i:Nat):Int))],[(10,BOX [I tA.Ins,I tA.bQ,I tA.aH,SL Edge.D tA.ah,SL (cI .i64) tA.Gone])]⟩
def Nb (tA:Graph):St:=⟨95,0,[(2,B false)],[]⟩
def ML (tA:Graph):St:=⟨95,0,[],[]⟩
def bG (tA:Graph) (i:Nat):Option (Nat⊕(Unit⊕Unit)):=bif decide (((i:Nat):Int)<((tA.ah.length:Nat):Int)) then bif decide (i<tA.ah.length) then bif decide (((nth tA.ah i).From)<0) then some (.inr (.inl ())) else bif inK .i64 (tA.Ins+tA.bQ) then bif decide (((nth tA.ah i).From)>=(tA.Ins+tA.bQ)) then some (.inr (.inl ())) else bif decide (((nth tA.ah i).To)<tA.Ins) then some (.inr (.inl ())) else bif inK .i64 (tA.Ins+tA.bQ) then bif inK .i64 ((tA.Ins+tA.bQ)+tA.aH) then bif decide (((nth tA.ah i).To)>=((tA.Ins+tA.bQ)+tA.aH)) then some (.inr (.inl ())) else bif decide (((nth tA.ah i).From)>=((nth tA.ah i).To)) then some (.inr (.inl ())) else (qF ((nth tA.ah i).W)).bind fun x2=>bif !x2 then some (.inr (.inl ())) else bif decide (((i:Nat):Int)>0) then bif inK .i64 (((i:Nat):Int)-1) then bif decide (0<=((i:Nat):Int)-1) then bif decide ((((i:Nat):Int)-1).toNat<tA.ah.length) then (yU (nth tA.ah ((((i:Nat):Int)-1).toNat)) (nth tA.ah i)).bind fun x3=>bif decide (x3>=0) then some (.inr (.inl ())) else (bF tA.Gone ((nth tA.ah i).From)).bind fun x4=>bif x4 then some (.inr (.inl ())) else (bF tA.Gone ((nth tA.ah i).To)).bind fun x5=>bif x5 then some (.inr (.inl ())) else bif inK .i64 (((i:Nat):Int)+1) then some (.inl (i+1)) else none else none else none else none else (bF tA.Gone ((nth tA.ah i).From)).bind fun x3=>bif x3 then some (.inr (.inl ())) else (bF tA.Gone ((nth tA.ah i).To)).bind fun x4=>bif x4 then some (.inr (.inl ())) else bif inK .i64 (((i:Nat):Int)+1) then some (.inl (i+1)) else none else none else none else none else none else some (.inr (.inr ()))
theorem Ls (tA:Graph):∀σ:Nat,aQ Tryz.prog (nav [1,1,0,1,0,0] (aj Tryz.f38)) (fun (σ:Nat)=>Le tA σ) (fun (y:Unit⊕Unit)=>bH y (fun _=>.ret) (fun _=>(.exit 0))) (fun (y:Unit⊕Unit)=>bH y (fun y=>Nb tA) (fun y=>ML tA)) σ (bG tA σ)
 | i=>aJ 1010 (.br 100000017 (.op 50002 (.el Edge.D tA.ah (.up i)) (.br 60008 (.ps 1000003 [.k [2] []] (.ret (.inr (.inl ())))) (.br 60028 (.ps 1000003 [.k [2] []] (.ret (.inr (.inl ())))) (.br 60042 (.ps 1000003 [.k [2] []] (.ret (.inr (.inl ())))) (.br 60068 (.ps 1000003 [.k [2] []] (.ret (.inr (.inl ())))) (.br 100000060 (.ps 1000003 [.k [2] []] (.ret (.inr (.inl ())))) (.call [] [] (yC ((nth tA.ah i).W)) .no fun x2=>.br 80010 (.ps 1000003 [.k [2] []] (.ret (.inr (.inl ())))) (.br 80016 (.op 80024 (.el Edge.D tA.ah .dn) (.call [] [] (UQ (nth tA.ah ((((i:Nat):Int)-1).toNat)) (nth tA.ah i)) .no fun x3=>.br 80040 (.ps 1000003 [.k [2] []] (.ret (.inr (.inl ())))) (.call [] [] (dQ tA.Gone ((nth tA.ah i).From)) .no fun x4=>.br 80054 (.ps 1000003 [.k [2] []] (.ret (.inr (.inl ())))) (.call [] [] (dQ tA.Gone ((nth tA.ah i).To)) .no fun x5=>.br 100000093 (.ps 1000003 [.k [2] []] (.ret (.inr (.inl ())))) (.ps 1000003 [.k [1,14,15,16] [10]] (.ret (.inl (i+1)))))))) (.call [] [] (dQ tA.Gone ((nth tA.ah i).From)) .no fun x3=>.br 80054 (.ps 1000003 [.k [2] []] (.ret (.inr (.inl ())))) (.call [] [] (dQ tA.Gone ((nth tA.ah i).To)) .no fun x4=>.br 100000093 (.ps 1000003 [.k [2] []] (.ret (.inr (.inl ())))) (.ps 1000003 [.k [1,14,15,16] [10]] (.ret (.inl (i+1)))))))))))))) (.ps 1000003 [.k [] []] (.ret (.inr (.inr ())))))
def Ag (tA:Graph) (i:Nat):Option (Unit⊕Unit):=aK (fun (σ:Nat)=>bG tA σ) FU i
def LK (tA:Graph) (i:Nat):=
 bn (Ls tA) (fun y h=>by rcases y with y | y<;>cases h) FU i
def qM (tA:Graph):Option Bool:=(zB tA).bind fun x0=>bif !x0 then some false else (Cb tA).bind fun x1=>bif !x1 then some false else (Ag tA 0).bind fun y_=>bH y_ (fun x2=>some false) (fun x3=>some true)
theorem Fz (tA:Graph):∀r,qM tA=some r->au Tryz.prog 38 0 [AG Graph.D tA] [] (B r) []:=
 ay 10 (.call [] [] (TU tA) .no fun x0=>.br 10008 (.ret false) (.call [] [] (Vp tA) .no fun x1=>.br 100000012 (.ret false) (.op 30004 (.ln Edge.D tA.ah) (.ps 1000001 [.k [1,14,15,16] [10]] (.lp2 0 (LK tA 0) (fun x2=>.ret false) (fun x3=>.ret true)))))) Tryz.func38
end Go.Ab.M
