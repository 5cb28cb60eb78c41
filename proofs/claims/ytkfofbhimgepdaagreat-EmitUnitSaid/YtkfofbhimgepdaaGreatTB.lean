import Derived.Test.YtkfofbhimgepdaaGreatTA
namespace Go.Ab.M
open Go.Proofs
set_option linter.unusedVariables false
set_option linter.defProp false
set_option maxRecDepth 100000
def XR (l:List Int) (n:Int):St:=⟨19,0,[(0,SL K2 l),(3,I n)],[]⟩
def XO (l:List Int) (n:Int):St:=⟨19,0,[(3,I n)],[]⟩
def rD (l:List Int) (n:Int):Option (Int⊕Int):=bif decide (n>0) then G2 (n-1)<|G1 (0<=n-1)<|G1 ((n-1).toNat<l.length)<|bif (nth l ((n-1).toNat))==0 then G2 (n-1)<|some (.inl (n-1)) else some (.inr n) else some (.inr n)
theorem WY (l:List Int):∀σ:Int,aU Tryz.prog (nav [1,1,0,0,0] (aQ Tryz.f124)) (fun (σ:Int)=>XR l σ) (fun (_:Int)=>(.exit 0)) (fun (y:Int)=>XO l y) σ (rD l σ)
 | n=>aJ 1010 (.br 20006 (.op 20012 (.el K2 l .dn) (.br 100000015 (G3 [0,3] [] (.ret (.inl (n-1)))) (G3 [3] [] (.ret (.inr n))))) (G3 [3] [] (.ret (.inr n))))
def U3 (l:List Int) (n:Int):Option Int:=aT (fun (σ:Int)=>rD l σ) FU n
def Xj (l:List Int) (n:Int):=
 bf (WY l) (fun _ h=>by cases h) FU n
def rF (l:List Int):Option Int:=(U3 l (l.length:Int)).bind fun x0=>some x0
theorem oV (l:List Int):∀r,rF l=some r->au Tryz.prog 124 0 [SL K2 l] [] (I r) []:=
 aA 10 (.op 10002 (.ln K2 l) (G4 [0,3] [] (.lp1 0 (Xj l (l.length:Int)) fun x0=>.ret x0))) Tryz.func124
def jM (x:Int):Option Int:=let y3:=((bZ.get! ((IntKind.wrap .u8 x).toNat)).toNat:Int);let y4:=bY .u32 x 16;let y1:=((bZ.get! ((IntKind.wrap .u8 y4).toNat)).toNat:Int);let y5:=bY .u32 y4 8;let y0:=((bZ.get! ((IntKind.wrap .u8 y5).toNat)).toNat:Int);let y6:=bY .u32 x 8;let y2:=((bZ.get! ((IntKind.wrap .u8 y6).toNat)).toNat:Int);bif decide (x>=65536) then bif decide (y4>=256) then G1 (0<=IntKind.wrap .u8 y5)<|G1 ((IntKind.wrap .u8 y5).toNat<bZ.size)<|G2 y0<|G2 ((16+8)+y0)<|some ((16+8)+y0) else G1 (0<=IntKind.wrap .u8 y4)<|G1 ((IntKind.wrap .u8 y4).toNat<bZ.size)<|G2 y1<|G2 (16+y1)<|some (16+y1) else bif decide (x>=256) then G1 (0<=IntKind.wrap .u8 y6)<|G1 ((IntKind.wrap .u8 y6).toNat<bZ.size)<|G2 y2<|G2 ((0+8)+y2)<|some ((0+8)+y2) else G1 (0<=IntKind.wrap .u8 x)<|G1 ((IntKind.wrap .u8 x).toNat<bZ.size)<|G2 y3<|G2 (0+y3)<|some (0+y3)
theorem Lp (x:Int):∀r,jM x=some r->au Tryz.prog 111 0 [NI .u32 x] [] (I r) []:=
 let y0:=bY .u32 x 16;aA 10 (.br 100000004 (.br 100000008 (.op 70004 .wr (.op 70006 (.ch bZ .dn) (.ret ((16+8)+((bZ.get! ((IntKind.wrap .u8 (bY .u32 y0 8)).toNat)).toNat:Int))))) (.op 70004 .wr (.op 70006 (.ch bZ .dn) (.ret (16+((bZ.get! ((IntKind.wrap .u8 y0).toNat)).toNat:Int)))))) (.br 100000008 (.op 70004 .wr (.op 70006 (.ch bZ .dn) (.ret ((0+8)+((bZ.get! ((IntKind.wrap .u8 (bY .u32 x 8)).toNat)).toNat:Int))))) (.op 70004 .wr (.op 70006 (.ch bZ .dn) (.ret (0+((bZ.get! ((IntKind.wrap .u8 x).toNat)).toNat:Int))))))) Tryz.func111
def tC (a:Int):Option Int:=(jM a).bind fun x0=>some x0
theorem MS (a:Int):∀r,tC a=some r->au Tryz.prog 176 0 [NI .u32 a] [] (I r) []:=
 aA 10 (.call [] [] (Lp a) .no fun x0=>.ret x0) Tryz.func176
def jU (a:List Int):Option Int:=(rF a).bind fun x0=>bif x0==0 then some 0 else G2 (x0-1)<|G2 (32*(x0-1))<|G2 (x0-1)<|G1 (0<=x0-1)<|G1 ((x0-1).toNat<a.length)<|(tC (nth a ((x0-1).toNat))).bind fun x1=>G2 ((32*(x0-1))+x1)<|some ((32*(x0-1))+x1)
theorem tN (a:List Int):∀r,jU a=some r->au Tryz.prog 121 0 [SL K2 a] [] (I r) []:=
 aA 10 (.call [] [] (oV a) .no fun x0=>.br 100000007 (.ret 0) (.op 40012 (.el K2 a .dn) (.call [] [] (MS (nth a ((x0-1).toNat))) .no fun x1=>.ret ((32*(x0-1))+x1)))) Tryz.func121
def iy (a:List Int):Option (List Int):=(rF a).bind fun x0=>bif x0==0 then some [] else G1 (0<=x0)<|G1 (x0.toNat<=2147483648)<|some (a.take (List.replicate x0.toNat 0:List Int).length++(List.replicate x0.toNat 0:List Int).drop a.length)
theorem gZ (a:List Int):∀r,iy a=some r->au Tryz.prog 69 0 [SL K2 a] [] (SL K2 r) []:=
 aA 10 (.call [] [] (oV a) .no fun x0=>.br 100000008 (.ps 1000003 [.n 2] (.ret [])) (.op 40002 (.mk K2 0 .dn) (.op 50004 (.ap K2 (List.replicate x0.toNat 0) a 1 fun _=>⟨rfl,rfl⟩) (.ps 1000003 [.z 2] (.ret (a.take (List.replicate x0.toNat 0:List Int).length++(List.replicate x0.toNat 0:List Int).drop a.length)))))) Tryz.func69
def Ub (l:List Int) (n:Int) (i:Nat):St:=⟨18,0,[(3,NI .u64 n),(6,SL K2 l),(7,I (l.length:Int)),(8,I (i:Int))],[]⟩
def U8 (l:List Int) (n:Int):St:=⟨18,0,[(3,NI .u64 n)],[]⟩
def bM (l:List Int) (n:Int) (i:Nat):Option ((Int×Nat)⊕Int):=bif decide ((i:Int)<(l.length:Int)) then G1 (i<l.length)<|bif inK .u64 (nth l i) then G2 ((i:Int)+1)<|some (.inl (IntKind.wrap .u64 (n+(nth l i)),i+1)) else none else some (.inr n)
theorem VH (l:List Int):∀σ:Int×Nat,aU Tryz.prog (nav [1,1,0,1,0,0] (aQ Tryz.f175)) (fun (σ:Int×Nat)=>Ub l σ.1 σ.2) (fun (_:Int)=>(.exit 0)) (fun (y:Int)=>U8 l y) σ (bM l σ.1 σ.2)
 | (n,i)=>aJ 1010 (.br 100000009 (.op 40000 (.el K2 l (.up i)) (G3 [3,6,7,8] [] (.ret (.inl (IntKind.wrap .u64 (n+(nth l i)),i+1))))) (G3 [3] [] (.ret (.inr n))))
def xk (l:List Int) (n:Int) (i:Nat):Option Int:=aT (fun (σ:Int×Nat)=>bM l σ.1 σ.2) FU (n,i)
def TP (l:List Int) (n:Int) (i:Nat):=
 bf (VH l) (fun _ h=>by cases h) FU (n,i)
def kU (l:List Int):Option Int:=(xk l 0 0).bind fun x0=>some x0
theorem yO (l:List Int):∀r,kU l=some r->au Tryz.prog 175 0 [SL K2 l] [] (NI .u64 r) []:=
 aA 10 (.op 20002 (.ln K2 l) (G4 [3,6,7,8] [] (.lp1 0 (TP l 0 0) fun x0=>.ret x0))) Tryz.func175
def vY (n:Int):Option (Int×Int):=some (IntKind.wrap .u32 (bY .u64 n 32),IntKind.wrap .u32 n)
theorem BL (n:Int):∀r,vY n=some r->au Tryz.prog 174 0 [NI .u64 n] [] (.tup [NI .u32 r.1,NI .u32 r.2]) []:=
 aA 10 (.op 10004 .wr (.op 10008 .wr (.ret (IntKind.wrap .u32 (bY .u64 n 32),IntKind.wrap .u32 n)))) Tryz.func174
def Hr (a:Int) (b:Int) (c:Int) (d:Int):Option (Int×Int):=bif inK .u64 a then bif inK .u64 b then (kU [c,d]).bind fun x0=>(vY (IntKind.wrap .u64 ((IntKind.wrap .u64 (a*b))+x0))).bind fun x1=>some (x1.1,x1.2) else none else none
theorem Ql (a:Int) (b:Int) (c:Int) (d:Int):∀r,Hr a b c d=some r->au Tryz.prog 239 0 [NI .u32 a,NI .u32 b,NI .u32 c,NI .u32 d] [] (.tup [NI .u32 r.1,NI .u32 r.2]) []:=
 aA 10 (.call [] [] (yO [c,d]) (.yes fun _=>⟨rfl,trivial⟩) fun x0=>.call [] [] (BL (IntKind.wrap .u64 ((IntKind.wrap .u64 (a*b))+x0))) .no fun x1=>.ret (x1.1,x1.2)) Tryz.func239
def RJ (eU:Nat) (a:List Int) (w:Int) (c1:Int) (i:Nat) (out:List Int):St:=⟨37,1,[(0,.msl 0 0 none (some eU)),(1,SL K2 a),(2,NI .u32 w),(3,NI .u32 c1),(10,SL K2 a),(11,I (a.length:Int)),(12,I (i:Int))],[(0,ROW 1 K2 out 0)]⟩
def QE (eU:Nat) (a:List Int) (w:Int) (c1:Int) (out:List Int):St:=⟨37,1,[(0,.msl 0 0 none (some eU)),(1,SL K2 a),(3,NI .u32 c1)],[(0,ROW 1 K2 out 0)]⟩
def rX (eU:Nat) (a:List Int) (w:Int) (c1:Int) (i:Nat) (out:List Int):Option ((Int×Nat×List Int)⊕(Int×List Int)):=let y0:=i<out.length;bif decide ((i:Int)<(a.length:Int)) then G1 (i<a.length)<|G1 y0<|G1 y0<|(Hr (nth a i) w (nth out i) c1).bind fun x0=>G1 y0<|G1 y0<|G2 ((i:Int)+1)<|some (.inl (x0.1,i+1,out.set i x0.2)) else some (.inr (c1,out))
theorem QF (eU:Nat) (a:List Int) (w:Int):∀σ:Int×Nat×List Int,aU Tryz.prog (nav [0,1,0,0] (aQ Tryz.f220)) (fun (σ:Int×Nat×List Int)=>RJ eU a w σ.1 σ.2.1 σ.2.2) (fun (_:Int×List Int)=>(.exit 0)) (fun (y:Int×List Int)=>QE eU a w y.1 y.2) σ (rX eU a w σ.1 σ.2.1 σ.2.2)
 | (c1,i,out)=>aJ 1010 (.br 100000013 (.op 20002 (.el K2 a (.up i)) (.op 30012 (.el K2 out (.up i)) (.op 30014 (.ld K2 out) (.call [] [] (Ql (nth a i) w (nth out i) c1) .no fun x0=>.op 30028 (.el K2 out (.up i)) (.op 30030 (.st K2 out x0.2) (G3 [0,1,2,3,10,11,12] [0] (.ret (.inl (x0.1,i+1,out.set i x0.2))))))))) (G3 [0,1,3] [0] (.ret (.inr (c1,out)))))
def Nh (eU:Nat) (a:List Int) (w:Int) (c1:Int) (i:Nat) (out:List Int):Option (Int×List Int):=aT (fun (σ:Int×Nat×List Int)=>rX eU a w σ.1 σ.2.1 σ.2.2) FU (c1,i,out)
def Sz (eU:Nat) (a:List Int) (w:Int) (c1:Int) (i:Nat) (out:List Int):=
 bf (QF eU a w) (fun _ h=>by cases h) FU (c1,i,out)
def EG (o0:List Int) (eU:Nat) (a:List Int) (w:Int) (c:Int):Option (List Int):=(Nh eU a w c 0 o0).bind fun x0=>G1 (a.length<x0.2.length)<|G1 (a.length<x0.2.length)<|some (x0.2.set a.length x0.1)
theorem Xo (o0:List Int) (eU:Nat) (a:List Int) (w:Int) (c:Int):∀r,EG o0 eU a w c=some r->au Tryz.prog 220 1 [.msl 0 0 none (some eU),SL K2 a,NI .u32 w,NI .u32 c] [(0,ROW 1 K2 o0 0)] (.tup []) [(0,ROW 1 K2 r 0)]:=
 aA 10 (.op 2 (.ln K2 a) (G4 [0,1,2,3,10,11,12] [0] (.lp1 0 (Sz eU a w c 0 o0) fun x0=>.op 50004 (.ln K2 a) (.op 50008 (.el K2 x0.2 (.up a.length)) (.op 50010 (.st K2 x0.2 x0.1) (.ret (x0.2.set a.length x0.1))))))) Tryz.func220
def C9 (a:List Int) (w:Int) (c:Int):Option (List Int):=G2 ((a.length:Int)+1)<|G1 (a.length+1<=2147483648)<|(EG (List.replicate (a.length+1) 0) (a.length+1) a w c).bind fun x0=>(iy x0).bind fun x1=>some x1
theorem NQ (a:List Int) (w:Int) (c:Int):∀r,C9 a w c=some r->au Tryz.prog 213 0 [SL K2 a,NI .u32 w,NI .u32 c] [] (SL K2 r) []:=
 let y0:=a.length+1;aA 10 (.op 10002 (.ln K2 a) (.op 10006 (.mk K2 0 (.up y0)) (.call [10] [] (Xo (List.replicate y0 0) y0 a w c) .no fun x0=>.call [] [] (gZ x0) .no fun x1=>.ret x1))) Tryz.func213
def xg (a:List Int) (n:Int):Option (List Int):=G1 (0<=mxI 0 (mnI n 100000))<|G1 (0<32)<|G1 (mxI 0 (mnI n 100000)<=Go.Ab.hi .i64)<|G1 (0<=(mxI 0 (mnI n 100000))/32)<|G1 (((mxI 0 (mnI n 100000))/32).toNat<=2147483648)<|G1 (0<=mxI 0 (mnI n 100000))<|G1 (0<32)<|G1 (0<=(mxI 0 (mnI n 100000))%32)<|(C9 a (MO .u32 1 ((mxI 0 (mnI n 100000))%32)) 0).bind fun x0=>G1 ((List.replicate (((mxI 0 (mnI n 100000))/32).toNat) 0:List Int).length+x0.length<=2147483648)<|(iy ((List.replicate (((mxI 0 (mnI n 100000))/32).toNat) 0)++x0)).bind fun x1=>some x1
theorem Gw (a:List Int) (n:Int):∀r,xg a n=some r->au Tryz.prog 178 0 [SL K2 a,I n] [] (SL K2 r) []:=
 let y0:=List.replicate (((mxI 0 (mnI n 100000))/32).toNat) 0;aA 10 (.op 20004 (.mk K2 0 .dn) (.call [] [] (NQ a (MO .u32 1 ((mxI 0 (mnI n 100000))%32)) 0) .no fun x0=>.op 30012 (.ap K2 y0 x0 1 fun _=>⟨rfl,rfl⟩) (.call [] [] (gZ (y0++x0)) .no fun x1=>.ret x1))) Tryz.func178
def vG (hi:Int) (lo:Int) (d:Int):Option (Int×Int×Bool):=let y0:=MO .u64 hi 32;let y1:=0<=YV .u64 y0 lo;let y2:=YV .u64 y0 lo;bif decide (hi>=d) then some (0,0,false) else bif inK .u64 hi then bif inK .u64 lo then bif inK .u64 d then G1 y1<|G1 (0<d)<|G1 (YV .u64 y0 lo<=Go.Ab.hi .u64)<|bif inK .u64 d then G1 y1<|G1 (0<d)<|some (IntKind.wrap .u32 (y2/d),IntKind.wrap .u32 (y2%d),true) else none else none else none else none
theorem IG (hi:Int) (lo:Int) (d:Int):∀r,vG hi lo d=some r->au Tryz.prog 216 0 [NI .u32 hi,NI .u32 lo,NI .u32 d] [] (.tup [NI .u32 r.1,NI .u32 r.2.1,B r.2.2]) []:=
 let y0:=YV .u64 (MO .u64 hi 32) lo;aA 10 (.br 100000012 (.ret (0,0,false)) (.op 40008 .wr (.op 40018 .wr (.ret (IntKind.wrap .u32 (y0/d),IntKind.wrap .u32 (y0%d),true))))) Tryz.func216
def nR (rest:List Int) (b:List Int):Option Int:=let y0:=(b.length:Int);let y1:=(y0-1).toNat;let y2:=(y0-1).toNat<rest.length;let y3:=(y0-1).toNat<b.length;let y4:=(rest.length:Int);let y5:=nth rest y1;bif decide (y4<y0) then some 0 else bif decide (y4>y0) then G1 (b.length<rest.length)<|G2 (y0-1)<|G1 (0<=y0-1)<|G1 y2<|G2 (y0-1)<|G1 (0<=y0-1)<|G1 y3<|(vG (nth rest b.length) y5 (nth b y1)).bind fun x0=>bif !x0.2.2 then some 4294967295 else some x0.1 else G2 (y0-1)<|G1 (0<=y0-1)<|G1 y2<|G2 (y0-1)<|G1 (0<=y0-1)<|G1 y3<|(vG 0 y5 (nth b y1)).bind fun x0=>bif !x0.2.2 then some 4294967295 else some x0.1
theorem Wx (rest:List Int) (b:List Int):∀r,nR rest b=some r->au Tryz.prog 214 0 [SL K2 rest,SL K2 b] [] (NI .u32 r) []:=
 let y0:=((b.length:Int)-1).toNat;let y1:=nth rest y0;aA 10 (.op 10002 (.ln K2 b) (.op 20002 (.ln K2 rest) (.br 100000015 (.ret 0) (.op 50002 (.ln K2 rest) (.br 100000019 (.op 60004 (.el K2 rest (.up b.length)) (.op 70008 (.el K2 rest .dn) (.op 70018 (.el K2 b .dn) (.call [] [] (IG (nth rest b.length) y1 (nth b y0)) .no fun x0=>.br 100000041 (.ret 4294967295) (.ret x0.1))))) (.op 70008 (.el K2 rest .dn) (.op 70018 (.el K2 b .dn) (.call [] [] (IG 0 y1 (nth b y0)) .no fun x0=>.br 100000041 (.ret 4294967295) (.ret x0.1))))))))) Tryz.func214
def cmp_Compare_int (x:Int) (y:Int):Option Int:=(cmp_isNaN_int x).bind fun x0=>(cmp_isNaN_int y).bind fun x1=>bif x0 then bif x1 then some 0 else some (-1) else bif x1 then some 1 else bif decide (x<y) then some (-1) else bif decide (x>y) then some 1 else some 0
theorem gq (x:Int) (y:Int):∀r,cmp_Compare_int x y=some r->au Tryz.prog 61 0 [I x,I y] [] (I r) []:=
 aA 10 (.call [] [] (pX x) .no fun x0=>.call [] [] (pX y) .no fun x1=>.br 100000011 (.br 100000012 (.ret 0) (.ret (-1))) (.br 100000013 (.ret 1) (.br 100000016 (.ret (-1)) (.br 100000019 (.ret 1) (.ret 0))))) Tryz.func61
def pJ (x:Int):Option Bool:=some (x != x)
theorem yC (x:Int):∀r,pJ x=some r->au Tryz.prog 253 0 [NI .u32 x] [] (B r) []:=
 aA 10 (.ret (x != x)) Tryz.func253
def lQ (x:Int) (y:Int):Option Int:=(pJ x).bind fun x0=>(pJ y).bind fun x1=>bif x0 then bif x1 then some 0 else some (-1) else bif x1 then some 1 else bif decide (x<y) then some (-1) else bif decide (x>y) then some 1 else some 0
theorem FW (x:Int) (y:Int):∀r,lQ x y=some r->au Tryz.prog 237 0 [NI .u32 x,NI .u32 y] [] (I r) []:=
 aA 10 (.call [] [] (yC x) .no fun x0=>.call [] [] (yC y) .no fun x1=>.br 100000011 (.br 100000012 (.ret 0) (.ret (-1))) (.br 100000013 (.ret 1) (.br 100000016 (.ret (-1)) (.br 100000019 (.ret 1) (.ret 0))))) Tryz.func237
def ZF (a:List Int) (b:List Int) (x0:Int) (i:Nat):St:=⟨41,0,[(0,SL K2 a),(1,SL K2 b),(5,I x0),(18,I x0),(19,I (i:Int))],[]⟩
def Zn (a:List Int) (b:List Int) (x0:Int) (i:Int):St:=⟨41,0,[(4,I i)],[]⟩
def ZH (a:List Int) (b:List Int) (x0:Int):St:=⟨41,0,[],[]⟩
def jh (a:List Int) (b:List Int) (x0:Int) (i:Nat):Option (Nat⊕(Int⊕Unit)):=let y0:=(x0-1)-(i:Int);let y1:=0<=(x0-1)-(i:Int);bif decide ((i:Int)<x0) then G2 (x0-1)<|G2 y0<|G1 y1<|G1 (y0.toNat<a.length)<|G2 (x0-1)<|G2 y0<|G1 y1<|G1 (y0.toNat<b.length)<|(lQ (nth a (y0.toNat)) (nth b (y0.toNat))).bind fun x3=>bif x3 != 0 then some (.inr (.inl x3)) else G2 ((i:Int)+1)<|some (.inl (i+1)) else some (.inr (.inr ()))
theorem YZ (a:List Int) (b:List Int) (x0:Int):∀σ:Nat,aU Tryz.prog (nav [1,1,1,0,1,0,0] (aQ Tryz.f211)) (fun (σ:Nat)=>ZF a b x0 σ) (fun (y:Int⊕Unit)=>aN y (fun _=>.ret) (fun _=>(.exit 0))) (fun (y:Int⊕Unit)=>aN y (fun y=>Zn a b x0 y) (fun y=>ZH a b x0)) σ (jh a b x0 σ)
 | i=>let y0:=((x0-1)-(i:Int)).toNat;aJ 1010 (.br 100000020 (.op 80010 (.el K2 a .dn) (.op 80024 (.el K2 b .dn) (.call [] [] (FW (nth a y0) (nth b y0)) .no fun x3=>.br 100000038 (G3 [4] [] (.ret (.inr (.inl x3)))) (G3 [0,1,5,18,19] [] (.ret (.inl (i+1))))))) (G3 [] [] (.ret (.inr (.inr ())))))
def P6 (a:List Int) (b:List Int) (x0:Int) (i:Nat):Option (Int⊕Unit):=aT (fun (σ:Nat)=>jh a b x0 σ) FU i
def ZU (a:List Int) (b:List Int) (x0:Int) (i:Nat):=
 bf (YZ a b x0) (fun y h=>by rcases y with y | y<;>cases h) FU i
def Mc (a:List Int) (b:List Int):Option Int:=(rF a).bind fun x0=>(rF b).bind fun x1=>(cmp_Compare_int x0 x1).bind fun x2=>bif x2 != 0 then some x2 else (P6 a b x0 0).bind fun y_=>aN y_ (fun x3=>some x3) (fun x4=>some 0)
theorem Uy (a:List Int) (b:List Int):∀r,Mc a b=some r->au Tryz.prog 211 0 [SL K2 a,SL K2 b] [] (I r) []:=
 aA 10 (.call [] [] (oV a) .no fun x0=>.call [] [] (oV b) .no fun x1=>.call [] [] (gq x0 x1) .no fun x2=>.br 100000016 (.ret x2) (G4 [0,1,5,18,19] [] (.lp2 0 (ZU a b x0 0) (fun x3=>.ret x3) (fun x4=>.ret 0)))) Tryz.func211
def KC (a:List Int) (i:Int):Option Int:=bif decide (i<(a.length:Int)) then G1 (0<=i)<|G1 (i.toNat<a.length)<|some (nth a i.toNat) else some 0
theorem PW (a:List Int) (i:Int):∀r,KC a i=some r->au Tryz.prog 120 0 [SL K2 a,I i] [] (NI .u32 r) []:=
 aA 10 (.op 10004 (.ln K2 a) (.br 100000008 (.op 20004 (.el K2 a .dn) (.ret (nth a i.toNat))) (.ret 0))) Tryz.func120
def MR (a:Int) (b:Int) (c:Int):Option (Int×Int):=(kU [b,c]).bind fun x0=>bif inK .u64 a then (kU [IntKind.wrap .u32 (IntKind.wrap .u64 (a-x0))]).bind fun x1=>(vY (IntKind.wrap .u64 (x1+x0))).bind fun x2=>some (IntKind.wrap .u32 (IntKind.wrap .u64 (a-x0)),x2.1) else none
theorem aaJ (a:Int) (b:Int) (c:Int):∀r,MR a b c=some r->au Tryz.prog 238 0 [NI .u32 a,NI .u32 b,NI .u32 c] [] (.tup [NI .u32 r.1,NI .u32 r.2]) []:=
 aA 10 (.call [] [] (yO [b,c]) (.yes fun _=>⟨rfl,trivial⟩) fun x0=>.op 20008 .wr (.call [] [] (yO [IntKind.wrap .u32 (IntKind.wrap .u64 (a-x0))]) (.yes fun _=>⟨rfl,trivial⟩) fun x1=>.call [] [] (BL (IntKind.wrap .u64 (x1+x0))) .no fun x2=>.ret (IntKind.wrap .u32 (IntKind.wrap .u64 (a-x0)),x2.1))) Tryz.func238
def Y3 (a:List Int) (b:List Int) (x1:Int) (borrow:Int) (i:Nat) (out:List Int):St:=⟨40,0,[(0,SL K2 a),(1,SL K2 b),(7,.msl 10 0 none (some x1.toNat)),(8,NI .u32 borrow),(18,I x1),(19,I (i:Int))],[(10,ROW 1 K2 out 0)]⟩
def ZM (a:List Int) (b:List Int) (x1:Int) (out:List Int):St:=⟨40,0,[(7,.msl 10 0 none (some x1.toNat))],[(10,ROW 1 K2 out 0)]⟩
def vH (a:List Int) (b:List Int) (x1:Int) (borrow:Int) (i:Nat) (out:List Int):Option ((Int×Nat×List Int)⊕(List Int)):=let y0:=i<out.length;bif decide ((i:Int)<x1) then G1 (i<a.length)<|(KC b (i:Int)).bind fun x2=>(MR (nth a i) x2 borrow).bind fun x3=>G1 y0<|G1 y0<|G2 ((i:Int)+1)<|some (.inl (x3.2,i+1,out.set i x3.1)) else some (.inr out)
theorem Zy (a:List Int) (b:List Int) (x1:Int):∀σ:Int×Nat×List Int,aU Tryz.prog (nav [1,1,1,1,1,0,1,0,0] (aQ Tryz.f215)) (fun (σ:Int×Nat×List Int)=>Y3 a b x1 σ.1 σ.2.1 σ.2.2) (fun (_:List Int)=>(.exit 0)) (fun (y:List Int)=>ZM a b x1 y) σ (vH a b x1 σ.1 σ.2.1 σ.2.2)
 | (borrow,i,out)=>aJ 1010 (.br 100000020 (.op 90008 (.el K2 a (.up i)) (.call [] [] (PW b (i:Int)) .no fun x2=>.call [] [] (aaJ (nth a i) x2 borrow) .no fun x3=>.op 90028 (.el K2 out (.up i)) (.op 90030 (.st K2 out x3.1) (G3 [0,1,7,8,18,19] [10] (.ret (.inl (x3.2,i+1,out.set i x3.1))))))) (G3 [7] [10] (.ret (.inr out))))
def PV (a:List Int) (b:List Int) (x1:Int) (borrow:Int) (i:Nat) (out:List Int):Option (List Int):=aT (fun (σ:Int×Nat×List Int)=>vH a b x1 σ.1 σ.2.1 σ.2.2) FU (borrow,i,out)
def aai (a:List Int) (b:List Int) (x1:Int) (borrow:Int) (i:Nat) (out:List Int):=
 bf (Zy a b x1) (fun _ h=>by cases h) FU (borrow,i,out)
def Ja (a:List Int) (b:List Int):Option (List Int×Bool):=(Mc a b).bind fun x0=>bif decide (x0<0) then some ([],false) else (rF a).bind fun x1=>G1 (0<=x1)<|G1 (x1.toNat<=2147483648)<|(PV a b x1 0 0 (List.replicate x1.toNat 0)).bind fun x2=>(iy x2).bind fun x3=>some (x3,true)
theorem LQ (a:List Int) (b:List Int):∀r,Ja a b=some r->au Tryz.prog 215 0 [SL K2 a,SL K2 b] [] (.tup [SL K2 r.1,B r.2]) []:=
 aA 10 (.call [] [] (Uy a b) .no fun x0=>.br 100000013 (.ps 1000003 [.n 4] (.ret ([],false))) (.call [] [] (oV a) .no fun x1=>.op 40002 (.mk K2 0 .dn) (G4 [0,1,7,8,18,19] [10] (.lp1 0 (aai a b x1 0 0 (List.replicate x1.toNat 0)) fun x2=>.call [] [] (gZ x2) .no fun x3=>.ret (x3,true))))) Tryz.func215
def OX (rest:List Int) (b:List Int) (q:Int):St:=⟨26,0,[(0,SL K2 rest),(1,SL K2 b),(6,NI .u32 q)],[]⟩
def OV (rest:List Int) (b:List Int) (ai4:List Int) (q:Int):St:=⟨26,0,[(0,SL K2 ai4),(6,NI .u32 q)],[]⟩
def kX (rest:List Int) (b:List Int) (q:Int):Option (Int⊕(List Int×Int)):=(C9 b q 0).bind fun x1=>(Ja rest x1).bind fun x2=>bif x2.2 then some (.inr (x2.1,q)) else some (.inl (IntKind.wrap .u32 (q-1)))
theorem OB (rest:List Int) (b:List Int):∀σ:Int,aU Tryz.prog (nav [1,0,1,1,0,0,0] (aQ Tryz.f179)) (fun (σ:Int)=>OX rest b σ) (fun (_:List Int×Int)=>(.exit 0)) (fun (y:List Int×Int)=>OV rest b y.1 y.2) σ (kX rest b σ)
 | q=>aJ 1010 (.call [] [] (NQ b q 0) .no fun x1=>.call [] [] (LQ rest x1) .no fun x2=>.br 100000020 (G3 [0,6] [] (.ret (.inr (x2.1,q)))) (G3 [0,1,6] [] (.ret (.inl (IntKind.wrap .u32 (q-1))))))
def BK (rest:List Int) (b:List Int) (q:Int):Option (List Int×Int):=aT (fun (σ:Int)=>kX rest b σ) FU q
def Pn (rest:List Int) (b:List Int) (q:Int):=
 bf (OB rest b) (fun _ h=>by cases h) FU q
def xE (rest:List Int) (b:List Int):Option (Int×List Int):=(nR rest b).bind fun x0=>(BK rest b x0).bind fun x1=>some (x1.2,x1.1)
theorem Wu (rest:List Int) (b:List Int):∀r,xE rest b=some r->au Tryz.prog 179 0 [SL K2 rest,SL K2 b] [] (.tup [NI .u32 r.1,SL K2 r.2]) []:=
 aA 10 (.call [] [] (Wx rest b) .no fun x0=>G4 [0,1,6] [] (.lp1 0 (Pn rest b x0) fun x1=>.ret (x1.2,x1.1))) Tryz.func179
def Vy (x1:Int) (x2:List Int) (x3:List Int) (i:List Int) (i1:Int) (o:List Int):St:=⟨74,0,[(0,SL K2 x2),(1,SL K2 x3),(4,.msl 10 0 none (some x2.length)),(5,SL K2 i),(7,I (32-x1)),(8,I i1)],[(10,ROW 1 K2 o 0)]⟩
def U7 (x1:Int) (x2:List Int) (x3:List Int) (i:List Int) (o:List Int):St:=⟨74,0,[(4,.msl 10 0 none (some x2.length)),(5,SL K2 i),(7,I (32-x1))],[(10,ROW 1 K2 o 0)]⟩
def oN (x1:Int) (x2:List Int) (x3:List Int) (i:List Int) (i1:Int) (o:List Int):Option ((List Int×Int×List Int)⊕(List Int×List Int)):=let y0:=i1.toNat<o.length;bif decide (i1>=0) then G1 (0<=i1)<|G1 (i1.toNat<x2.length)<|G1 (1+i.length<=2147483648)<|(iy ([nth x2 i1.toNat]++i)).bind fun x4=>(xE x4 x3).bind fun x5=>G1 (0<=i1)<|G1 y0<|G1 y0<|G2 (i1-1)<|some (.inl (x5.2,i1-1,o.set i1.toNat x5.1)) else some (.inr (i,o))
theorem Wh (x1:Int) (x2:List Int) (x3:List Int):∀σ:List Int×Int×List Int,aU Tryz.prog (nav [1,1,1,1,1,1,0,1,0,0] (aQ Tryz.f123)) (fun (σ:List Int×Int×List Int)=>Vy x1 x2 x3 σ.1 σ.2.1 σ.2.2) (fun (_:List Int×List Int)=>(.exit 0)) (fun (y:List Int×List Int)=>U7 x1 x2 x3 y.1 y.2) σ (oN x1 x2 x3 σ.1 σ.2.1 σ.2.2)
 | (i,i1,o)=>aJ 1010 (.br 100000037 (.op 100008 (.el K2 x2 .dn) (.op 100016 (.ap K2 [nth x2 i1.toNat] i 1 fun _=>⟨rfl,rfl⟩) (.call [] [] (gZ ([nth x2 i1.toNat]++i)) .no fun x4=>.call [] [] (Wu x4 x3) .no fun x5=>.op 100030 (.el K2 o .dn) (.op 100032 (.st K2 o x5.1) (G3 [0,1,4,5,7,8] [10] (.ret (.inl (x5.2,i1-1,o.set i1.toNat x5.1)))))))) (G3 [4,5,7] [10] (.ret (.inr (i,o)))))
def AP (x1:Int) (x2:List Int) (x3:List Int) (i:List Int) (i1:Int) (o:List Int):Option (List Int×List Int):=aT (fun (σ:List Int×Int×List Int)=>oN x1 x2 x3 σ.1 σ.2.1 σ.2.2) FU (i,i1,o)
def Ui (x1:Int) (x2:List Int) (x3:List Int) (i:List Int) (i1:Int) (o:List Int):=
 bf (Wh x1 x2 x3) (fun _ h=>by cases h) FU (i,i1,o)
def sF (n:Int):Option (List Int):=(iy [IntKind.wrap .u32 n,IntKind.wrap .u32 (bY .u64 n 32)]).bind fun x0=>some x0
theorem kW (n:Int):∀r,sF n=some r->au Tryz.prog 36 0 [NI .u64 n] [] (SL K2 r) []:=
 aA 10 (.op 10002 .wr (.op 10008 .wr (.call [] [] (gZ [IntKind.wrap .u32 n,IntKind.wrap .u32 (bY .u64 n 32)]) .no fun x0=>.ret x0))) Tryz.func36
def MG (kE:Nat) (rG:Nat) (eU:Nat) (a:List Int) (w:Int) (c1:Int) (i:Nat) (out:List Int):St:=⟨37,1,[(0,.msl 0 kE (some rG) (some eU)),(1,SL K2 a),(2,NI .u32 w),(3,NI .u32 c1),(10,SL K2 a),(11,I (a.length:Int)),(12,I (i:Int))],[(0,ROW 1 K2 out 0)]⟩
def Oc (kE:Nat) (rG:Nat) (eU:Nat) (a:List Int) (w:Int) (c1:Int) (out:List Int):St:=⟨37,1,[(0,.msl 0 kE (some rG) (some eU)),(1,SL K2 a),(3,NI .u32 c1)],[(0,ROW 1 K2 out 0)]⟩
def gG (kE:Nat) (rG:Nat) (eU:Nat) (a:List Int) (w:Int) (c1:Int) (i:Nat) (out:List Int):Option ((Int×Nat×List Int)⊕(Int×List Int)):=let y0:=plus kE i<out.length;bif decide ((i:Int)<(a.length:Int)) then G1 (i<a.length)<|G1 (i<rG)<|G1 y0<|(Hr (nth a i) w (nth out (plus kE i)) c1).bind fun x0=>G1 (i<rG)<|G1 y0<|G2 ((i:Int)+1)<|some (.inl (x0.1,i+1,out.set (plus kE i) x0.2)) else some (.inr (c1,out))
theorem NV (kE:Nat) (rG:Nat) (eU:Nat) (a:List Int) (w:Int):∀σ:Int×Nat×List Int,aU Tryz.prog (nav [0,1,0,0] (aQ Tryz.f220)) (fun (σ:Int×Nat×List Int)=>MG kE rG eU a w σ.1 σ.2.1 σ.2.2) (fun (_:Int×List Int)=>(.exit 0)) (fun (y:Int×List Int)=>Oc kE rG eU a w y.1 y.2) σ (gG kE rG eU a w σ.1 σ.2.1 σ.2.2)
 | (c1,i,out)=>aJ 1010 (.br 100000013 (.op 20002 (.el K2 a (.up i)) (.op 30012 (.el K2 out (.up i)) (.op 30014 (.ld K2 out) (.call [] [] (Ql (nth a i) w (nth out (plus kE i)) c1) .no fun x0=>.op 30028 (.el K2 out (.up i)) (.op 30030 (.st K2 out x0.2) (G3 [0,1,2,3,10,11,12] [0] (.ret (.inl (x0.1,i+1,out.set (plus kE i) x0.2))))))))) (G3 [0,1,3] [0] (.ret (.inr (c1,out)))))
def F9 (kE:Nat) (rG:Nat) (eU:Nat) (a:List Int) (w:Int) (c1:Int) (i:Nat) (out:List Int):Option (Int×List Int):=aT (fun (σ:Int×Nat×List Int)=>gG kE rG eU a w σ.1 σ.2.1 σ.2.2) FU (c1,i,out)
def MP (kE:Nat) (rG:Nat) (eU:Nat) (a:List Int) (w:Int) (c1:Int) (i:Nat) (out:List Int):=
 bf (NV kE rG eU a w) (fun _ h=>by cases h) FU (c1,i,out)
def yI (o0:List Int) (kE:Nat) (rG:Nat) (eU:Nat) (a:List Int) (w:Int) (c:Int):Option (List Int):=(F9 kE rG eU a w c 0 o0).bind fun x0=>G1 (a.length<rG)<|G1 (plus kE a.length<x0.2.length)<|some (x0.2.set (plus kE a.length) x0.1)
theorem Sm (o0:List Int) (kE:Nat) (rG:Nat) (eU:Nat) (a:List Int) (w:Int) (c:Int):∀r,yI o0 kE rG eU a w c=some r->au Tryz.prog 220 1 [.msl 0 kE (some rG) (some eU),SL K2 a,NI .u32 w,NI .u32 c] [(0,ROW 1 K2 o0 0)] (.tup []) [(0,ROW 1 K2 r 0)]:=
 aA 10 (.op 2 (.ln K2 a) (G4 [0,1,2,3,10,11,12] [0] (.lp1 0 (MP kE rG eU a w c 0 o0) fun x0=>.op 50004 (.ln K2 a) (.op 50008 (.el K2 x0.2 (.up a.length)) (.op 50010 (.st K2 x0.2 x0.1) (.ret (x0.2.set (plus kE a.length) x0.1))))))) Tryz.func220
def UY (a:List Int) (b:List Int) (i:Nat) (out:List Int):St:=⟨39,0,[(0,SL K2 a),(5,.msl 10 0 none (some ((a.length+b.length)+1))),(16,SL K2 b),(17,I (b.length:Int)),(18,I (i:Int))],[(10,ROW 1 K2 out 0)]⟩
def TG (a:List Int) (b:List Int) (out:List Int):St:=⟨39,0,[(5,.msl 10 0 none (some ((a.length+b.length)+1)))],[(10,ROW 1 K2 out 0)]⟩
def oI (a:List Int) (b:List Int) (i:Nat) (out:List Int):Option ((Nat×List Int)⊕(List Int)):=let y0:=i+a.length;let y1:=y0+1<=(a.length+b.length)+1;let y2:=(i:Int)+(a.length:Int);bif decide ((i:Int)<(b.length:Int)) then G1 (i<b.length)<|G2 y2<|G2 (y2+1)<|G1 (i<=y0+1)<|G1 (0+(y0+1)<=(out.map K2).length)<|G1 y1<|bif (decide (y0+1<=y0+1)&&decide y1) then (yI out i ((y0+1)-i) ((y0+1)-i) a (nth b i) 0).bind fun x0=>G2 ((i:Int)+1)<|some (.inl (i+1,x0)) else none else some (.inr out)
theorem Vs (a:List Int) (b:List Int):∀σ:Nat×List Int,aU Tryz.prog (nav [1,1,0,1,0,0] (aQ Tryz.f191)) (fun (σ:Nat×List Int)=>UY a b σ.1 σ.2) (fun (_:List Int)=>(.exit 0)) (fun (y:List Int)=>TG a b y) σ (oI a b σ.1 σ.2)
 | (i,out)=>let y0:=(i+a.length)+1;aJ 1010 (.br 100000019 (.op 40002 (.el K2 b (.up i)) (.op 50004 (.ln K2 a) (.op 60008 (.sb (.up i) (.up y0) (.up y0)) (.call [10] [] (Sm out i (y0-i) (y0-i) a (nth b i) 0) .no fun x0=>G3 [0,5,16,17,18] [10] (.ret (.inl (i+1,x0))))))) (G3 [5] [10] (.ret (.inr out))))
def Gt (a:List Int) (b:List Int) (i:Nat) (out:List Int):Option (List Int):=aT (fun (σ:Nat×List Int)=>oI a b σ.1 σ.2) FU (i,out)
def U6 (a:List Int) (b:List Int) (i:Nat) (out:List Int):=
 bf (Vs a b) (fun _ h=>by cases h) FU (i,out)
def pY (a:List Int) (b:List Int):Option (List Int):=G2 ((a.length:Int)+(b.length:Int))<|G2 (((a.length:Int)+(b.length:Int))+1)<|G1 ((a.length+b.length)+1<=2147483648)<|(Gt a b 0 (List.replicate ((a.length+b.length)+1) 0)).bind fun x0=>(iy x0).bind fun x1=>some x1
theorem pO (a:List Int) (b:List Int):∀r,pY a b=some r->au Tryz.prog 191 0 [SL K2 a,SL K2 b] [] (SL K2 r) []:=
 let y0:=(a.length+b.length)+1;aA 10 (.op 10002 (.ln K2 a) (.op 10006 (.ln K2 b) (.op 10012 (.mk K2 0 (.up y0)) (.op 20002 (.ln K2 b) (G4 [0,5,16,17,18] [10] (.lp1 0 (U6 a b 0 (List.replicate y0 0)) fun x0=>.call [] [] (gZ x0) .no fun x1=>.ret x1)))))) Tryz.func191
def WL (a:List Int) (n:Int) (x0:Int) (out:List Int) (i:Nat):St:=⟨40,0,[(0,SL K2 a),(6,I x0),(8,SL K2 out),(30,I (mnI n 1)),(31,I (i:Int))],[]⟩
def TL (a:List Int) (n:Int) (x0:Int) (out:List Int):St:=⟨40,0,[(8,SL K2 out)],[]⟩
def Ho (a:List Int) (n:Int) (x0:Int) (out:List Int) (i:Nat):Option ((List Int×Nat)⊕(List Int)):=bif decide ((i:Int)<(mnI n 1)) then G1 (0<=x0)<|G1 (0<=x0.toNat)<|G1 (x0.toNat<=a.length)<|(pY out (a.take x0.toNat)).bind fun x3=>G2 ((i:Int)+1)<|some (.inl (x3,i+1)) else some (.inr out)
theorem UR (a:List Int) (n:Int) (x0:Int):∀σ:List Int×Nat,aU Tryz.prog (nav [1,1,1,1,1,1,0,1,0,0] (aQ Tryz.f180)) (fun (σ:List Int×Nat)=>WL a n x0 σ.1 σ.2) (fun (_:List Int)=>(.exit 0)) (fun (y:List Int)=>TL a n x0 y) σ (Ho a n x0 σ.1 σ.2)
 | (out,i)=>aJ 1010 (.br 100000032 (.op 100006 (.sl K2 a 1 (fun _=>rfl) (.up 0) .dn) (.call [] [] (pO out (a.take x0.toNat)) .no fun x3=>G3 [0,6,8,30,31] [] (.ret (.inl (x3,i+1))))) (G3 [8] [] (.ret (.inr out))))
def Qr (a:List Int) (n:Int) (x0:Int) (out:List Int) (i:Nat):Option (List Int):=aT (fun (σ:List Int×Nat)=>Ho a n x0 σ.1 σ.2) FU (out,i)
def Iz (a:List Int) (n:Int) (x0:Int) (out:List Int) (i:Nat):=
 bf (UR a n x0) (fun _ h=>by cases h) FU (out,i)
def Ox (a:List Int) (n:Int) (x0:Int) (out:List Int) (i:Nat):St:=⟨40,0,[(0,SL K2 a),(6,I x0),(8,SL K2 out),(30,I n),(31,I (i:Int))],[]⟩
def Oi (a:List Int) (n:Int) (x0:Int) (out:List Int):St:=⟨40,0,[(8,SL K2 out)],[]⟩
def kP (a:List Int) (n:Int) (x0:Int) (out:List Int) (i:Nat):Option ((List Int×Nat)⊕(List Int)):=bif decide ((i:Int)<n) then G1 (0<=x0)<|G1 (0<=x0.toNat)<|G1 (x0.toNat<=a.length)<|(pY out (a.take x0.toNat)).bind fun x3=>G2 ((i:Int)+1)<|some (.inl (x3,i+1)) else some (.inr out)
theorem Oo (a:List Int) (n:Int) (x0:Int):∀σ:List Int×Nat,aU Tryz.prog (nav [1,1,1,1,1,1,0,1,0,0] (aQ Tryz.f180)) (fun (σ:List Int×Nat)=>Ox a n x0 σ.1 σ.2) (fun (_:List Int)=>(.exit 0)) (fun (y:List Int)=>Oi a n x0 y) σ (kP a n x0 σ.1 σ.2)
 | (out,i)=>aJ 1010 (.br 100000032 (.op 100006 (.sl K2 a 1 (fun _=>rfl) (.up 0) .dn) (.call [] [] (pO out (a.take x0.toNat)) .no fun x3=>G3 [0,6,8,30,31] [] (.ret (.inl (x3,i+1))))) (G3 [8] [] (.ret (.inr out))))
def BA (a:List Int) (n:Int) (x0:Int) (out:List Int) (i:Nat):Option (List Int):=aT (fun (σ:List Int×Nat)=>kP a n x0 σ.1 σ.2) FU (out,i)
def DW (a:List Int) (n:Int) (x0:Int) (out:List Int) (i:Nat):=
 bf (Oo a n x0) (fun _ h=>by cases h) FU (out,i)
def uG (a:List Int) (n:Int):Option (List Int×Bool):=(rF a).bind fun x0=>(jU a).bind fun x1=>bif decide (n<0) then some ([],false) else bif decide (x1>1) then G1 (0<=4096)<|G1 (0<x0)<|G1 (4096<=Go.Ab.hi .i64)<|bif decide (n>(4096/x0)) then some ([],false) else bif !(decide (x1>1)) then (sF 1).bind fun x2=>(Qr a n x0 x2 0).bind fun x3=>some (x3,true) else (sF 1).bind fun x2=>(BA a n x0 x2 0).bind fun x3=>some (x3,true) else bif !(decide (x1>1)) then (sF 1).bind fun x2=>(Qr a n x0 x2 0).bind fun x3=>some (x3,true) else (sF 1).bind fun x2=>(BA a n x0 x2 0).bind fun x3=>some (x3,true)
theorem uM (a:List Int) (n:Int):∀r,uG a n=some r->au Tryz.prog 180 0 [SL K2 a,I n] [] (.tup [SL K2 r.1,B r.2]) []:=
 aA 10 (.call [] [] (oV a) .no fun x0=>.call [] [] (tN a) .no fun x1=>.br 30006 (.ps 1000003 [.n 4] (.ret ([],false))) (.br 30010 (.br 100000024 (.ps 1000003 [.n 4] (.ret ([],false))) (.br 100000026 (.call [] [] (kW 1) .no fun x2=>G4 [0,6,8,30,31] [] (.lp1 0 (Iz a n x0 x2 0) fun x3=>.ret (x3,true))) (.call [] [] (kW 1) .no fun x2=>G4 [0,6,8,30,31] [] (.lp1 0 (DW a n x0 x2 0) fun x3=>.ret (x3,true))))) (.br 100000026 (.call [] [] (kW 1) .no fun x2=>G4 [0,6,8,30,31] [] (.lp1 0 (Iz a n x0 x2 0) fun x3=>.ret (x3,true))) (.call [] [] (kW 1) .no fun x2=>G4 [0,6,8,30,31] [] (.lp1 0 (DW a n x0 x2 0) fun x3=>.ret (x3,true)))))) Tryz.func180
def OW (a:List Int) (d:Int) (r:Int) (i:Int) (q:List Int):St:=⟨37,0,[(0,SL K2 a),(1,NI .u32 d),(4,.msl 10 0 none (some a.length)),(5,NI .u32 r),(7,I i)],[(10,ROW 1 K2 q 0)]⟩
def OM (a:List Int) (d:Int) (r:Int) (q:List Int):St:=⟨37,0,[(4,.msl 10 0 none (some a.length)),(5,NI .u32 r)],[(10,ROW 1 K2 q 0)]⟩
def kY (a:List Int) (d:Int) (r:Int) (i:Int) (q:List Int):Option ((Int×Int×List Int)⊕(Int×List Int)):=let y0:=i.toNat<q.length;bif decide (i>=0) then G1 (0<=i)<|G1 (i.toNat<a.length)<|(vG r (nth a i.toNat) d).bind fun x0=>G1 (0<=i)<|G1 y0<|G1 y0<|G2 (i-1)<|some (.inl (x0.2.1,i-1,q.set i.toNat x0.1)) else some (.inr (r,q))
theorem PX (a:List Int) (d:Int):∀σ:Int×Int×List Int,aU Tryz.prog (nav [1,1,1,0,1,0,0] (aQ Tryz.f181)) (fun (σ:Int×Int×List Int)=>OW a d σ.1 σ.2.1 σ.2.2) (fun (_:Int×List Int)=>(.exit 0)) (fun (y:Int×List Int)=>OM a d y.1 y.2) σ (kY a d σ.1 σ.2.1 σ.2.2)
 | (r,i,q)=>aJ 1010 (.br 100000017 (.op 70010 (.el K2 a .dn) (.call [] [] (IG r (nth a i.toNat) d) .no fun x0=>.op 70026 (.el K2 q .dn) (.op 70028 (.st K2 q x0.1) (G3 [0,1,4,5,7] [10] (.ret (.inl (x0.2.1,i-1,q.set i.toNat x0.1))))))) (G3 [4,5] [10] (.ret (.inr (r,q)))))
def BI (a:List Int) (d:Int) (r:Int) (i:Int) (q:List Int):Option (Int×List Int):=aT (fun (σ:Int×Int×List Int)=>kY a d σ.1 σ.2.1 σ.2.2) FU (r,i,q)
def Px (a:List Int) (d:Int) (r:Int) (i:Int) (q:List Int):=
 bf (PX a d) (fun _ h=>by cases h) FU (r,i,q)
def lq (a:List Int) (d:Int):Option (List Int×Int×Bool):=let y0:=(a.length:Int)-1;bif d==0 then some ([],0,false) else G1 (a.length<=2147483648)<|G2 y0<|(BI a d 0 y0 (List.replicate a.length 0)).bind fun x0=>(iy x0.2).bind fun x1=>some (x1,x0.1,true)
theorem nV (a:List Int) (d:Int):∀r,lq a d=some r->au Tryz.prog 181 0 [SL K2 a,NI .u32 d] [] (.tup [SL K2 r.1,NI .u32 r.2.1,B r.2.2]) []:=
 aA 10 (.br 100000009 (.ps 1000003 [.n 4] (.ret ([],0,false))) (.op 30002 (.ln K2 a) (.op 30004 (.mk K2 0 (.up a.length)) (.op 40002 (.ln K2 a) (G4 [0,1,4,5,7] [10] (.lp1 0 (Px a d 0 ((a.length:Int)-1) (List.replicate a.length 0)) fun x0=>.call [] [] (gZ x0.2) .no fun x1=>.ret (x1,x0.1,true))))))) Tryz.func181
def uh (tA:List Int) (a:List Int):Option (List Int×List Int×Bool):=(iy a).bind fun x0=>bif (x0.length:Int)==0 then some ([],[],false) else G2 ((x0.length:Int)-1)<|G1 (0<=(x0.length:Int)-1)<|G1 (((x0.length:Int)-1).toNat<x0.length)<|(tC (nth x0 (((x0.length:Int)-1).toNat))).bind fun x1=>G2 (32-x1)<|(xg tA (32-x1)).bind fun x2=>(xg x0 (32-x1)).bind fun x3=>G1 (x2.length<=2147483648)<|G2 ((x2.length:Int)-1)<|(AP x1 x2 x3 [] ((x2.length:Int)-1) (List.replicate x2.length 0)).bind fun x4=>(uG [2] (32-x1)).bind fun x5=>G1 (0<x5.1.length)<|(lq x4.1 (nth x5.1 0)).bind fun x6=>(iy x4.2).bind fun x7=>some (x7,x6.1,true)
theorem Ec (tA:List Int) (a:List Int):∀r,uh tA a=some r->au Tryz.prog 123 0 [SL K2 tA,SL K2 a] [] (.tup [SL K2 r.1,SL K2 r.2.1,B r.2.2]) []:=
 aA 10 (.call [] [] (gZ a) .no fun x0=>.op 20002 (.ln K2 x0) (.br 100000015 (.ps 1000003 [.n 4,.n 5] (.ret ([],[],false))) (.op 40004 (.ln K2 x0) (.op 40008 (.el K2 x0 .dn) (.call [] [] (MS (nth x0 (((x0.length:Int)-1).toNat))) .no fun x1=>.call [] [] (Gw tA (32-x1)) .no fun x2=>.call [] [] (Gw x0 (32-x1)) .no fun x3=>.op 60002 (.ln K2 x2) (.op 60004 (.mk K2 0 (.up x2.length)) (.op 70002 (.ln K2 x2) (.ps 1000001 [.n 5,.k [0,1,4,5,7,8] [10]] (.lp1 0 (Ui x1 x2 x3 [] ((x2.length:Int)-1) (List.replicate x2.length 0)) fun x4=>.call [] [] (uM [2] (32-x1)) .no fun x5=>.op 120004 (.el K2 x5.1 (.up 0)) (.call [] [] (nV x4.1 (nth x5.1 0)) .no fun x6=>.call [] [] (gZ x4.2) .no fun x7=>.ret (x7,x6.1,true))))))))))) Tryz.func123
end Go.Ab.M
