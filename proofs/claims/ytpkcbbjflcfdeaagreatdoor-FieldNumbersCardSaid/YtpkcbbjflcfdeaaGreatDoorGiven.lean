/- The given contracts, together. Conditions: those of the texts named. -/
import Derived.Test.YtpkcbbjflcfdeaaGreatDoorText
import Derived.Test.YtpkcbbjflcfdeaaGreatDoorParse
